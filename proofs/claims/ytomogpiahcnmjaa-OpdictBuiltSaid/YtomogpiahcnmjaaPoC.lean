/- What a valid dictionary is, and what finding in it means: plain lists, no program in sight. -/
import Derived.Test.YtomogpiahcnmjaaPoB
namespace Go.Proofs.Ytomogpiahcnmjaa.P
open Go.RowKit Go.Proofs.YtomogpiahcnmjaaW.PrintWords Go.Proofs.YtomogpiahcnmjaaW.PrintLast Go.Proofs.YtomogpiahcnmjaaW.PrintMore
def Dict (l : List S27) : Prop := (∀ x ∈ l, properB x.f0 x.f1 = true) ∧ l.Pairwise (fun x y => x.f0 ≠ y.f0) ∧ l.length ≤ 200
theorem chk_iff (xs : List S27) : ∀ seen : List S27, chk seen xs = true ↔ (∀ x ∈ xs, properB x.f0 x.f1 = true) ∧ xs.Pairwise (fun x y => x.f0 ≠ y.f0) ∧ ∀ y ∈ seen, ∀ x ∈ xs, y.f0 ≠ x.f0 := by
  induction xs with
  | nil => intro seen; simp [chk]
  | cons x xs ih =>
    intro seen
    have hany : (!(seen.any fun y => y.f0.toList == x.f0.toList)) = true ↔ ∀ y ∈ seen, y.f0 ≠ x.f0 := by
      rw [Bool.not_eq_true', List.any_eq_false]
      simp only [beq_iff_eq, toList_inj]
    simp only [chk, Bool.and_eq_true, ih, List.mem_cons, List.pairwise_cons, List.mem_append]
    rw [hany]
    constructor
    · rintro ⟨⟨h1, h2⟩, h3, h4, h5⟩
      refine ⟨?_, ⟨fun z hz => h5 x (.inr (.inl rfl)) z hz, h4⟩, ?_⟩
      · rintro z (rfl | hz)
        · exact h1
        · exact h3 z hz
      · rintro y hy z (rfl | hz)
        · exact h2 y hy
        · exact h5 y (.inl hy) z hz
    · rintro ⟨h1, ⟨h2, h3⟩, h4⟩
      refine ⟨⟨h1 x (.inl rfl), fun y hy => h4 y hy x (.inl rfl)⟩, fun z hz => h1 z (.inr hz), h3, ?_⟩
      rintro y (hy | hy) z hz
      · exact h4 y hy z (.inr hz)
      · rcases hy with rfl | hy
        · exact h2 z hz
        · cases hy
theorem validB_iff (l : List S27) : validB l = true ↔ Dict l := by
  rw [validB_chk, Bool.and_eq_true, chk_iff]
  simp [Dict]
  constructor
  · rintro ⟨⟨a, b⟩, c⟩; exact ⟨a, b, c⟩
  · rintro ⟨a, b, c⟩; exact ⟨⟨a, b⟩, c⟩
theorem pText_iff (t : ByteArray) (x : S27) : pText t x = true ↔ x.f0 = t := by simp [pText, toList_inj]
theorem findS_mem {l : List S27} (h : l.Pairwise (fun x y => x.f0 ≠ y.f0)) {x : S27} (hx : x ∈ l) : findS l x.f0 = x := by
  unfold findS
  induction l with
  | nil => cases hx
  | cons y ys ih =>
    rw [List.pairwise_cons] at h
    rw [List.find?_cons]
    by_cases hy : pText x.f0 y = true
    · rw [hy]
      rcases List.mem_cons.1 hx with rfl | hx'
      · rfl
      · exact absurd ((pText_iff _ _).1 hy) (h.1 x hx')
    · have hy' : pText x.f0 y = false := by simpa using hy
      rw [hy']
      rcases List.mem_cons.1 hx with rfl | hx'
      · exact absurd ((pText_iff _ _).2 rfl) hy
      · exact ih h.2 hx'
theorem findS_none {l : List S27} {t : ByteArray} (h : ∀ x ∈ l, x.f0 ≠ t) : findS l t = ⟨t, 0, false, false⟩ := by
  unfold findS
  have : l.find? (pText t) = none := by
    rw [List.find?_eq_none]
    intro x hx hp
    exact h x hx ((pText_iff _ _).1 hp)
  rw [this]
  rfl
/-- Two dictionaries with the same entries find the same. -/
theorem findS_same {l m : List S27} (hl : l.Pairwise (fun x y => x.f0 ≠ y.f0)) (hm : m.Pairwise (fun x y => x.f0 ≠ y.f0)) (h : ∀ x, x ∈ l ↔ x ∈ m) (t : ByteArray) : findS l t = findS m t := by
  by_cases ht : ∃ x ∈ l, x.f0 = t
  · obtain ⟨x, hx, rfl⟩ := ht
    rw [findS_mem hl hx, findS_mem hm ((h x).1 hx)]
  · rw [findS_none (fun x hx e => ht ⟨x, hx, e⟩), findS_none (fun x hx e => ht ⟨x, (h x).2 hx, e⟩)]
theorem Dict.reverse {l : List S27} (h : Dict l) : Dict l.reverse := by
  obtain ⟨h1, h2, h3⟩ := h
  exact ⟨fun x hx => h1 x (by simpa using hx), by rw [List.pairwise_reverse]; exact h2.imp (fun h => Ne.symm h), by simpa using h3⟩
end Go.Proofs.Ytomogpiahcnmjaa.P
