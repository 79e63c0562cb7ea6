/- What With does to a dictionary: plain lists, no program in sight. -/
import Derived.Test.YtomogpiahcnmjaaPoD
namespace Go.Proofs.Ytomogpiahcnmjaa.P
open Go.RowKit Go.Proofs.YtomogpiahcnmjaaW.PrintWords Go.Proofs.YtomogpiahcnmjaaW.PrintLast Go.Proofs.YtomogpiahcnmjaaW.PrintMore
theorem withS_cases (l : List S27) (e : S27) :
    (withS l e = ([], 1) ∧ ¬ (validB l = true ∧ properB e.f0 e.f1 = true)) ∨
    (Dict l ∧ properB e.f0 e.f1 = true ∧ ((∃ i, ∃ h : i < l.length, l[i].f0 = e.f0 ∧ withS l e = (l.set i e, 0)) ∨ ((∀ x ∈ l, x.f0 ≠ e.f0) ∧ ((l.length = 200 ∧ withS l e = ([], 6)) ∨ (l.length < 200 ∧ withS l e = (l ++ [e], 0)))))) := by
  unfold withS
  by_cases hc : validB l = true ∧ properB e.f0 e.f1 = true
  · refine .inr ⟨(validB_iff l).1 hc.1, hc.2, ?_⟩
    rw [if_pos hc]
    unfold putS
    rcases findFrom_cases (pText e.f0) l 0 with ⟨i, h, h1, h2, _, _⟩ | ⟨h1, _, h3⟩
    · refine .inl ⟨i, h, (pText_iff _ _).1 h1, ?_⟩
      rw [h2, if_pos (by omega)]
      simp
    · refine .inr ⟨fun x hx hf => ?_, ?_⟩
      · have := h3 x hx
        rw [(pText_iff _ _).2 hf] at this
        cases this
      · rw [h1, if_neg (show ¬ ((0 : Int) ≤ -1) by omega)]
        have h200 := ((validB_iff l).1 hc.1).2.2
        by_cases h2 : 200 ≤ l.length
        · exact .inl ⟨by omega, by rw [if_pos h2]⟩
        · exact .inr ⟨by omega, by rw [if_neg h2]⟩
  · exact .inl ⟨by rw [if_neg hc], hc⟩
theorem findS_ne {l m : List S27} (hl : l.Pairwise (fun x y => x.f0 ≠ y.f0)) (hm : m.Pairwise (fun x y => x.f0 ≠ y.f0)) {t : ByteArray} (h1 : ∀ x ∈ l, x.f0 = t → x ∈ m) (h2 : ∀ x ∈ m, x.f0 = t → x ∈ l) : findS m t = findS l t := by
  by_cases ht : ∃ x ∈ l, x.f0 = t
  · obtain ⟨x, hx, rfl⟩ := ht
    rw [findS_mem hl hx, findS_mem hm (h1 x hx rfl)]
  · rw [findS_none (fun x hx e => ht ⟨x, hx, e⟩), findS_none (fun x hx e => ht ⟨x, h2 x hx e, e⟩)]
theorem pw_map (l : List S27) : l.Pairwise (fun x y => x.f0 ≠ y.f0) ↔ (l.map (·.f0)).Pairwise (· ≠ ·) := by rw [List.pairwise_map]
theorem withS_ok {l : List S27} {e : S27} (h : (withS l e).2 = 0) :
    Dict (withS l e).1 ∧ e ∈ (withS l e).1 ∧ (∀ t, t ≠ e.f0 → findS (withS l e).1 t = findS l t) ∧ properB e.f0 e.f1 = true ∧ (withS l e).1.length ≤ l.length + 1 := by
  rcases withS_cases l e with ⟨h1, _⟩ | ⟨hd, hp, ⟨i, hi, hf, h1⟩ | ⟨hn, ⟨_, h1⟩ | ⟨h2, h1⟩⟩⟩
  · rw [h1] at h; exact absurd h (by decide)
  · rw [h1]
    have hmap : (l.set i e).map (·.f0) = l.map (·.f0) := by
      rw [List.map_set, ← hf]
      apply List.ext_getElem
      · simp
      · intro j h1 h2
        rw [List.getElem_set]
        split
        · rename_i hji; subst hji; simp
        · rfl
    have hpw : (l.set i e).Pairwise (fun x y => x.f0 ≠ y.f0) := by rw [pw_map, hmap, ← pw_map]; exact hd.2.1
    refine ⟨⟨fun x hx => ?_, hpw, by simpa using hd.2.2⟩, List.mem_set hi e, fun t ht => findS_ne hd.2.1 hpw (fun x hx hxt => ?_) (fun x hx hxt => ?_), hp, by simp⟩
    · rcases List.mem_or_eq_of_mem_set hx with hx | rfl
      · exact hd.1 x hx
      · exact hp
    · obtain ⟨j, hj, rfl⟩ := List.getElem_of_mem hx
      have hij : i ≠ j := by
        rintro rfl
        exact ht (hxt.symm.trans hf)
      have : (l.set i e)[j]'(by simpa using hj) = l[j] := by rw [List.getElem_set_ne hij]
      rw [← this]
      exact List.getElem_mem _
    · rcases List.mem_or_eq_of_mem_set hx with hx | rfl
      · exact hx
      · exact absurd hxt.symm ht
  · rw [h1] at h; exact absurd h (by decide)
  · rw [h1]
    have hpw : (l ++ [e]).Pairwise (fun x y => x.f0 ≠ y.f0) := by
      rw [List.pairwise_append]
      refine ⟨hd.2.1, by simp, fun x hx y hy => ?_⟩
      rw [List.mem_singleton.1 hy]
      exact hn x hx
    refine ⟨⟨fun x hx => ?_, hpw, by simp; omega⟩, by simp, fun t ht => findS_ne hd.2.1 hpw (fun x hx _ => by simp [hx]) (fun x hx hxt => ?_), hp, by simp⟩
    · rcases List.mem_append.1 hx with hx | hx
      · exact hd.1 x hx
      · rw [List.mem_singleton.1 hx]; exact hp
    · rcases List.mem_append.1 hx with hx | hx
      · exact hx
      · rw [List.mem_singleton.1 hx] at hxt; exact absurd hxt.symm ht
/-- An entry that is there already: nothing changes. -/
theorem withS_there {m : List S27} {e : S27} (hd : Dict m) (he : e ∈ m) (hp : properB e.f0 e.f1 = true) : withS m e = (m, 0) := by
  rcases withS_cases m e with ⟨_, h1⟩ | ⟨_, _, ⟨i, hi, hf, h1⟩ | ⟨hn, _⟩⟩
  · exact absurd ⟨(validB_iff m).2 hd, hp⟩ h1
  · rw [h1]
    have : m[i] = e := by
      rw [← findS_mem hd.2.1 he, ← hf, findS_mem hd.2.1 (List.getElem_mem hi)]
    rw [← this, List.set_getElem_self]
  · exact absurd rfl (hn e he)
theorem withS_bad {l : List S27} {e : S27} (h : (withS l e).2 ≠ 0) : (withS l e).1 = [] := by
  rcases withS_cases l e with ⟨h1, _⟩ | ⟨_, _, ⟨i, hi, hf, h1⟩ | ⟨hn, ⟨_, h1⟩ | ⟨_, h1⟩⟩⟩
  · rw [h1]
  · rw [h1] at h; exact absurd rfl h
  · rw [h1]
  · rw [h1] at h; exact absurd rfl h
end Go.Proofs.Ytomogpiahcnmjaa.P
