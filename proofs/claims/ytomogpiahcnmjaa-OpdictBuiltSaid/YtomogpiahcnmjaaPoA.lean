/- What the functions of the operator dictionary and of its reference answer: plain lists, no program in sight. -/
import Derived.Test.YtomogpiahcnmjaaPc
import Derived.Test.YtomogpiahcnmjaaSayOpdictFinds
namespace Go.Proofs.Ytomogpiahcnmjaa.P
open Go.RowKit Go.Proofs.YtomogpiahcnmjaaW.PrintWords Go.Proofs.YtomogpiahcnmjaaW.PrintLast Go.Proofs.YtomogpiahcnmjaaW.PrintMore
theorem toList_inj {a b : ByteArray} : (a.toList = b.toList) ↔ a = b := by
  constructor
  · intro h
    rw [ByteArray.toList_eq, ByteArray.toList_eq] at h
    exact ByteArray.ext (Array.toList_inj.1 h)
  · rintro rfl; rfl
/-- findFrom and find? -/
theorem findFrom_cases {α : Type} (p : α → Bool) : ∀ (l : List α) (n : Nat),
    (∃ i, ∃ h : i < l.length, p l[i] = true ∧ findFrom p l n = ((n + i : Nat) : Int) ∧ l.find? p = some l[i] ∧ ∀ j, ∀ hj : j < i, p (l[j]'(by omega)) = false) ∨ (findFrom p l n = -1 ∧ l.find? p = none ∧ ∀ x ∈ l, p x = false)
  | [], n => .inr ⟨rfl, rfl, by simp⟩
  | x :: xs, n => by
    by_cases hx : p x = true
    · refine .inl ⟨0, by simp, by simpa using hx, by simp [findFrom, hx], by simp [hx], fun j hj => by omega⟩
    · have hx' : p x = false := by simpa using hx
      rcases findFrom_cases p xs (n + 1) with ⟨i, h, h1, h2, h3, h4⟩ | ⟨h1, h2, h3⟩
      · refine .inl ⟨i + 1, by simpa using h, by simpa using h1, by simp [findFrom, hx', h2]; omega, by simp [hx', h3], fun j hj => ?_⟩
        cases j with
        | zero => simpa using hx'
        | succ j => simpa using h4 j (by omega)
      · exact .inr ⟨by simp [findFrom, hx', h1], by simp [hx', h2], by simpa [hx'] using h3⟩
abbrev tup (x : S27) : ByteArray × Int × Bool × Bool := (x.f0, x.f1, x.f2, x.f3)
def findS (l : List S27) (t : ByteArray) : S27 := (l.find? (pText t)).getD ⟨t, 0, false, false⟩
theorem rdT_int (l : List S27) (k : Nat) (h : k < l.length) : rd_T27 l ((k : Nat) : Int) = l[k] := rdT27_nat l k h
theorem find_eq (l : List S27) (t : ByteArray) : opdict_Find.f l t = some (tup (findS l t)) := by
  unfold opdict_Find.f opdict_index.f findS
  rcases findFrom_cases (pText t) l 0 with ⟨i, h, h1, h2, h3, _⟩ | ⟨h1, h2, _⟩
  · rw [h2, h3]
    simp only [Option.bind_some, Nat.zero_add]
    rw [if_pos (by omega), if_pos (by omega), if_pos (by omega), rdT_int l i h]
    rfl
  · rw [h1, h2]
    rfl
theorem find_drop {α : Type} (p : α → Bool) (l : List α) (i : Nat) (h : i < l.length) : (l.drop i).find? p = if p l[i] then some l[i] else (l.drop (i + 1)).find? p := by
  rw [List.drop_eq_getElem_cons h, List.find?_cons]
  cases p l[i] <;> rfl
theorem refFind_ev (l : List S27) (t : ByteArray) (hl : l.length ≤ 4398046511104) : Ev (fun k => vinculumref08_Find.f k l t) (tup (findS l t)) := by
  have key := ev_up (fun k i (_ : Unit) => vinculumref08_Find.l0 k l t i) l.length (fun i _ => tup (((l.drop i).find? (pText t)).getD ⟨t, 0, false, false⟩)) (fun _ _ => True)
    (fun s _ k => by simp only [vinculumref08_Find.l0]; rw [if_neg (by omega), List.drop_eq_nil_of_le (Nat.le_refl _)]; rfl)
    (fun i s hi _ => by
      have hr := rdT_int l i hi
      by_cases hp : pText t l[i] = true
      · refine .inl fun k => ?_
        simp only [vinculumref08_Find.l0, hr]
        rw [if_pos (by omega), if_pos (by omega), if_pos (by simpa [pText] using hp), find_drop _ _ _ hi, if_pos hp]
        rfl
      · refine .inr ⟨(), trivial, fun k => ?_, ?_⟩
        · simp only [vinculumref08_Find.l0, hr]
          rw [if_pos (by omega), if_pos (by omega), if_neg (by simpa [pText] using hp), wrap_succ (by omega)]
        · rw [find_drop _ _ _ hi, if_neg hp])
  have := key 0 () (Nat.zero_le _) trivial
  simpa [vinculumref08_Find.f, findS] using this
def ofS (l : List S27) (c : Int) : List ByteArray := (l.filter fun x => x.f1 == c).map (·.f0)
theorem ofS_drop (l : List S27) (c : Int) (i : Nat) (h : i < l.length) : ofS (l.drop i) c = (if l[i].f1 = c then [l[i].f0] else []) ++ ofS (l.drop (i + 1)) c := by
  rw [List.drop_eq_getElem_cons h]
  unfold ofS
  rw [List.filter_cons]
  by_cases hc : l[i].f1 = c <;> simp [hc]
theorem of_ev (l : List S27) (c : Int) (hl : l.length ≤ 4398046511104) : Ev (fun k => opdict_Of.f k l c) (ofS l c) := by
  have key := ev_up (fun k i (s : List ByteArray) => opdict_Of.l0 k c s l (l.length : Int) i) l.length (fun i s => s ++ ofS (l.drop i) c) (fun i s => s.length ≤ i)
    (fun s _ k => by simp only [opdict_Of.l0]; rw [if_neg (by omega), List.drop_eq_nil_of_le (Nat.le_refl _)]; simp [ofS])
    (fun i s hi hs => by
      have hr := rdT_int l i hi
      refine .inr ?_
      by_cases hp : l[i].f1 = c
      · refine ⟨s ++ [l[i].f0], by simp; omega, fun k => ?_, ?_⟩
        · simp only [opdict_Of.l0, hr]
          rw [if_pos (by omega), if_pos (by omega), if_pos (by omega), if_pos hp, if_pos (by omega), wrap_succ (by omega)]
        · rw [ofS_drop _ _ _ hi, if_pos hp]; simp
      · refine ⟨s, by omega, fun k => ?_, ?_⟩
        · simp only [opdict_Of.l0, hr]
          rw [if_pos (by omega), if_pos (by omega), if_pos (by omega), if_neg hp, wrap_succ (by omega)]
        · rw [ofS_drop _ _ _ hi, if_neg hp]; simp)
  have := key 0 [] (Nat.zero_le _) (Nat.le_refl _)
  simpa [opdict_Of.f] using this
theorem refOf_ev (l : List S27) (c : Int) (hl : l.length ≤ 4398046511104) : Ev (fun k => vinculumref08_Of.f k l c) (ofS l c) := by
  have key := ev_up (fun k i (s : List ByteArray) => vinculumref08_Of.l0 k l c s i) l.length (fun i s => s ++ ofS (l.drop i) c) (fun i s => s.length ≤ i)
    (fun s _ k => by simp only [vinculumref08_Of.l0]; rw [if_neg (by omega), List.drop_eq_nil_of_le (Nat.le_refl _)]; simp [ofS])
    (fun i s hi hs => by
      have hr := rdT_int l i hi
      refine .inr ?_
      by_cases hp : l[i].f1 = c
      · refine ⟨s ++ [l[i].f0], by simp; omega, fun k => ?_, ?_⟩
        · simp only [vinculumref08_Of.l0, hr]
          rw [if_pos (by omega), if_pos (by omega), if_pos hp, if_pos (by omega), wrap_succ (by omega)]
        · rw [ofS_drop _ _ _ hi, if_pos hp]; simp
      · refine ⟨s, by omega, fun k => ?_, ?_⟩
        · simp only [vinculumref08_Of.l0, hr]
          rw [if_pos (by omega), if_pos (by omega), if_neg hp, wrap_succ (by omega)]
        · rw [ofS_drop _ _ _ hi, if_neg hp]; simp)
  have := key 0 [] (Nat.zero_le _) (Nat.le_refl _)
  simpa [vinculumref08_Of.f] using this
theorem awake_eq : vinculumlaw08_awake.f = some true := by
  unfold vinculumlaw08_awake.f
  rw [find_eq]
  simp [findS, pText]
end Go.Proofs.Ytomogpiahcnmjaa.P
