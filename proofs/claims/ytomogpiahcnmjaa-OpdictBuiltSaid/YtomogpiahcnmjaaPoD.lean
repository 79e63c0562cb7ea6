/- What With answers, in the program and in the reference: plain lists, no program in sight. -/
import Derived.Test.YtomogpiahcnmjaaPoC
import Derived.Test.YtomogpiahcnmjaaSayOpdictWith
namespace Go.Proofs.Ytomogpiahcnmjaa.P
open Go.RowKit Go.Proofs.YtomogpiahcnmjaaW.PrintWords Go.Proofs.YtomogpiahcnmjaaW.PrintLast Go.Proofs.YtomogpiahcnmjaaW.PrintMore
def putS (l : List S27) (e : S27) : List S27 × Int :=
  if 0 ≤ findFrom (pText e.f0) l 0 then (l.set (findFrom (pText e.f0) l 0).toNat e, 0) else if 200 ≤ l.length then ([], 6) else (l ++ [e], 0)
def withS (l : List S27) (e : S27) : List S27 × Int := if validB l = true ∧ properB e.f0 e.f1 = true then putS l e else ([], 1)
theorem with_ev (l : List S27) (e : S27) (hl : l.length ≤ 400) : Ev (fun k => opdict_With.f k l e.f0 e.f1 e.f2 e.f3) (withS l e) := by
  unfold opdict_With.f withS
  refine Ev.bindO (valid_eq l (by omega)) ?_
  have hj : Ev (fun k => opdict_With.j0 k l true e.f0 e.f1 e.f2 e.f3) (([] : List S27), (1 : Int)) := Ev.step (f := fun _ => some (([] : List S27), 1)) (fun k => by simp only [opdict_With.j0]; rfl) (Ev.now _)
  cases hv : validB l with
  | false => exact Ev.neg (by simp) (by simpa using hj)
  | true =>
    refine Ev.pos rfl ?_
    refine Ev.bindO (show opdict_proper.f e.f0 e.f1 e.f2 e.f3 = some (properB e.f0 e.f1) from rfl) ?_
    cases hp : properB e.f0 e.f1 with
    | false => simpa using hj
    | true =>
      refine Ev.step (f := fun _ => some (putS l e)) (fun k => ?_) (by simpa using Ev.now (putS l e))
      simp only [opdict_With.j0]
      rw [if_neg (by simp)]
      have hc : api_Entry_22.f l = some l := by
        unfold api_Entry_22.f
        simp only [Option.bind_some, List.length_nil, Nat.zero_add, List.nil_append]
        rw [if_pos (by omega)]
      rw [hc, Option.bind_some, show opdict_index.f l e.f0 = some (findFrom (pText e.f0) l 0) from rfl, Option.bind_some]
      unfold putS
      rcases findFrom_cases (pText e.f0) l 0 with ⟨i, h, _, h2, _, _⟩ | ⟨h1, _, _⟩
      · rw [h2]
        rw [if_pos (by omega), if_pos (by omega), if_pos (by omega), if_pos (by omega)]
      · rw [h1, if_neg (show ¬ ((-1 : Int) ≥ 0) by omega), if_neg (show ¬ ((0 : Int) ≤ -1) by omega)]
        by_cases h2 : 200 ≤ l.length
        · rw [if_pos (by omega), if_pos h2]
        · rw [if_neg (by omega), if_neg h2, if_pos (by omega)]
theorem findFrom_drop {α : Type} (p : α → Bool) (l : List α) (k : Nat) (h : k < l.length) : findFrom p (l.drop k) k = if p l[k] = true then (k : Int) else findFrom p (l.drop (k + 1)) (k + 1) := findFrom_step p l k h
theorem refWith_ev (l : List S27) (e : S27) (hl : l.length ≤ 400) (hw : ∀ y ∈ l, y.f0.size ≤ 9223372036854775807) (he : e.f0.size ≤ 9223372036854775807) : Ev (fun k => vinculumref08_With.f k l e.f0 e.f1 e.f2 e.f3) (withS l e) := by
  unfold vinculumref08_With.f withS
  refine Ev.bind (refValid_ev l (by omega) hw) ?_
  have hj : Ev (fun k => vinculumref08_With.j0 k l true e.f0 e.f1 e.f2 e.f3) (([] : List S27), (1 : Int)) := Ev.step (f := fun _ => some (([] : List S27), 1)) (fun k => by simp only [vinculumref08_With.j0]; rfl) (Ev.now _)
  cases hv : validB l with
  | false => exact Ev.neg (by simp) (by simpa using hj)
  | true =>
    refine Ev.pos rfl ?_
    refine Ev.bind (refProper_ev _ _ _ _ he) ?_
    cases hp : properB e.f0 e.f1 with
    | false => simpa using hj
    | true =>
      have h200 : l.length ≤ 200 := ((validB_iff l).1 hv).2.2
      rw [if_pos ⟨rfl, rfl⟩]
      refine Ev.step (f := fun k => vinculumref08_With.l0 k l 0 e.f0 e.f1 e.f2 e.f3) (fun k => ?_) ?_
      · simp only [vinculumref08_With.j0]
        rw [if_neg (by simp)]
        simp only [Option.bind_some, List.length_nil, Nat.zero_add, List.nil_append]
        rw [if_pos (by omega)]
      · have key := ev_up (fun k i (_ : Unit) => vinculumref08_With.l0 k l i e.f0 e.f1 e.f2 e.f3) l.length
          (fun i _ => if 0 ≤ findFrom (pText e.f0) (l.drop i) i then (l.set (findFrom (pText e.f0) (l.drop i) i).toNat e, (0 : Int)) else if 200 ≤ l.length then ([], 6) else (l ++ [e], 0)) (fun _ _ => True)
          (fun s _ k => by
            simp only [vinculumref08_With.l0]
            rw [if_neg (by omega), findFrom_end _ _ _ (Nat.le_refl _), if_neg (show ¬ ((0 : Int) ≤ -1) by omega)]
            by_cases h2 : 200 ≤ l.length
            · rw [if_pos (by omega), if_pos h2]
            · rw [if_neg (by omega), if_neg h2, if_pos (by omega)])
          (fun i s hi _ => by
            have hr := rdT_int l i hi
            by_cases hp : pText e.f0 l[i] = true
            · refine .inl fun k => ?_
              simp only [vinculumref08_With.l0, hr]
              rw [if_pos (by omega), if_pos (by omega), if_pos (by simpa [pText] using hp), findFrom_drop _ _ _ hi, if_pos hp, if_pos (by omega)]
            · refine .inr ⟨(), trivial, fun k => ?_, ?_⟩
              · simp only [vinculumref08_With.l0, hr]
                rw [if_pos (by omega), if_pos (by omega), if_neg (by simpa [pText] using hp), wrap_succ (by omega)]
              · rw [findFrom_drop _ _ _ hi, if_neg hp])
        have := key 0 () (Nat.zero_le _) trivial
        simpa [putS] using this
theorem same_ev (l : List S27) (hl : l.length ≤ 4398046511104) : Ev (fun k => vinculumref08_Same.f k l l) true := by
  unfold vinculumref08_Same.f
  refine Ev.pos rfl ?_
  have key := ev_up (fun k i (_ : Unit) => vinculumref08_Same.l0 k l l i) l.length (fun _ _ => true) (fun _ _ => True)
    (fun s _ k => by simp only [vinculumref08_Same.l0]; rw [if_neg (by omega)])
    (fun i s hi _ => .inr ⟨(), trivial, fun k => by
      simp only [vinculumref08_Same.l0]
      rw [if_pos (by omega), if_pos (by omega), if_pos (by omega), if_neg (by simp), wrap_succ (by omega)], rfl⟩)
  exact key 0 () (Nat.zero_le _) trivial
theorem withS_length (l : List S27) (e : S27) : (withS l e).1.length ≤ l.length + 1 := by
  unfold withS putS
  split
  · split
    · simp
    · split <;> simp
  · simp
end Go.Proofs.Ytomogpiahcnmjaa.P
