/- OpdictFinds: the pure statement of the law OpdictFinds is proved: for every input its printed function answers true. No condition beyond those of the row. -/
import Derived.Test.YtomogpiahcnmjaaSayOpdictFinds
import Derived.Test.YtomogpiahcnmjaaPoA
namespace Go.Proofs.Ytomogpiahcnmjaa.P
open Go.RowKit Go.Proofs.YtomogpiahcnmjaaW.PrintWords Go.Proofs.YtomogpiahcnmjaaW.PrintLast Go.Proofs.YtomogpiahcnmjaaW.PrintMore
theorem same_loop (l : List ByteArray) (hl : l.length ≤ 4398046511104) : Ev (fun k => vinculumlaw08_OpdictFinds.l0 k l l 0) true := by
  have key := ev_up (fun k i (_ : Unit) => vinculumlaw08_OpdictFinds.l0 k l l i) l.length (fun _ _ => true) (fun _ _ => True)
    (fun s _ k => by simp only [vinculumlaw08_OpdictFinds.l0]; rw [if_neg (by omega)])
    (fun i s hi _ => .inr ⟨(), trivial, fun k => by
      simp only [vinculumlaw08_OpdictFinds.l0]
      rw [if_pos (by omega), if_pos (by omega), if_pos (by omega), if_pos trivial, wrap_succ (by omega)], rfl⟩)
  exact key 0 () (Nat.zero_le _) trivial
theorem ofS_length (l : List S27) (c : Int) : (ofS l c).length ≤ l.length := by
  unfold ofS
  rw [List.length_map]
  exact List.length_filter_le _ _
theorem OpdictFinds.pure : OpdictFinds.Pure := by
  intro l t c hl _ _ _
  by_cases h : (l.length : Int) > 250
  · exact ⟨0, by unfold vinculumlaw08_OpdictFinds.f; rw [awake_eq]; simp [h]⟩
  · refine Ev.rounds (g := fun k => vinculumlaw08_OpdictFinds.f k l t c) ?_
    unfold vinculumlaw08_OpdictFinds.f
    refine Ev.bindO awake_eq ?_
    refine Ev.pos rfl ?_
    refine Ev.neg h ?_
    refine Ev.bind (of_ev l c (by omega)) ?_
    refine Ev.bind (refOf_ev l c (by omega)) ?_
    refine Ev.bindO (find_eq l t) ?_
    refine Ev.bind (refFind_ev l t (by omega)) ?_
    refine Ev.neg (by simp) ?_
    refine Ev.step (f := fun k => vinculumlaw08_OpdictFinds.l0 k (ofS l c) (ofS l c) 0) (fun k => by simp only [vinculumlaw08_OpdictFinds.j0]; simp) ?_
    exact same_loop _ (by have := ofS_length l c; omega)
end Go.Proofs.Ytomogpiahcnmjaa.P
