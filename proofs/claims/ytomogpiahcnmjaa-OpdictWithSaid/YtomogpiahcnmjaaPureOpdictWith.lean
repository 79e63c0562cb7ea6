/- OpdictWith: the pure statement of the law OpdictWith is proved: for every input its printed function answers true. No condition beyond those of the row. -/
import Derived.Test.YtomogpiahcnmjaaSayOpdictWith
import Derived.Test.YtomogpiahcnmjaaPoD
namespace Go.Proofs.Ytomogpiahcnmjaa.P
open Go.RowKit Go.Proofs.YtomogpiahcnmjaaW.PrintWords Go.Proofs.YtomogpiahcnmjaaW.PrintLast Go.Proofs.YtomogpiahcnmjaaW.PrintMore
theorem OpdictWith.pure : OpdictWith.Pure := by
  intro l e hl hw he
  refine Ev.rounds (g := fun k => vinculumlaw08_OpdictWith.f k l e.f0 e.f1 e.f2 e.f3) ?_
  unfold vinculumlaw08_OpdictWith.f
  refine Ev.bindO awake_eq ?_
  refine Ev.pos rfl ?_
  refine Ev.ite (fun _ => Ev.ret rfl) (fun h => ?_)
  refine Ev.bindO (a := ([] : List S27)) rfl ?_
  simp only [List.length_nil, Nat.zero_add, List.nil_append]
  refine Ev.pos (by omega) ?_
  refine Ev.bindO (a := l) rfl ?_
  refine Ev.bind (with_ev l e (by omega)) ?_
  refine Ev.bind (refWith_ev l e (by omega) (fun y hy => (hw y hy).1) he.1) ?_
  refine Ev.pos rfl ?_
  have := withS_length l e
  refine Ev.bind (same_ev _ (by omega)) ?_
  refine Ev.pos rfl ?_
  refine Ev.bind (same_ev l (by omega)) ?_
  exact Ev.now true
end Go.Proofs.Ytomogpiahcnmjaa.P
