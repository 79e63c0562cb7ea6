/- OpdictValid: the pure statement of the law OpdictValid is proved: for every input its printed function answers true. No condition beyond those of the row. -/
import Derived.Test.YtomogpiahcnmjaaSayOpdictValid
import Derived.Test.YtomogpiahcnmjaaPoB
namespace Go.Proofs.Ytomogpiahcnmjaa.P
open Go.RowKit Go.Proofs.YtomogpiahcnmjaaW.PrintWords Go.Proofs.YtomogpiahcnmjaaW.PrintLast Go.Proofs.YtomogpiahcnmjaaW.PrintMore
theorem OpdictValid.pure : OpdictValid.Pure := by
  intro l hl hw
  refine Ev.rounds (g := fun k => vinculumlaw08_OpdictValid.f k l) ?_
  unfold vinculumlaw08_OpdictValid.f
  refine Ev.bindO awake_eq ?_
  refine Ev.pos rfl ?_
  refine Ev.ite (fun _ => Ev.ret rfl) (fun h => ?_)
  refine Ev.bindO (valid_eq l (by omega)) ?_
  refine Ev.bind (refValid_ev l (by omega) (fun y hy => (hw y hy).1)) ?_
  exact Ev.ret (by simp)
end Go.Proofs.Ytomogpiahcnmjaa.P
