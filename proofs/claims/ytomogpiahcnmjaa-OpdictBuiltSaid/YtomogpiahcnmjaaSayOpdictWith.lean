/- Written by wip/tool/hprint.py (the kit's print.py with hand-proved contracts set in): contracts of the functions that the statements of this seat reach, without conditions beyond those named in each theorem. -/
import Derived.Test.YtomogpiahcnmjaaP10
import Derived.Test.YtomogpiahcnmjaaPRd
namespace Go.Proofs.Ytomogpiahcnmjaa.P
open Go.RowKit Go.Proofs.YtomogpiahcnmjaaW.PrintWords Go.Proofs.YtomogpiahcnmjaaW.PrintLast Go.Proofs.YtomogpiahcnmjaaW.PrintMore
/-- THE PURE STATEMENT of OpdictWith. -/
def OpdictWith.Pure : Prop := ∀ (l0 : List (S27)) (y1 : S27), l0.length * 32 ≤ 140737488351232 → (∀ y ∈ l0, wf27 y) → wf27 y1 → ∃ k, vinculumlaw08_OpdictWith.f k l0 y1.f0 y1.f1 y1.f2 y1.f3 = some true
end Go.Proofs.Ytomogpiahcnmjaa.P
