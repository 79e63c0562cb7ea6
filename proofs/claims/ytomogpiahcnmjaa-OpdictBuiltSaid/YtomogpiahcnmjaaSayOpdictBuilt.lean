/- Written by wip/tool/hprint.py (the kit's print.py with hand-proved contracts set in): contracts of the functions that the statements of this seat reach, without conditions beyond those named in each theorem. -/
import Derived.Test.YtomogpiahcnmjaaP12
import Derived.Test.YtomogpiahcnmjaaPRd
namespace Go.Proofs.Ytomogpiahcnmjaa.P
open Go.RowKit Go.Proofs.YtomogpiahcnmjaaW.PrintWords Go.Proofs.YtomogpiahcnmjaaW.PrintLast Go.Proofs.YtomogpiahcnmjaaW.PrintMore
/-- THE PURE STATEMENT of OpdictBuilt. -/
def OpdictBuilt.Pure : Prop := ∀ (l0 : List (S27)), l0.length * 32 ≤ 140737488351232 → (∀ y ∈ l0, wf27 y) → ∃ k, vinculumlaw08_OpdictBuilt.f k l0 = some true
end Go.Proofs.Ytomogpiahcnmjaa.P
