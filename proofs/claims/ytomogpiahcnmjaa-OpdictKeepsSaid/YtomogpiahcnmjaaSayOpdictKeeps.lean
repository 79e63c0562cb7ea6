/- Written by wip/tool/hprint.py (the kit's print.py with hand-proved contracts set in): contracts of the functions that the statements of this seat reach, without conditions beyond those named in each theorem. -/
import Derived.Test.YtomogpiahcnmjaaP11
import Derived.Test.YtomogpiahcnmjaaPRd
namespace Go.Proofs.Ytomogpiahcnmjaa.P
open Go.RowKit Go.Proofs.YtomogpiahcnmjaaW.PrintWords Go.Proofs.YtomogpiahcnmjaaW.PrintLast Go.Proofs.YtomogpiahcnmjaaW.PrintMore
/-- THE PURE STATEMENT of OpdictKeeps. -/
def OpdictKeeps.Pure : Prop := ∀ (l0 : List (S27)) (y1 : S27) (a2 : ByteArray), l0.length * 32 ≤ 140737488351232 → (∀ y ∈ l0, wf27 y) → wf27 y1 → a2.size ≤ 140737488351232 → ∃ k, vinculumlaw08_OpdictKeeps.f k l0 y1.f0 y1.f1 y1.f2 y1.f3 a2 = some true
end Go.Proofs.Ytomogpiahcnmjaa.P
