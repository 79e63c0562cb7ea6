/- Written by wip/tool/hprint.py (the kit's print.py with hand-proved contracts set in): contracts of the functions that the statements of this seat reach, without conditions beyond those named in each theorem. -/
import Derived.Test.YtomogpiahcnmjaaP5
import Derived.Test.YtomogpiahcnmjaaPRd
namespace Go.Proofs.Ytomogpiahcnmjaa.P
open Go.RowKit Go.Proofs.YtomogpiahcnmjaaW.PrintWords Go.Proofs.YtomogpiahcnmjaaW.PrintLast Go.Proofs.YtomogpiahcnmjaaW.PrintMore
/-- THE PURE STATEMENT of OpdictFinds. -/
def OpdictFinds.Pure : Prop := ∀ (l0 : List (S27)) (a1 : ByteArray) (a2 : Int), l0.length * 32 ≤ 140737488351232 → (∀ y ∈ l0, wf27 y) → a1.size ≤ 140737488351232 → (Lit.int .i64 a2).wf = true → ∃ k, vinculumlaw08_OpdictFinds.f k l0 a1 a2 = some true
end Go.Proofs.Ytomogpiahcnmjaa.P
