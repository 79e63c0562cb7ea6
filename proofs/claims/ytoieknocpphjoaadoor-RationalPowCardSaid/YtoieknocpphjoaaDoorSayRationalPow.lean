--m
/- Written by wip/tool/hprint.py (the kit's print.py with hand-proved contracts set in): contracts of the functions that the statements of this seat reach, without conditions beyond those named in each theorem. -/
import Derived.Test.YtoieknocpphjoaaDoorP44
import Derived.Test.YtoieknocpphjoaaDoorPRd
namespace Go.Proofs.YtoieknocpphjoaaDoor.P
open Go.RowKit Go.Proofs.YtoieknocpphjoaaDoorW.PrintWords Go.Proofs.YtoieknocpphjoaaDoorW.PrintLast Go.Proofs.YtoieknocpphjoaaDoorW.PrintMore
/-- THE PURE STATEMENT of RationalPow. -/
def RationalPow.Pure : Prop := ∀ (y0 : S28) (a1 : Int), wf28 y0 → (Lit.int .i64 a1).wf = true → ∃ k, vinculumlaw02_RationalPow.f k y0.f0 y0.f1 a1 = some true
end Go.Proofs.YtoieknocpphjoaaDoor.P
