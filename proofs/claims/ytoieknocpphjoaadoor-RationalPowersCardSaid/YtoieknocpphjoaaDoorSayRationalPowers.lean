--m
/- Written by wip/tool/hprint.py (the kit's print.py with hand-proved contracts set in): contracts of the functions that the statements of this seat reach, without conditions beyond those named in each theorem. -/
import Derived.Test.YtoieknocpphjoaaDoorP52
import Derived.Test.YtoieknocpphjoaaDoorPRd
namespace Go.Proofs.YtoieknocpphjoaaDoor.P
open Go.RowKit Go.Proofs.YtoieknocpphjoaaDoorW.PrintWords Go.Proofs.YtoieknocpphjoaaDoorW.PrintLast Go.Proofs.YtoieknocpphjoaaDoorW.PrintMore
/-- THE PURE STATEMENT of RationalPowers. -/
def RationalPowers.Pure : Prop := ∀ (y0 : S63) (a1 : Int) (a2 : Int), wf63 y0 → (Lit.int .i8 a1).wf = true → (Lit.int .i8 a2).wf = true → ∃ k, vinculumlaw02_RationalPowers.f k y0.f0 y0.f1 a1 a2 = some true
end Go.Proofs.YtoieknocpphjoaaDoor.P
