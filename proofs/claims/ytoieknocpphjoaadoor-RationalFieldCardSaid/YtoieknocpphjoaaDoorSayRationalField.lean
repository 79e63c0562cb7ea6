--m
/- Written by wip/tool/hprint.py (the kit's print.py with hand-proved contracts set in): contracts of the functions that the statements of this seat reach, without conditions beyond those named in each theorem. -/
import Derived.Test.YtoieknocpphjoaaDoorP26
import Derived.Test.YtoieknocpphjoaaDoorPRd
namespace Go.Proofs.YtoieknocpphjoaaDoor.P
open Go.RowKit Go.Proofs.YtoieknocpphjoaaDoorW.PrintWords Go.Proofs.YtoieknocpphjoaaDoorW.PrintLast Go.Proofs.YtoieknocpphjoaaDoorW.PrintMore
/-- THE PURE STATEMENT of RationalField. -/
def RationalField.Pure : Prop := ∀ (y0 : S40), wf40 y0 → ∃ k, vinculumlaw02_RationalField.f k y0.f0.f0 y0.f0.f1 y0.f1.f0 y0.f1.f1 y0.f2.f0 y0.f2.f1 = some true
end Go.Proofs.YtoieknocpphjoaaDoor.P
