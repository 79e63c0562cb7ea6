--m
/- Written by wip/tool/hprint.py (the kit's print.py with hand-proved contracts set in): contracts of the functions that the statements of this seat reach, without conditions beyond those named in each theorem. -/
import Derived.Test.YtoieknocpphjoaaDoorP36
import Derived.Test.YtoieknocpphjoaaDoorPRd
namespace Go.Proofs.YtoieknocpphjoaaDoor.P
open Go.RowKit Go.Proofs.YtoieknocpphjoaaDoorW.PrintWords Go.Proofs.YtoieknocpphjoaaDoorW.PrintLast Go.Proofs.YtoieknocpphjoaaDoorW.PrintMore
/-- THE PURE STATEMENT of RationalProducts. -/
def RationalProducts.Pure : Prop := ∀ (y0 : S28) (y1 : S28), wf28 y0 → wf28 y1 → ∃ k, vinculumlaw02_RationalProducts.f k y0.f0 y0.f1 y1.f0 y1.f1 = some true
end Go.Proofs.YtoieknocpphjoaaDoor.P
