/- Written by wip/tool/hprint.py (the kit's print.py with hand-proved contracts set in): contracts of the functions that the statements of this seat reach, without conditions beyond those named in each theorem. -/
import Derived.Test.YtnnhhkjcjkinpaaP16
import Derived.Test.YtnnhhkjcjkinpaaPRd
namespace Go.Proofs.Ytnnhhkjcjkinpaa.P
open Go.RowKit Go.Proofs.YtnnhhkjcjkinpaaW.PrintWords Go.Proofs.YtnnhhkjcjkinpaaW.PrintLast Go.Proofs.YtnnhhkjcjkinpaaW.PrintMore
/-- THE PURE STATEMENT of BoxEqual. -/
def BoxEqual.Pure : Prop := ∀ (y0 : S28) (y1 : S28), wf28 y0 → wf28 y1 → ∃ k, vinculumlaw28_BoxEqual.f k y0.f0 y0.f1 y0.f2 y0.f3 y0.f4 y0.f5 y0.f6 y0.f7 y0.f8 y0.f9 y0.f10 y1.f0 y1.f1 y1.f2 y1.f3 y1.f4 y1.f5 y1.f6 y1.f7 y1.f8 y1.f9 y1.f10 = some true
end Go.Proofs.Ytnnhhkjcjkinpaa.P
