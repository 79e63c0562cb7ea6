/- Written by wip/tool/hprint.py (the kit's print.py with hand-proved contracts set in): contracts of the functions that the statements of this seat reach, without conditions beyond those named in each theorem. -/
import Derived.Test.YtojcnndkdopahaaP15
import Derived.Test.YtojcnndkdopahaaPRd
namespace Go.Proofs.Ytojcnndkdopahaa.P
open Go.RowKit Go.Proofs.YtojcnndkdopahaaW.PrintWords Go.Proofs.YtojcnndkdopahaaW.PrintLast Go.Proofs.YtojcnndkdopahaaW.PrintMore
/-- THE PURE STATEMENT of GlueEqual. -/
def GlueEqual.Pure : Prop := ∀ (y0 : S36) (a1 : Int) (a2 : Int), wf36 y0 → (Lit.int .u8 a1).wf = true → (Lit.int .i64 a2).wf = true → ∃ k, vinculumlaw27_GlueEqual.f k y0.f0 y0.f1 y0.f2 y0.f3 a1 a2 = some true
end Go.Proofs.Ytojcnndkdopahaa.P
