/- Written by wip/tool/hprint.py (the kit's print.py with hand-proved contracts set in): contracts of the functions that the statements of this seat reach, without conditions beyond those named in each theorem. -/
import Derived.Test.YtojcnndkdopahaaP38
import Derived.Test.YtojcnndkdopahaaPRd
namespace Go.Proofs.Ytojcnndkdopahaa.P
open Go.RowKit Go.Proofs.YtojcnndkdopahaaW.PrintWords Go.Proofs.YtojcnndkdopahaaW.PrintLast Go.Proofs.YtojcnndkdopahaaW.PrintMore
/-- THE PURE STATEMENT of GlueShift. -/
def GlueShift.Pure : Prop := ∀ (l0 : List (S36)) (a1 : Int) (y2 : S41), l0.length * 32 ≤ 140737488351232 → (∀ y ∈ l0, wf36 y) → (Lit.int .i64 a1).wf = true → wf41 y2 → ∃ k, vinculumlaw27_GlueShift.f k l0 a1 y2.f0 y2.f1 = some true
end Go.Proofs.Ytojcnndkdopahaa.P
