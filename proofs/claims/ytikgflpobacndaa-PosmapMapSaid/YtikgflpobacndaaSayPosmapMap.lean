--m
/- Written by wip/tool/hprint.py (the kit's print.py with hand-proved contracts set in): contracts of the functions that the statements of this seat reach, without conditions beyond those named in each theorem. -/
import Derived.Test.YtikgflpobacndaaP59
import Derived.Test.YtikgflpobacndaaPRd
namespace Go.Proofs.Ytikgflpobacndaa.P
open Go.RowKit Go.Proofs.YtikgflpobacndaaW.PrintWords Go.Proofs.YtikgflpobacndaaW.PrintLast Go.Proofs.YtikgflpobacndaaW.PrintMore
/-- THE PURE STATEMENT of PosmapMap. -/
def PosmapMap.Pure : Prop := ∀ (y0 : S27) (l1 : List Int) (a2 : Bool), wf27 y0 → l1.length * 8 ≤ 140737488351232 → (∀ y ∈ l1, (Lit.int .i64 y).wf = true) → ∃ k, vinculumlaw13_PosmapMap.f k y0.f0 y0.f1 y0.f2 y0.f3 y0.f4 y0.f5 y0.f6 y0.f7 l1 a2 = some true
end Go.Proofs.Ytikgflpobacndaa.P
