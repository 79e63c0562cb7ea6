--m
/- Written by wip/tool/hprint.py (the kit's print.py with hand-proved contracts set in): contracts of the functions that the statements of this seat reach, without conditions beyond those named in each theorem. -/
import Derived.Test.YtikgflpobacndaaP56
import Derived.Test.YtikgflpobacndaaPRd
namespace Go.Proofs.Ytikgflpobacndaa.P
open Go.RowKit Go.Proofs.YtikgflpobacndaaW.PrintWords Go.Proofs.YtikgflpobacndaaW.PrintLast Go.Proofs.YtikgflpobacndaaW.PrintMore
/-- THE PURE STATEMENT of PosmapMapAll. -/
def PosmapMapAll.Pure : Prop := ∀ (l0 : List (S27)) (l1 : List Int) (a2 : Bool), l0.length * 112 ≤ 140737488351232 → (∀ y ∈ l0, wf27 y) → l1.length * 8 ≤ 140737488351232 → (∀ y ∈ l1, (Lit.int .i64 y).wf = true) → ∃ k, vinculumlaw13_PosmapMapAll.f k l0 l1 a2 = some true
end Go.Proofs.Ytikgflpobacndaa.P
