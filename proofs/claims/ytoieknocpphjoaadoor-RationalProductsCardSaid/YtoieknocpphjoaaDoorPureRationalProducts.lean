--m
/- RationalProducts: the pure statement is proved: for every input its printed function answers true. No condition beyond those of the row. -/
import Derived.Test.YtoieknocpphjoaaDoorPoB
import Derived.Test.YtoieknocpphjoaaDoorSayRationalProducts
namespace Go.Proofs.YtoieknocpphjoaaDoor.P
open Go.RowKit Go.Proofs.YtoieknocpphjoaaDoorW.PrintWords Go.Proofs.YtoieknocpphjoaaDoorW.PrintLast Go.Proofs.YtoieknocpphjoaaDoorW.PrintMore
theorem RationalProducts.pure : RationalProducts.Pure := by
 intro p q hp hq
 refine Ev.rounds (g := fun k => vinculumlaw02_RationalProducts.f k p.f0 p.f1 q.f0 q.f1) ?_
 unfold vinculumlaw02_RationalProducts.f
 refine Ev.bind awake_p (Ev.pos rfl ?_)
 refine Ev.bind (Mul_p _ _ _ _) (Ev.bind (Mul_r _ _ _ _) ?_)
 refine Ev.bind (Div_p _ _ _ _) (Ev.bind (Div_r _ _ _ _) ?_)
 obtain ⟨r, r1, r2⟩ := Root_ex p.f0 p.f1
 refine Ev.bind r1 (Ev.bind r2 ?_)
 exact Ev.bindO (is_self _) (Ev.pos rfl (Ev.bindO (is_self _) (Ev.pos rfl (Ev.bindO (is_self _) (Ev.ret rfl)))))
end Go.Proofs.YtoieknocpphjoaaDoor.P
