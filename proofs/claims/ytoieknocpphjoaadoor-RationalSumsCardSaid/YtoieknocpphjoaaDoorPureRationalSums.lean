--m
/- RationalSums: the pure statement is proved: for every input its printed function answers true. No condition beyond those of the row. -/
import Derived.Test.YtoieknocpphjoaaDoorPoB
import Derived.Test.YtoieknocpphjoaaDoorSayRationalSums
namespace Go.Proofs.YtoieknocpphjoaaDoor.P
open Go.RowKit Go.Proofs.YtoieknocpphjoaaDoorW.PrintWords Go.Proofs.YtoieknocpphjoaaDoorW.PrintLast Go.Proofs.YtoieknocpphjoaaDoorW.PrintMore
theorem RationalSums.pure : RationalSums.Pure := by
 intro p q hp hq
 have bq := i64_bounds hq.1
 refine Ev.rounds (g := fun k => vinculumlaw02_RationalSums.f k p.f0 p.f1 q.f0 q.f1) ?_
 unfold vinculumlaw02_RationalSums.f
 refine Ev.bind awake_p (Ev.pos rfl ?_)
 refine Ev.bind (Add_p _ _ _ _) (Ev.bind (Add_r _ _ _ _) ?_)
 refine Ev.bind (Sub_p _ _ _ _ bq) (Ev.bind (Sub_r _ _ _ _) ?_)
 refine Ev.bind (Neg_p _ _) (Ev.bind (Neg_r _ _) ?_)
 refine Ev.bind (Cmp_p _ _ _ _) (Ev.bind (Cmp_r _ _ _ _) ?_)
 refine Ev.bindO (is_self _) (Ev.pos rfl (Ev.bindO (is_self _) (Ev.pos rfl (Ev.bindO (is_self _) (Ev.pos rfl (Ev.pos rfl (Ev.ret ?_)))))))
 simp
end Go.Proofs.YtoieknocpphjoaaDoor.P
