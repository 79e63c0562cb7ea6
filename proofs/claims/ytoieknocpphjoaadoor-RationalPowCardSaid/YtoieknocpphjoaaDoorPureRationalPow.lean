--m
/- RationalPow: for every pair and every exponent the program's power is the document's. No program in sight. -/
import Derived.Test.YtoieknocpphjoaaDoorPoF
import Derived.Test.YtoieknocpphjoaaDoorSayRationalPow
import Derived.Test.YtoieknocpphjoaaDoorP44
namespace Go.Proofs.YtoieknocpphjoaaDoor.P
open Go.RowKit Go.Proofs.YtoieknocpphjoaaDoorW.PrintWords Go.Proofs.YtoieknocpphjoaaDoorW.PrintLast Go.Proofs.YtoieknocpphjoaaDoorW.PrintMore
set_option linter.unusedSimpArgs false
set_option linter.unusedVariables false
theorem RationalPow.pure : RationalPow.Pure := by
 intro y e hy he
 have hr := i64_bounds he
 refine Ev.rounds (g := fun k => vinculumlaw02_RationalPow.f k y.f0 y.f1 e) ?_
 unfold vinculumlaw02_RationalPow.f
 refine Ev.bind awake_p (Ev.pos rfl ?_)
 exact Ev.bind (Pow_p hr) (Ev.bind (Pow_r hr) (Ev.bindO (is_self _) (Ev.ret rfl)))
end Go.Proofs.YtoieknocpphjoaaDoor.P
