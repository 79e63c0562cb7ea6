/- RationalMake: the pure statement of the law RationalMake is proved: for every input its printed function answers true. No condition beyond those of the row. -/
import Derived.Test.YtoieknocpphjoaaDoorPoA
import Derived.Test.YtoieknocpphjoaaDoorSayRationalMake
namespace Go.Proofs.YtoieknocpphjoaaDoor.P
open Go.RowKit Go.Proofs.YtoieknocpphjoaaDoorW.PrintWords Go.Proofs.YtoieknocpphjoaaDoorW.PrintLast Go.Proofs.YtoieknocpphjoaaDoorW.PrintMore
theorem RationalMake.pure : RationalMake.Pure := by
  intro n d h0 h1
  have b0 := i64_bounds h0
  have b1 := i64_bounds h1
  apply Ev.rounds
  unfold vinculumlaw02_RationalMake.f
  refine Ev.bind awake_p (Ev.pos rfl ?_)
  refine Ev.bind (Make_p b0 b1) (Ev.bind (Make_r b0 b1) ?_)
  refine Ev.bindO (a := true) (by unfold vinculumlaw02_is.f; simp) (Ev.pos rfl ?_)
  refine Ev.bind (Text_p _ _) (Ev.bind (Text_r _ _) (Ev.pos rfl ?_))
  refine Ev.bind (Valid_p _ _) (Ev.bind (Valid_r _ _) (Ev.pos (by simp) ?_))
  exact Ev.bind (Text_p _ _) (Ev.bind (Text_r _ _) (Ev.ret (by simp)))
end Go.Proofs.YtoieknocpphjoaaDoor.P
