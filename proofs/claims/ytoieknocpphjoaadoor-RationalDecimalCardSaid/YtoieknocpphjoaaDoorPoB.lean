--m
/- Sums, products, roots: what the program's functions and the document's answer. No program in sight. -/
import Derived.Test.YtoieknocpphjoaaDoorPoA
import Derived.Test.YtoieknocpphjoaaDoorP14
import Derived.Test.YtoieknocpphjoaaDoorP21
import Derived.Test.YtoieknocpphjoaaDoorP22
import Derived.Test.YtoieknocpphjoaaDoorP23
import Derived.Test.YtoieknocpphjoaaDoorP24
import Derived.Test.YtoieknocpphjoaaDoorP29
import Derived.Test.YtoieknocpphjoaaDoorP30
import Derived.Test.YtoieknocpphjoaaDoorP31
import Derived.Test.YtoieknocpphjoaaDoorP32
import Derived.Test.YtoieknocpphjoaaDoorP34
import Derived.Test.YtoieknocpphjoaaDoorP35
namespace Go.Proofs.YtoieknocpphjoaaDoor.P
open Go.RowKit Go.Proofs.YtoieknocpphjoaaDoorW.PrintWords Go.Proofs.YtoieknocpphjoaaDoorW.PrintLast Go.Proofs.YtoieknocpphjoaaDoorW.PrintMore
set_option linter.unusedSimpArgs false
set_option linter.unusedVariables false
theorem wrap_b (x : Int) : -9223372036854775808 ≤ wrap64 x ∧ wrap64 x ≤ 9223372036854775807 := by unfold wrap64; omega
theorem wrap_add_w (a b : Int) : wrap64 (a + wrap64 b) = wrap64 (a + b) := by unfold wrap64; omega
theorem wrap_sub_w (a b : Int) : wrap64 (a - wrap64 b) = wrap64 (a - b) := by unfold wrap64; omega
def addR (n d m e : Int) : Int × Int × Int := if vld n d = true then (if vld m e = true then mkR (wrap64 (wrap64 (n * e) + wrap64 (m * d))) (wrap64 (d * e)) else (0, 0, 1)) else (0, 0, 1)
theorem Add_p (n d m e : Int) : Ev (fun k => rational_Add.f k n d m e) (addR n d m e) := by
 unfold rational_Add.f addR
 refine Ev.bind (Valid_p n d) (Ev.ite (fun h => ?_) (fun h => Ev.ret (by rw [if_neg h])))
 rw [if_pos h]
 refine Ev.bind (Valid_p m e) (Ev.ite (fun h => ?_) (fun h => Ev.ret (by rw [if_neg h])))
 rw [if_pos h]
 exact Ev.bind (Make_p (wrap_b _) (wrap_b _)) (Ev.ret rfl)
theorem Add_r (n d m e : Int) : Ev (fun k => vinculumref02_Add.f k n d m e) (addR n d m e) := by
 unfold vinculumref02_Add.f addR
 refine Ev.bind (Valid_r n d) (Ev.ite (fun h => ?_) (fun h => Ev.ret (by rw [if_neg h])))
 rw [if_pos h]
 refine Ev.bind (Valid_r m e) (Ev.ite (fun h => ?_) (fun h => Ev.ret (by rw [if_neg h])))
 rw [if_pos h]
 exact Ev.bind (Make_r (wrap_b _) (wrap_b _)) (Ev.ret rfl)
theorem vld_neg {m e : Int} (h : -9223372036854775808 ≤ m ∧ m ≤ 9223372036854775807) : vld (wrap64 (-m)) e = vld m e := by
 by_cases hm : m = -9223372036854775808
 ·subst hm
  rw [show wrap64 (- -9223372036854775808) = -9223372036854775808 by unfold wrap64; omega]
 ·rw [wrap_id (by omega) (by omega)]
  unfold vld
  rw [Int.natAbs_neg, show decide (-2147483647 ≤ -m) = decide (m ≤ 2147483647) by rw [decide_eq_decide]; omega, show decide (-m ≤ 2147483647) = decide (-2147483647 ≤ m) by rw [decide_eq_decide]; omega]
  generalize decide (m ≤ 2147483647) = x
  generalize decide (-2147483647 ≤ m) = y
  cases x <;> cases y <;> simp
theorem vld_in {m e : Int} (h : vld m e = true) : -9223372036854775808 ≤ m ∧ m ≤ 9223372036854775807 := by
 have := vld_bounds h
 omega
theorem Sub_p (n d m e : Int) (hm : -9223372036854775808 ≤ m ∧ m ≤ 9223372036854775807) : Ev (fun k => rational_Sub.f k n d m e) (addR n d (wrap64 (-m)) e) := by
 unfold rational_Sub.f addR
 rw [vld_neg hm]
 refine Ev.bind (Valid_p n d) (Ev.ite (fun h => ?_) (fun h => Ev.ret (by rw [if_neg h])))
 rw [if_pos h]
 refine Ev.bind (Valid_p m e) (Ev.ite (fun h => ?_) (fun h => Ev.ret (by rw [if_neg h])))
 rw [if_pos h]
 have hb := vld_bounds h
 have e1 : wrap64 (wrap64 (n * e) + wrap64 (wrap64 (-m) * d)) = wrap64 (wrap64 (n * e) - wrap64 (m * d)) := by
  rw [wrap_id (x := -m) (by omega) (by omega), wrap_add_w, wrap_sub_w, Int.neg_mul, Int.sub_eq_add_neg]
 rw [e1]
 exact Ev.bind (Make_p (wrap_b _) (wrap_b _)) (Ev.ret rfl)
theorem Sub_r (n d m e : Int) : Ev (fun k => vinculumref02_Sub.f k n d m e) (addR n d (wrap64 (-m)) e) := by
 unfold vinculumref02_Sub.f
 exact Ev.bind (Add_r n d _ e) (Ev.ret rfl)
def negR (n d : Int) : Int × Int × Int := if vld n d = true then (wrap64 (-n), d, 0) else (0, 0, 1)
theorem Neg_p (n d : Int) : Ev (fun k => rational_Neg.f k n d) (negR n d) := by
 unfold rational_Neg.f negR
 exact Ev.bind (Valid_p n d) (Ev.ite (fun h => Ev.ret (by rw [if_pos h])) (fun h => Ev.ret (by rw [if_neg h])))
theorem Neg_r (n d : Int) : Ev (fun k => vinculumref02_Neg.f k n d) (negR n d) := by
 unfold vinculumref02_Neg.f negR
 exact Ev.bind (Valid_r n d) (Ev.ite (fun h => Ev.ret (by rw [if_pos h])) (fun h => Ev.ret (by rw [if_neg h])))
def cmpR (b : Bool) (n d m e : Int) : Int × Int := if b = true then (0, 1) else (if wrap64 (n * e) < wrap64 (m * d) then (-1, 0) else (if wrap64 (n * e) > wrap64 (m * d) then (1, 0) else (0, 0)))
theorem cmp_jp (b : Bool) (n d m e : Int) : Ev (fun k => rational_Cmp.j0 k b n d m e) (cmpR b n d m e) := by
 apply Ev.succ
 simp only [rational_Cmp.j0]
 unfold cmpR
 refine Ev.ite (fun h => Ev.ret (by rw [if_pos h])) (fun h => Ev.ite (fun h2 => Ev.ret (by rw [if_neg h, if_pos h2])) (fun h2 => Ev.ite (fun h3 => Ev.ret (by rw [if_neg h, if_neg h2, if_pos h3])) (fun h3 => Ev.ret (by rw [if_neg h, if_neg h2, if_neg h3]))))
theorem cmp_jr (b : Bool) (n d m e : Int) : Ev (fun k => vinculumref02_Cmp.j0 k b n d m e) (cmpR b n d m e) := by
 apply Ev.succ
 simp only [vinculumref02_Cmp.j0]
 unfold cmpR
 refine Ev.ite (fun h => Ev.ret (by rw [if_pos h])) (fun h => Ev.ite (fun h2 => Ev.ret (by rw [if_neg h, if_pos h2])) (fun h2 => Ev.ite (fun h3 => Ev.ret (by rw [if_neg h, if_neg h2, if_pos h3])) (fun h3 => Ev.ret (by rw [if_neg h, if_neg h2, if_neg h3]))))
theorem Cmp_p (n d m e : Int) : Ev (fun k => rational_Cmp.f k n d m e) (cmpR (!(vld n d && vld m e)) n d m e) := by
 unfold rational_Cmp.f
 refine Ev.bind (Valid_p n d) (Ev.ite (fun h => ?_) (fun h => ?_))
 ·rw [h, Bool.true_and]
  exact Ev.bind (Valid_p m e) (cmp_jp _ _ _ _ _)
 ·rw [Bool.eq_false_iff.2 h]
  exact cmp_jp _ _ _ _ _
theorem Cmp_r (n d m e : Int) : Ev (fun k => vinculumref02_Cmp.f k n d m e) (cmpR (!(vld n d && vld m e)) n d m e) := by
 unfold vinculumref02_Cmp.f
 refine Ev.bind (Valid_r n d) (Ev.ite (fun h => ?_) (fun h => ?_))
 ·rw [h, Bool.true_and]
  exact Ev.bind (Valid_r m e) (cmp_jr _ _ _ _ _)
 ·rw [Bool.eq_false_iff.2 h]
  exact cmp_jr _ _ _ _ _
theorem is_self (x : Int × Int × Int) : vinculumlaw02_is.f x.1 x.2.1 x.2.2 x.1 x.2.1 x.2.2 = some true := by
 unfold vinculumlaw02_is.f
 simp
/-! ### products and quotients -/
def mulR (n d m e : Int) : Int × Int × Int := if vld n d = true then (if vld m e = true then mkR (wrap64 (n * m)) (wrap64 (d * e)) else (0, 0, 1)) else (0, 0, 1)
def divR (n d m e : Int) : Int × Int × Int := if vld n d = true then (if vld m e = true then mkR (wrap64 (n * e)) (wrap64 (d * m)) else (0, 0, 1)) else (0, 0, 1)
theorem Mul_p (n d m e : Int) : Ev (fun k => rational_Mul.f k n d m e) (mulR n d m e) := by
 unfold rational_Mul.f mulR
 refine Ev.bind (Valid_p n d) (Ev.ite (fun h => ?_) (fun h => Ev.ret (by rw [if_neg h])))
 rw [if_pos h]
 refine Ev.bind (Valid_p m e) (Ev.ite (fun h => ?_) (fun h => Ev.ret (by rw [if_neg h])))
 rw [if_pos h]
 exact Ev.bind (Make_p (wrap_b _) (wrap_b _)) (Ev.ret rfl)
theorem Mul_r (n d m e : Int) : Ev (fun k => vinculumref02_Mul.f k n d m e) (mulR n d m e) := by
 unfold vinculumref02_Mul.f mulR
 refine Ev.bind (Valid_r n d) (Ev.ite (fun h => ?_) (fun h => Ev.ret (by rw [if_neg h])))
 rw [if_pos h]
 refine Ev.bind (Valid_r m e) (Ev.ite (fun h => ?_) (fun h => Ev.ret (by rw [if_neg h])))
 rw [if_pos h]
 exact Ev.bind (Make_r (wrap_b _) (wrap_b _)) (Ev.ret rfl)
theorem Div_p (n d m e : Int) : Ev (fun k => rational_Div.f k n d m e) (divR n d m e) := by
 unfold rational_Div.f divR
 refine Ev.bind (Valid_p n d) (Ev.ite (fun h => ?_) (fun h => Ev.ret (by rw [if_neg h])))
 rw [if_pos h]
 refine Ev.bind (Valid_p m e) (Ev.ite (fun h => ?_) (fun h => Ev.ret (by rw [if_neg h])))
 rw [if_pos h]
 exact Ev.bind (Make_p (wrap_b _) (wrap_b _)) (Ev.ret rfl)
theorem Div_r (n d m e : Int) : Ev (fun k => vinculumref02_Div.f k n d m e) (divR n d m e) := by
 unfold vinculumref02_Div.f divR
 refine Ev.bind (Valid_r n d) (Ev.ite (fun h => ?_) (fun h => Ev.ret (by rw [if_neg h])))
 rw [if_pos h]
 refine Ev.bind (Valid_r m e) (Ev.ite (fun h => ?_) (fun h => Ev.ret (by rw [if_neg h])))
 rw [if_pos h]
 exact Ev.bind (Make_r (wrap_b _) (wrap_b _)) (Ev.ret rfl)
end Go.Proofs.YtoieknocpphjoaaDoor.P
