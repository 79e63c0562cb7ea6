--m
/- RationalField: the pure statement is proved: for every input its printed function answers true. No condition beyond those of the row. -/
import Derived.Test.YtoieknocpphjoaaDoorPoE
import Derived.Test.YtoieknocpphjoaaDoorSayRationalField
namespace Go.Proofs.YtoieknocpphjoaaDoor.P
open Go.RowKit Go.Proofs.YtoieknocpphjoaaDoorW.PrintWords Go.Proofs.YtoieknocpphjoaaDoorW.PrintLast Go.Proofs.YtoieknocpphjoaaDoorW.PrintMore
theorem op_j (kind : Int) (hk : kind = 0 ∨ kind = 2) (b : Bool) (n d m e : Int) : Ev (fun r => vinculumlaw02_op.j0 r kind b n d m e) (if b = true then (0, 0, 2) else (if kind = 0 then addR n d m e else mulR n d m e)) := by
 apply Ev.succ
 simp only [vinculumlaw02_op.j0]
 refine Ev.ite (fun h => Ev.ret (by rw [if_pos h])) (fun h => ?_)
 rw [if_neg h]
 refine Ev.ite (fun h2 => ?_) (fun h2 => ?_)
 ·rw [if_pos h2]
  exact Ev.bind (Add_p n d m e) (Ev.ret rfl)
 ·rw [if_neg h2]
  exact Ev.neg (by omega) (Ev.pos (by omega) (Ev.bind (Mul_p n d m e) (Ev.ret rfl)))
theorem op_ev (kind : Int) (hk : kind = 0 ∨ kind = 2) (n d e1 m e e2 : Int) : Ev (fun r => vinculumlaw02_op.f r kind n d e1 m e e2) (if e1 = 0 ∧ e2 = 0 then (if kind = 0 then addR n d m e else mulR n d m e) else (0, 0, 2)) := by
 unfold vinculumlaw02_op.f
 refine Ev.ite (fun h => ?_) (fun h => ?_)
 ·have := op_j kind hk (e2 != 0) n d m e
  by_cases h2 : e2 = 0
  ·rw [if_pos ⟨h, h2⟩]
   simpa [h2] using this
  ·rw [if_neg (by simp [h2])]
   simpa [h2] using this
 ·have := op_j kind hk true n d m e
  rw [if_neg (by simp [h])]
  simpa using this
/-- A sum or a product of valid numbers. -/
def vop (kind n d m e : Int) : Int × Int × Int := if kind = 0 then mkR (n * e + m * d) (d * e) else mkR (n * m) (d * e)
theorem op_v {kind : Int} (hk : kind = 0 ∨ kind = 2) {n d m e : Int} (h : vld n d = true) (k : vld m e = true) : Ev (fun r => vinculumlaw02_op.f r kind n d 0 m e 0) (vop kind n d m e) := by
 have := op_ev kind hk n d 0 m e 0
 rw [if_pos ⟨rfl, rfl⟩, addR_v h k, mulR_v h k] at this
 exact this
theorem op_x {kind : Int} (hk : kind = 0 ∨ kind = 2) (n d e1 m e e2 : Int) (h : e1 ≠ 0 ∨ e2 ≠ 0) : Ev (fun r => vinculumlaw02_op.f r kind n d e1 m e e2) (0, 0, 2) := by
 have := op_ev kind hk n d e1 m e e2
 rw [if_neg (by omega)] at this
 exact this
theorem vop_comm (kind n d m e : Int) : vop kind n d m e = vop kind m e n d := by
 unfold vop
 rw [Int.mul_comm d e, Int.add_comm (n * e), Int.mul_comm n m]
theorem vop_cases (kind : Int) {n d m e : Int} (h : vld n d = true) (k : vld m e = true) : vop kind n d m e = (0, 0, 2) ∨ ∃ p q, vop kind n d m e = (p, q, 0) ∧ vld p q = true ∧ p * (d * e) = (if kind = 0 then n * e + m * d else n * m) * q := by
 obtain ⟨h1, h2, h3⟩ := vb h
 obtain ⟨k1, k2, k3⟩ := vb k
 have hde : d * e ≠ 0 := Int.mul_ne_zero h3 k3
 unfold vop
 split
 ·rcases mkR_cases (n * e + m * d) (d * e) hde with hs | ⟨p, q, hs⟩
  ·exact .inl hs
  ·exact .inr ⟨p, q, hs, mkR_ok hde hs⟩
 ·rcases mkR_cases (n * m) (d * e) hde with hs | ⟨p, q, hs⟩
  ·exact .inl hs
  ·exact .inr ⟨p, q, hs, mkR_ok hde hs⟩
theorem vop_assoc (kind : Int) {x1 x2 y1 y2 z1 z2 p q r s : Int} (hx : vld x1 x2 = true) (hy : vld y1 y2 = true) (hz : vld z1 z2 = true) (ha : vld p q = true) (hc : vld r s = true)
  (e1 : p * (x2 * y2) = (if kind = 0 then x1 * y2 + y1 * x2 else x1 * y1) * q) (e2 : r * (y2 * z2) = (if kind = 0 then y1 * z2 + z1 * y2 else y1 * z1) * s) : vop kind p q z1 z2 = vop kind x1 x2 r s := by
 obtain ⟨_, _, x3⟩ := vb hx
 obtain ⟨_, _, y3⟩ := vb hy
 obtain ⟨_, _, z3⟩ := vb hz
 obtain ⟨_, _, q3⟩ := vb ha
 obtain ⟨_, _, s3⟩ := vb hc
 clear hx hy hz ha hc
 unfold vop
 by_cases hk : kind = 0
 ·rw [if_pos hk] at e1 e2
  rw [if_pos hk, if_pos hk]
  refine mkR_same (Int.mul_ne_zero q3 z3) (Int.mul_ne_zero x3 s3) (Int.eq_of_mul_eq_mul_right y3 ?_)
  clear hk x3 y3 z3 q3 s3
  grind
 ·rw [if_neg hk] at e1 e2
  rw [if_neg hk, if_neg hk]
  refine mkR_same (Int.mul_ne_zero q3 z3) (Int.mul_ne_zero x3 s3) (Int.eq_of_mul_eq_mul_right y3 ?_)
  clear hk x3 y3 z3 q3 s3
  grind
theorem agree_self (x : Int × Int × Int) : vinculumlaw02_agree.f x.1 x.2.1 x.2.2 x.1 x.2.1 x.2.2 = some true := by
 unfold vinculumlaw02_agree.f
 split <;> (try split) <;> simp
theorem agree_l (x : Int × Int × Int) (n d : Int) : vinculumlaw02_agree.f n d 2 x.1 x.2.1 x.2.2 = some true := by
 unfold vinculumlaw02_agree.f
 rw [if_neg (by decide)]
theorem agree_r (x : Int × Int × Int) (n d : Int) : vinculumlaw02_agree.f x.1 x.2.1 x.2.2 n d 2 = some true := by
 unfold vinculumlaw02_agree.f
 split
 ·rw [if_neg (by decide)]
 ·rfl
theorem field_step (kind : Int) (hk : kind = 0 ∨ kind = 2) {x1 x2 y1 y2 z1 z2 : Int} (hx : vld x1 x2 = true) (hy : vld y1 y2 = true) (hz : vld z1 z2 = true)
  (hn : Ev (fun r => vinculumlaw02_RationalField.l0 r (kind + 2) x1 x2 y1 y2 z1 z2) true) : Ev (fun r => vinculumlaw02_RationalField.l0 r kind x1 x2 y1 y2 z1 z2) true := by
 have ew : wrap64 (kind + 2) = kind + 2 := wrap_id (by omega) (by omega)
 apply Ev.succ
 simp only [vinculumlaw02_RationalField.l0]
 rw [ew]
 refine Ev.pos (by omega) (Ev.bind (op_v hk hx hy) ?_)
 have hb := op_v hk hy hx
 rw [vop_comm] at hb
 refine Ev.bind hb (Ev.bind (op_v hk hy hz) ?_)
 rcases vop_cases kind hx hy with ha | ⟨p, q, ha, va, e1⟩
 ·rw [ha]
  refine Ev.bind (op_x hk _ _ _ _ _ _ (.inl (by decide))) ?_
  have hr := op_ev kind hk x1 x2 0 (vop kind y1 y2 z1 z2).1 (vop kind y1 y2 z1 z2).2.1 (vop kind y1 y2 z1 z2).2.2
  refine Ev.bind hr (Ev.neg (by simp) (Ev.pos rfl (Ev.bindO (agree_l _ _ _) (Ev.pos rfl hn))))
 ·rcases vop_cases kind hy hz with hc | ⟨r, s, hc, vc, e2⟩
  ·rw [hc, ha]
   refine Ev.bind (op_v hk va hz) (Ev.bind (op_x hk _ _ _ _ _ _ (.inr (by decide))) ?_)
   exact Ev.neg (by simp) (Ev.pos rfl (Ev.bindO (agree_r _ _ _) (Ev.pos rfl hn)))
  ·rw [hc, ha]
   refine Ev.bind (op_v hk va hz) (Ev.bind (op_v hk hx vc) ?_)
   rw [vop_assoc kind hx hy hz va vc e1 e2]
   exact Ev.neg (by simp) (Ev.pos rfl (Ev.bindO (agree_self _) (Ev.pos rfl hn)))
theorem field_last {x1 x2 y1 y2 z1 z2 : Int} (hx : vld x1 x2 = true) (hy : vld y1 y2 = true) (hz : vld z1 z2 = true) : Ev (fun r => vinculumlaw02_RationalField.l0 r 4 x1 x2 y1 y2 z1 z2) true := by
 apply Ev.succ
 simp only [vinculumlaw02_RationalField.l0]
 refine Ev.neg (by decide) (Ev.bind (Add_p y1 y2 z1 z2) ?_)
 have esum : addR y1 y2 z1 z2 = vop 0 y1 y2 z1 z2 := addR_v hy hz
 have exy : mulR x1 x2 y1 y2 = vop 2 x1 x2 y1 y2 := mulR_v hx hy
 have exz : mulR x1 x2 z1 z2 = vop 2 x1 x2 z1 z2 := mulR_v hx hz
 rw [esum]
 have hA := op_ev 2 (.inr rfl) x1 x2 0 (vop 0 y1 y2 z1 z2).1 (vop 0 y1 y2 z1 z2).2.1 (vop 0 y1 y2 z1 z2).2.2
 refine Ev.bind hA (Ev.bind (Mul_p x1 x2 y1 y2) (Ev.bind (Mul_p x1 x2 z1 z2) ?_))
 rw [exy, exz]
 have hB := op_ev 0 (.inl rfl) (vop 2 x1 x2 y1 y2).1 (vop 2 x1 x2 y1 y2).2.1 (vop 2 x1 x2 y1 y2).2.2 (vop 2 x1 x2 z1 z2).1 (vop 2 x1 x2 z1 z2).2.1 (vop 2 x1 x2 z1 z2).2.2
 refine Ev.bind hB (Ev.bindO (a := true) ?_ (Ev.ret rfl))
 rcases vop_cases 0 hy hz with hs | ⟨r, s, hs, vs, e1⟩
 ·rw [hs, if_neg (by decide)]
  exact agree_l _ _ _
 ·rcases vop_cases 2 hx hy with hp | ⟨p, q, hp, vp, e2⟩
  ·rw [hp, if_neg (c := (2 : Int) = 0 ∧ _) (by simp)]
   exact agree_r _ _ _
  ·rcases vop_cases 2 hx hz with hu | ⟨u, v, hu, vu, e3⟩
   ·rw [hu, if_neg (c := _ ∧ (2 : Int) = 0) (by simp)]
    exact agree_r _ _ _
   ·rw [hs, hp, hu]
    simp only [and_self, if_true]
    rw [if_neg (by decide), mulR_v hx vs, addR_v vp vu]
    rw [if_pos rfl] at e1
    rw [if_neg (by decide)] at e2 e3
    have hE : mkR (x1 * r) (x2 * s) = mkR (p * v + u * q) (q * v) := by
     obtain ⟨_, _, x3⟩ := vb hx
     obtain ⟨_, _, y3⟩ := vb hy
     obtain ⟨_, _, z3⟩ := vb hz
     obtain ⟨_, _, s3⟩ := vb vs
     obtain ⟨_, _, q3⟩ := vb vp
     obtain ⟨_, _, v3⟩ := vb vu
     refine mkR_same (Int.mul_ne_zero x3 s3) (Int.mul_ne_zero q3 v3) (Int.eq_of_mul_eq_mul_right (Int.mul_ne_zero y3 z3) ?_)
     clear hx hy hz vs vp vu hs hp hu esum exy exz hA hB x3 y3 z3 s3 q3 v3
     grind
    rw [hE]
    exact agree_self _
theorem RationalField.pure : RationalField.Pure := by
 intro y hy
 obtain ⟨⟨w1, w2⟩, ⟨w3, w4⟩, ⟨w5, w6⟩⟩ := hy
 refine Ev.rounds (g := fun k => vinculumlaw02_RationalField.f k y.f0.f0 y.f0.f1 y.f1.f0 y.f1.f1 y.f2.f0 y.f2.f1) ?_
 unfold vinculumlaw02_RationalField.f
 refine Ev.bind awake_p (Ev.pos rfl ?_)
 obtain ⟨x1, x2, y1, y2, z1, z2, en, hx, hy, hz⟩ := numbers_ev w1 w2 w3 w4 w5 w6
 refine Ev.bind en ?_
 exact field_step 0 (.inl rfl) hx hy hz (field_step 2 (.inr rfl) hx hy hz (field_last hx hy hz))
end Go.Proofs.YtoieknocpphjoaaDoor.P
