--m
/- RationalPowers: the power of a sum of exponents is the product of the powers, and the root of a square is the absolute value. No program in sight. -/
import Derived.Test.YtoieknocpphjoaaDoorPoF
import Derived.Test.YtoieknocpphjoaaDoorSayRationalPowers
import Derived.Test.YtoieknocpphjoaaDoorP24
import Derived.Test.YtoieknocpphjoaaDoorP25
import Derived.Test.YtoieknocpphjoaaDoorP35
import Derived.Test.YtoieknocpphjoaaDoorP36
import Derived.Test.YtoieknocpphjoaaDoorP52
namespace Go.Proofs.YtoieknocpphjoaaDoor.P
open Go.RowKit Go.Proofs.YtoieknocpphjoaaDoorW.PrintWords Go.Proofs.YtoieknocpphjoaaDoorW.PrintLast Go.Proofs.YtoieknocpphjoaaDoorW.PrintMore
set_option linter.unusedSimpArgs false
set_option linter.unusedVariables false
theorem i8_bounds {a : Int} (h : (Lit.int .i8 a).wf = true) : -128 ≤ a ∧ a ≤ 127 := by
 simpa [Lit.wf, IntKind.min, IntKind.max, IntKind.bits, IntKind.signed] using h
theorem agree_self2 (x : Int × Int × Int) : vinculumlaw02_agree.f x.1 x.2.1 x.2.2 x.1 x.2.1 x.2.2 = some true := by
 unfold vinculumlaw02_agree.f
 split <;> (try split) <;> simp
theorem agree_l2 (x y : Int × Int × Int) (h : x.2.2 ≠ 0) : vinculumlaw02_agree.f x.1 x.2.1 x.2.2 y.1 y.2.1 y.2.2 = some true := by
 unfold vinculumlaw02_agree.f
 rw [if_neg h]
theorem agree_r2 (x y : Int × Int × Int) (h : y.2.2 ≠ 0) : vinculumlaw02_agree.f x.1 x.2.1 x.2.2 y.1 y.2.1 y.2.2 = some true := by
 unfold vinculumlaw02_agree.f
 split
 ·first | rfl | rw [if_neg h]
 ·rfl
theorem op_mul (n d e1 m e e2 : Int) : Ev (fun r => vinculumlaw02_op.f r 2 n d e1 m e e2) (if e1 = 0 ∧ e2 = 0 then mulR n d m e else (0, 0, 2)) := by
 have key : ∀ b : Bool, Ev (fun r => vinculumlaw02_op.j0 r 2 b n d m e) (if b = true then (0, 0, 2) else mulR n d m e) := by
  intro b
  apply Ev.succ
  simp only [vinculumlaw02_op.j0]
  refine Ev.ite (fun h => Ev.ret (by rw [if_pos h])) (fun h => ?_)
  rw [if_neg h]
  exact Ev.neg (by decide) (Ev.neg (by decide) (Ev.pos (by trivial) (Ev.bind (Mul_p n d m e) (Ev.ret rfl))))
 unfold vinculumlaw02_op.f
 refine Ev.ite (fun h => ?_) (fun h => ?_)
 ·have := key (e2 != 0)
  by_cases h2 : e2 = 0
  ·rw [if_pos ⟨h, h2⟩]
   simpa [h2] using this
  ·rw [if_neg (by simp [h2])]
   simpa [h2] using this
 ·have := key true
  rw [if_neg (by simp [h])]
  simpa using this
theorem mkR_sm {a b : Int} (ha : -128 ≤ a ∧ a ≤ 127) (hb : -128 ≤ b ∧ b ≤ 127) (h0 : b ≠ 0) : ∃ p q, mkR a b = (p, q, 0) ∧ vld p q = true ∧ p.natAbs ≤ 128 ∧ q ≤ 128 := by
 have h1 := Nat.div_le_self a.natAbs (Nat.gcd a.natAbs b.natAbs)
 have h2 := Nat.div_le_self b.natAbs (Nat.gcd a.natAbs b.natAbs)
 obtain ⟨p, q, h, k1, k2⟩ : ∃ p q, mkR a b = (p, q, 0) ∧ p.natAbs ≤ 128 ∧ q ≤ 128 := by
  unfold mkR
  rw [if_neg h0, if_neg (by omega)]
  generalize a.natAbs / a.natAbs.gcd b.natAbs = x at *
  generalize b.natAbs / a.natAbs.gcd b.natAbs = y at *
  refine ⟨_, _, rfl, ?_, by omega⟩
  split <;> omega
 exact ⟨p, q, h, (mkR_ok h0 h).1, k1, k2⟩
theorem nu_add (n d a b : Int) : nu n d (a + b) * (nu d n a * nu d n b) = nu d n (a + b) * (nu n d a * nu n d b) := by
 unfold nu
 obtain ⟨i, rfl | rfl⟩ := Int.eq_nat_or_neg a <;> obtain ⟨j, rfl | rfl⟩ := Int.eq_nat_or_neg b
 ·rw [if_pos (by omega), if_pos (by omega), if_pos (by omega), if_pos (by omega), if_pos (by omega), if_pos (by omega), show ((i : Int) + j).toNat = i + j by omega, Int.toNat_natCast, Int.toNat_natCast, Int.pow_add, Int.pow_add]
  grind
 ·by_cases hj : j = 0
  ·subst hj
   simp
   grind
  by_cases h : j ≤ i
  ·obtain ⟨k, rfl⟩ := Nat.exists_eq_add_of_le h
   rw [if_pos (by omega), if_pos (by omega), if_neg (by omega), if_pos (by omega), if_pos (by omega), if_neg (by omega), show (((j + k : Nat) : Int) + -(j : Int)).toNat = k by omega, Int.toNat_natCast, show (- -(j : Int)).toNat = j by omega, Int.pow_add, Int.pow_add]
   grind
  ·obtain ⟨k, rfl⟩ := Nat.exists_eq_add_of_le (show i ≤ j by omega)
   rw [if_neg (by omega), if_pos (by omega), if_neg (by omega), if_neg (by omega), if_pos (by omega), if_neg (by omega), show (-((i : Int) + -((i + k : Nat) : Int))).toNat = k by omega, Int.toNat_natCast, show (- -((i + k : Nat) : Int)).toNat = i + k by omega, Int.pow_add, Int.pow_add]
   grind
 ·by_cases hi : i = 0
  ·subst hi
   simp
   grind
  by_cases h : i ≤ j
  ·obtain ⟨k, rfl⟩ := Nat.exists_eq_add_of_le h
   rw [if_pos (by omega), if_neg (by omega), if_pos (by omega), if_pos (by omega), if_neg (by omega), if_pos (by omega), show (-(i : Int) + ((i + k : Nat) : Int)).toNat = k by omega, Int.toNat_natCast, show (- -(i : Int)).toNat = i by omega, Int.pow_add, Int.pow_add]
   grind
  ·obtain ⟨k, rfl⟩ := Nat.exists_eq_add_of_le (show j ≤ i by omega)
   rw [if_neg (by omega), if_neg (by omega), if_pos (by omega), if_neg (by omega), if_neg (by omega), if_pos (by omega), show (-(-((j + k : Nat) : Int) + (j : Int))).toNat = k by omega, Int.toNat_natCast, show (- -((j + k : Nat) : Int)).toNat = j + k by omega, Int.pow_add, Int.pow_add]
   grind
 ·by_cases hi : i = 0
  ·subst hi
   simp
   grind
  by_cases hj : j = 0
  ·subst hj
   simp
   grind
  rw [if_neg (by omega), if_neg (by omega), if_neg (by omega), if_neg (by omega), if_neg (by omega), if_neg (by omega), show (-(-(i : Int) + -(j : Int))).toNat = i + j by omega, show (- -(i : Int)).toNat = i by omega, show (- -(j : Int)).toNat = j by omega, Int.pow_add, Int.pow_add]
  grind
theorem powR_cases {n d : Int} (h : vld n d = true) (e : Int) : (powR n d e).2.2 ≠ 0 ∨ ∃ p q, powR n d e = (p, q, 0) ∧ vld p q = true ∧ nu d n e ≠ 0 ∧ p * nu d n e = nu n d e * q := by
 have hb := vld_bounds h
 unfold powR
 rw [if_pos h]
 by_cases h0 : n = 0 ∧ e < 0
 ·rw [if_pos h0]; exact .inl (by decide)
 ·rw [if_neg h0]
  have hne : nu d n e ≠ 0 := by
   unfold nu
   split
   ·have := ipow_pos hb.1 e.toNat; omega
   ·exact Int.pow_ne_zero (by omega)
  rcases mkR_cases (nu n d e) (nu d n e) hne with hm | ⟨p, q, hm⟩
  ·rw [hm]; exact .inl (by decide)
  ·obtain ⟨v, c⟩ := mkR_ok hne hm
   exact .inr ⟨p, q, hm, v, hne, c⟩
theorem pows_agree {n d : Int} (h : vld n d = true) (a b : Int) : ∃ r, Ev (fun k => vinculumlaw02_op.f k 2 (powR n d a).1 (powR n d a).2.1 (powR n d a).2.2 (powR n d b).1 (powR n d b).2.1 (powR n d b).2.2) r ∧
  vinculumlaw02_agree.f r.1 r.2.1 r.2.2 (powR n d (a + b)).1 (powR n d (a + b)).2.1 (powR n d (a + b)).2.2 = some true := by
 refine ⟨_, op_mul _ _ _ _ _ _, ?_⟩
 rcases powR_cases h a with ha | ⟨pa, qa, ea, va, za, ca⟩
 ·rw [if_neg (fun hh => ha hh.1)]; exact agree_l2 _ _ (by decide)
 rcases powR_cases h b with hb | ⟨pb, qb, eb, vb', zb, cb⟩
 ·rw [if_neg (fun hh => hb hh.2)]; exact agree_l2 _ _ (by decide)
 rcases powR_cases h (a + b) with hc | ⟨pc, qc, ec, vc, zc, cc⟩
 ·exact agree_r2 _ _ hc
 rw [ea, eb, ec]
 simp only [and_self, if_true]
 rw [mulR_v va vb']
 obtain ⟨_, _, qa0⟩ := vb va
 obtain ⟨_, _, qb0⟩ := vb vb'
 have hq0 : qa * qb ≠ 0 := Int.mul_ne_zero qa0 qb0
 rcases mkR_cases (pa * pb) (qa * qb) hq0 with hm | ⟨p, q, hm⟩
 ·rw [hm]; exact agree_l2 (0, 0, 2) (pc, qc, 0) (by decide)
 ·obtain ⟨v, c⟩ := mkR_ok hq0 hm
  rw [hm]
  have key : p * qc = pc * q := by
   have hX : qa * qb * (nu d n a * nu d n b * nu d n (a + b)) ≠ 0 := Int.mul_ne_zero hq0 (Int.mul_ne_zero (Int.mul_ne_zero za zb) zc)
   refine Int.eq_of_mul_eq_mul_right hX ?_
   have hn := nu_add n d a b
   generalize nu d n a = Da at *
   generalize nu d n b = Db at *
   generalize nu d n (a + b) = Dc at *
   generalize nu n d a = Na at *
   generalize nu n d b = Nb at *
   generalize nu n d (a + b) = Nc at *
   clear ea eb ec va vb' vc hm v hX hq0 za zb zc qa0 qb0 h
   have e1 : p * qc * (qa * qb * (Da * Db * Dc)) = (p * (qa * qb)) * (qc * (Da * Db * Dc)) := by grind
   have e2 : (pa * pb * q) * (qc * (Da * Db * Dc)) = (pa * Da) * (pb * Db) * (q * qc * Dc) := by grind
   have e3 : (Na * qa) * (Nb * qb) * (q * qc * Dc) = (Dc * (Na * Nb)) * (qa * qb * q * qc) := by grind
   have e4 : (Nc * (Da * Db)) * (qa * qb * q * qc) = (Nc * qc) * (Da * Db * (qa * qb * q)) := by grind
   rw [e1, c, e2, ca, cb, e3, ← hn, e4, ← cc]
   grind
  have b1 := vld_bounds v
  have b2 := vld_bounds vc
  have eq' : q = ((q.natAbs : Nat) : Int) := by omega
  have ec' : qc = ((qc.natAbs : Nat) : Int) := by omega
  obtain ⟨e1, e2⟩ := low_unique (vld_gcd v) (vld_gcd vc) (by omega) (by omega) (by rw [← eq', ← ec']; exact key)
  obtain rfl : q = qc := by omega
  subst e1
  exact agree_self2 _
theorem sq_lt {a b : Int} (h0 : 0 ≤ a) (h : a < b) : a * a < b * b := by
 have h1 : (a + 1) * (a + 1) ≤ b * b := Int.mul_le_mul (by omega) (by omega) (by omega) (by omega)
 have h2 : (a + 1) * (a + 1) = a * a + 2 * a + 1 := by grind
 omega
theorem root_sq {s : Int} (h0 : 0 ≤ s) (h1 : s ≤ 128) : ∀ (m : Nat) (lo hi : Int), 0 ≤ lo → lo ≤ s → s ≤ hi → hi ≤ 65536 → (hi - lo).toNat ≤ m → Ev (fun k => rational_root.l0 k (s * s) lo hi) (s, true) := by
 have hss : wrap64 (s * s) = s * s := mul_w (by omega) (by omega)
 intro m
 induction m with
 | zero =>
  intro lo hi a1 a2 a3 a4 hm
  obtain rfl : lo = s := by omega
  apply Ev.succ
  simp only [rational_root.l0]
  exact Ev.neg (by omega) (Ev.ret (by rw [hss]; simp))
 | succ m ih =>
  intro lo hi a1 a2 a3 a4 hm
  apply Ev.succ
  simp only [rational_root.l0]
  refine Ev.ite (fun hlt => ?_) (fun hlt => ?_)
  ·obtain ⟨mid, hmid, b1, b2⟩ : ∃ mid, wrap64 (Int.tdiv (wrap64 (lo + hi)) 2) = mid ∧ lo ≤ mid ∧ mid < hi := by
    refine ⟨_, rfl, ?_⟩
    rw [wrap_id (x := lo + hi) (by omega) (by omega), Int.tdiv_eq_ediv_of_nonneg (by omega), wrap_id (by omega) (by omega)]
    omega
   have e1 : wrap64 (mid + 1) = mid + 1 := wrap_id (by omega) (by omega)
   have e2 : wrap64 (mid * mid) = mid * mid := mul_w (by omega) (by omega)
   rw [hmid, e1, e2]
   refine Ev.ite (fun hc => ?_) (fun hc => ?_)
   ·refine ih (mid + 1) hi (by omega) ?_ a3 a4 (by omega)
    rcases Int.lt_or_le mid s with hh | hh
    ·omega
    ·have := Int.mul_le_mul hh hh h0 (by omega); omega
   ·refine ih lo mid a1 a2 ?_ (by omega) (by omega)
    rcases Int.lt_or_le mid s with hh | hh
    ·exact absurd (sq_lt (by omega) hh) hc
    ·exact hh
  ·obtain rfl : lo = s := by omega
   exact Ev.ret (by rw [hss]; simp)
theorem Root_sq {p q : Int} (v : vld (p ^ 2) (q ^ 2) = true) (hp : p.natAbs ≤ 128) (hq : 1 ≤ q ∧ q ≤ 128) : Ev (fun k => rational_Root.f k (p ^ 2) (q ^ 2)) ((p.natAbs : Int), q, 0) := by
 have e1 : p ^ 2 = (p.natAbs : Int) * (p.natAbs : Int) := by
  have : p ^ 2 = p * p := by rw [Int.pow_succ, Int.pow_one]
  rw [this]
  rcases Int.natAbs_eq p with h | h
  ·rw [← h]
  ·generalize (p.natAbs : Int) = s at *
   subst h
   grind
 have e2 : q ^ 2 = q * q := by rw [Int.pow_succ, Int.pow_one]
 have hn : 0 ≤ p ^ 2 := by rw [e1]; exact Int.mul_nonneg (by omega) (by omega)
 unfold rational_Root.f rational_root.f
 refine Ev.bind (Valid_p _ _) (Ev.pos v (Ev.neg (by omega) ?_))
 rw [e1, e2]
 refine Ev.bind (root_sq (by omega) (by omega) _ 0 65536 (by omega) (by omega) (by omega) (by omega) (Nat.le_refl _)) ?_
 exact Ev.bind (root_sq (by omega) (by omega) _ 0 65536 (by omega) (by omega) (by omega) (by omega) (Nat.le_refl _)) (Ev.pos rfl (Ev.pos rfl (Ev.ret rfl)))
theorem powers_end {p q : Int} (v : vld p q = true) (hp : p.natAbs ≤ 128) (hq : q ≤ 128) : Ev (fun k => vinculumlaw02_RationalPowers.j1 k false p q) true := by
 have hb := vld_bounds v
 have p2 : okp p q 2 := by
  have a1 : p.natAbs ^ 2 ≤ 128 ^ 2 := Nat.pow_le_pow_left hp 2
  have a2 : q.natAbs ^ 2 ≤ 128 ^ 2 := Nat.pow_le_pow_left (by omega) 2
  unfold okp
  omega
 have p1 : okp p q 1 := okp_mono hb.1 p2 (by omega)
 have hm := mulR_pow1 v p1
 rw [Int.pow_one p, Int.pow_one q, if_pos p2] at hm
 apply Ev.succ
 simp only [vinculumlaw02_RationalPowers.j1]
 refine Ev.neg (by decide) (Ev.bind (Mul_p p q p q) ?_)
 rw [hm]
 refine Ev.bind (Root_sq (vld_pow v p2) hp ⟨hb.1, hq⟩) ?_
 refine Ev.ite (fun h => ?_) (fun h => ?_)
 ·refine Ev.bind (Neg_p p q) ?_
  unfold negR
  rw [if_pos v, wrap_id (x := -p) (by omega) (by omega)]
  refine Ev.pos rfl (Ev.pos rfl (Ev.ret ?_))
  simp only [Bool.and_eq_true, beq_iff_eq]
  exact ⟨by omega, trivial⟩
 ·refine Ev.pos rfl (Ev.pos rfl (Ev.ret ?_))
  simp only [Bool.and_eq_true, beq_iff_eq]
  exact ⟨by omega, trivial⟩
theorem powers_go {x1 x2 x7 x0 x9 : Int} (h0 : -128 ≤ x0 ∧ x0 ≤ 127) (h7 : -128 ≤ x7 ∧ x7 ≤ 127) (h7' : x7 ≠ 0) (h1 : -128 ≤ x1 ∧ x1 ≤ 127) (h2 : -128 ≤ x2 ∧ x2 ≤ 127) :
  Ev (fun k => vinculumlaw02_RationalPowers.j0 k x1 x2 x7 x0 x9) true := by
 obtain ⟨p, q, em, v, hp, hq⟩ := mkR_sm h0 h7 h7'
 apply Ev.succ
 simp only [vinculumlaw02_RationalPowers.j0]
 rw [wrap_id (x := x0) (by omega) (by omega), wrap_id (x := x1) (by omega) (by omega), wrap_id (x := x2) (by omega) (by omega), wrap_id (x := x1 + x2) (by omega) (by omega)]
 refine Ev.bind (Make_p (by omega) (by omega)) ?_
 rw [em]
 refine Ev.bind (Pow_p (by omega)) (Ev.bind (Pow_p (by omega)) (Ev.bind (Pow_p (by omega)) ?_))
 obtain ⟨r, e1, e2⟩ := pows_agree v x1 x2
 refine Ev.bind e1 (Ev.pos rfl (Ev.bindO e2 ?_))
 exact powers_end v hp hq
theorem RationalPowers.pure : RationalPowers.Pure := by
 intro y m n hy hm hn
 obtain ⟨w1, w2⟩ := hy
 have b1 := i8_bounds w1
 have b2 := i8_bounds w2
 have b3 := i8_bounds hm
 have b4 := i8_bounds hn
 refine Ev.rounds (g := fun k => vinculumlaw02_RationalPowers.f k y.f0 y.f1 m n) ?_
 unfold vinculumlaw02_RationalPowers.f
 refine Ev.bind awake_p (Ev.pos rfl ?_)
 rw [wrap_id (x := y.f1) (by omega) (by omega)]
 exact Ev.ite (fun h => powers_go b1 (by omega) (by omega) b3 b4) (fun h => powers_go b1 b2 h b3 b4)
end Go.Proofs.YtoieknocpphjoaaDoor.P
