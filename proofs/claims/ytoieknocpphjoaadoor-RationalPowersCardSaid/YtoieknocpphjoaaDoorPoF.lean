--m
/- Powers of rational numbers: what the program's function and the document's answer. No program in sight. -/
import Derived.Test.YtoieknocpphjoaaDoorPoC
import Derived.Lib.BitFns
import Derived.Test.YtoieknocpphjoaaDoorP40
import Derived.Test.YtoieknocpphjoaaDoorP41
import Derived.Test.YtoieknocpphjoaaDoorP42
import Derived.Test.YtoieknocpphjoaaDoorP43
namespace Go.Proofs.YtoieknocpphjoaaDoor.P
open Go.RowKit Go.Proofs.YtoieknocpphjoaaDoorW.PrintWords Go.Proofs.YtoieknocpphjoaaDoorW.PrintLast Go.Proofs.YtoieknocpphjoaaDoorW.PrintMore
set_option linter.unusedSimpArgs false
set_option linter.unusedVariables false
/-- A power, and its denominator, have representations. -/
def okp (n d : Int) (p : Nat) : Prop := n.natAbs ^ p ≤ 2147483647 ∧ d.natAbs ^ p ≤ 2147483647
instance (n d : Int) (p : Nat) : Decidable (okp n d p) := by unfold okp; exact inferInstance
theorem ipow_pos {d : Int} (h : 1 ≤ d) (p : Nat) : 1 ≤ d ^ p := by
 induction p with
 | zero => simp
 | succ p ih => rw [Int.pow_succ]; exact Int.le_trans h (by have := Int.mul_le_mul_of_nonneg_right ih (show 0 ≤ d by omega); omega)
theorem gcd_pow {n d : Int} (h : Nat.gcd n.natAbs d.natAbs = 1) (p q : Nat) : Nat.gcd (n ^ p).natAbs (d ^ q).natAbs = 1 := by
 rw [Int.natAbs_pow, Int.natAbs_pow]
 exact Nat.Coprime.pow p q h
theorem okp_mono {n d : Int} (hd : 1 ≤ d) {p q : Nat} (h : okp n d q) (hpq : p ≤ q) : okp n d p := by
 refine ⟨?_, Nat.le_trans (Nat.pow_le_pow_right (by omega) hpq) h.2⟩
 rcases Nat.eq_zero_or_pos n.natAbs with h0 | h0
 ·rw [h0]
  rcases Nat.eq_zero_or_pos p with h1 | h1
  ·subst h1; simp
  ·rw [Nat.zero_pow h1]; omega
 ·exact Nat.le_trans (Nat.pow_le_pow_right h0 hpq) h.1
theorem vld_pow {n d : Int} (h : vld n d = true) {p : Nat} (hp : okp n d p) : vld (n ^ p) (d ^ p) = true := by
 have hb := vld_bounds h
 have h1 := ipow_pos hb.1 p
 obtain ⟨k1, k2⟩ := hp
 rw [← Int.natAbs_pow] at k1 k2
 have hg := gcd_pow (vld_gcd h) p p
 unfold vld
 simp only [Bool.and_eq_true, decide_eq_true_eq, beq_iff_eq]
 generalize n ^ p = a at *
 generalize d ^ p = b at *
 exact ⟨⟨⟨⟨by omega, by omega⟩, by omega⟩, by omega⟩, hg⟩
theorem mkR_pow {n d : Int} (h : vld n d = true) (p : Nat) : mkR (n ^ p) (d ^ p) = if okp n d p then (n ^ p, d ^ p, 0) else (0, 0, 2) := by
 by_cases hp : okp n d p
 ·rw [if_pos hp, mkR_vld (vld_pow h hp)]
 ·rw [if_neg hp]
  have hb := vld_bounds h
  have h1 := ipow_pos hb.1 p
  have hg := gcd_pow (vld_gcd h) p p
  unfold mkR
  rw [hg, Nat.div_one, Nat.div_one, if_neg (by omega), if_pos]
  unfold okp at hp
  rw [← Int.natAbs_pow, ← Int.natAbs_pow] at hp
  omega
theorem mulR_pow {n d : Int} (h : vld n d = true) {p q : Nat} (hp : okp n d p) (hq : okp n d q) : mulR (n ^ p) (d ^ p) (n ^ q) (d ^ q) = if okp n d (p + q) then (n ^ (p + q), d ^ (p + q), 0) else (0, 0, 2) := by
 rw [mulR_v (vld_pow h hp) (vld_pow h hq), ← Int.pow_add, ← Int.pow_add, mkR_pow h]
theorem mulR_pow1 {n d : Int} (h : vld n d = true) {p : Nat} (hp : okp n d p) : mulR (n ^ p) (d ^ p) n d = if okp n d (p + 1) then (n ^ (p + 1), d ^ (p + 1), 0) else (0, 0, 2) := by
 have hb := vld_bounds h
 have h1 : okp n d 1 := by unfold okp; simp; omega
 have := mulR_pow h hp h1
 rw [Int.pow_one n, Int.pow_one d] at this
 exact this
/-- The numerator (or, with a and b exchanged, the denominator) of a power. -/
def nu (a b e : Int) : Int := if 0 ≤ e then a ^ e.toNat else b ^ (-e).toNat
def powR (n d e : Int) : Int × Int × Int := if vld n d = true then (if n = 0 ∧ e < 0 then (0, 0, 10) else mkR (nu n d e) (nu d n e)) else (0, 0, 1)
/-! ### the steps -/
theorem bit_t : ∀ e : Fin 32, ∀ i : Fin 6, (Go.bits .and .i64 (shr .i64 ((e.val : Nat) : Int) ((i.val : Nat) : Int)) 1) = (((e.val / 2 ^ i.val) % 2 : Nat) : Int) := by decide +kernel
theorem len_t : ∀ e : Fin 32, e.val ≠ 0 → 1 ≤ Lib.bitLen e.val ∧ Lib.bitLen e.val ≤ 5 ∧ e.val / 2 ^ (Lib.bitLen e.val - 1) = 1 := by decide +kernel
/-- What the steps end in. -/
def finR (x1 n d : Int) (E : Nat) : Int × Int × Int := if okp n d E then (if x1 < 0 then mkR (d ^ E) (n ^ E) else (n ^ E, d ^ E, 0)) else (0, 0, 2)
theorem fin_no {x1 n d : Int} (hd : 1 ≤ d) {E p : Nat} (hp : ¬ okp n d p) (h : p ≤ E) : finR x1 n d E = (0, 0, 2) := by
 unfold finR
 rw [if_neg (fun hE => hp (okp_mono hd hE h))]
theorem pow_end {x1 n d : Int} (h : vld n d = true) {E : Nat} (hE : okp n d E) (x6 : Int) : Ev (fun k => rational_Pow.l0 k x1 x6 (-1) n d (n ^ E) (d ^ E)) (finR x1 n d E) := by
 unfold finR
 rw [if_pos hE]
 have hv := vld_pow h hE
 have hb := vld_in hv
 have hb2 := vld_bounds hv
 apply Ev.succ
 simp only [rational_Pow.l0]
 refine Ev.neg (by omega) (Ev.ite (fun hx => ?_) (fun hx => ?_))
 ·rw [if_pos hx]
  exact Ev.bind (Make_p (by omega) hb) (Ev.ret rfl)
 ·rw [if_neg hx]
  exact Ev.ret rfl
theorem pow_steps {x1 n d : Int} (h : vld n d = true) {E : Nat} (hE : E ≤ 31) : ∀ (c p : Nat), c ≤ 5 → p = E / 2 ^ c → okp n d p →
  Ev (fun k => rational_Pow.l0 k x1 (E : Int) ((c : Int) - 1) n d (n ^ p) (d ^ p)) (finR x1 n d E) := by
 have hb := vld_bounds h
 intro c
 induction c with
 | zero =>
  intro p _ hp hok
  obtain rfl : p = E := by simpa using hp
  exact pow_end h hok _
 | succ c ih =>
  intro p hc hp hok
  have hbit := bit_t ⟨E, by omega⟩ ⟨c, by omega⟩
  simp only at hbit
  have hq : E / 2 ^ c = 2 * p + (E / 2 ^ c) % 2 := by
   have : p = (E / 2 ^ c) / 2 := by rw [hp, Nat.pow_succ, Nat.div_div_eq_div_mul]
   omega
  have hle : E / 2 ^ c ≤ E := Nat.div_le_self _ _
  have e8 : (((c + 1 : Nat) : Int) - 1) = (c : Int) := by omega
  have ew : wrap64 ((c : Int) - 1) = (c : Int) - 1 := wrap_id (by omega) (by omega)
  rw [e8]
  apply Ev.succ
  simp only [rational_Pow.l0]
  refine Ev.pos (by omega) ?_
  apply Ev.succ
  simp only [rational_Pow.l1]
  refine Ev.pos (by omega) (Ev.pos trivial ?_)
  refine Ev.bind (Mul_p _ _ _ _) ?_
  rw [mulR_pow h hok hok]
  by_cases h2 : okp n d (p + p)
  ·rw [if_pos h2]
   refine Ev.pos rfl (Ev.pos (by omega) ?_)
   rw [hbit, ew]
   by_cases hz : (E / 2 ^ c) % 2 = 0
   ·rw [hz]
    refine Ev.pos rfl ?_
    exact ih (p + p) (by omega) (by omega) h2
   ·have hz1 : (E / 2 ^ c) % 2 = 1 := by omega
    rw [hz1]
    refine Ev.neg (by decide) ?_
    apply Ev.succ
    simp only [rational_Pow.l1]
    refine Ev.pos (by decide) (Ev.neg (by decide) (Ev.pos (by decide) (Ev.bind (Mul_p _ _ _ _) ?_)))
    rw [mulR_pow1 h h2]
    by_cases h3 : okp n d (p + p + 1)
    ·rw [if_pos h3]
     refine Ev.pos rfl (Ev.pos (by omega) ?_)
     rw [hbit, hz1]
     refine Ev.neg (by decide) ?_
     apply Ev.succ
     simp only [rational_Pow.l1]
     refine Ev.neg (by decide) ?_
     rw [ew]
     exact ih (p + p + 1) (by omega) (by omega) h3
    ·rw [if_neg h3]
     exact Ev.neg (by decide) (Ev.ret (by rw [fin_no hb.1 h3 (by omega)]))
  ·rw [if_neg h2]
   exact Ev.neg (by decide) (Ev.ret (by rw [fin_no hb.1 h2 (by omega)]))
theorem mkR_swap {a b : Int} (ha : a ≠ 0) (hb : b ≠ 0) (h : mkR a b = (0, 0, 2)) : mkR b a = (0, 0, 2) := by
 unfold mkR at h ⊢
 rw [if_neg hb] at h
 rw [if_neg ha, Nat.gcd_comm]
 split at h
 ·rw [if_pos (by omega)]
 ·simp at h
/-- The end, in one word. -/
theorem fin_pow {n d e : Int} (h : vld n d = true) (hn : n ≠ 0 ∨ 0 ≤ e) : finR e n d e.natAbs = mkR (nu n d e) (nu d n e) := by
 have hb := vld_bounds h
 unfold finR nu
 by_cases he : 0 ≤ e
 ·have e1 : e.toNat = e.natAbs := by omega
  rw [if_pos he, if_pos he, e1, mkR_pow h]
  by_cases hp : okp n d e.natAbs
  ·rw [if_pos hp, if_pos hp, if_neg (by omega)]
  ·rw [if_neg hp, if_neg hp]
 ·have e1 : (-e).toNat = e.natAbs := by omega
  rw [if_neg he, if_neg he, e1]
  by_cases hp : okp n d e.natAbs
  ·rw [if_pos hp, if_pos (by omega)]
  ·rw [if_neg hp]
   have := mkR_pow h e.natAbs
   rw [if_neg hp] at this
   have hd : d ^ e.natAbs ≠ 0 := by have := ipow_pos hb.1 e.natAbs; omega
   have hn0 : n ^ e.natAbs ≠ 0 := Int.pow_ne_zero (by omega)
   rw [mkR_swap hn0 hd this]
/-- Too great an exponent, of what is not 0, 1 or -1. -/
theorem not_ok {n d : Int} (h : vld n d = true) (hn : ¬ (d = 1 ∧ -1 ≤ n ∧ n ≤ 1)) {p : Nat} (hp : 32 ≤ p) : ¬ okp n d p := by
 have hb := vld_bounds h
 have h2 : (4294967296 : Nat) ≤ 2 ^ p := Nat.le_trans (by decide : 4294967296 ≤ 2 ^ 32) (Nat.pow_le_pow_right (by omega) hp)
 rintro ⟨k1, k2⟩
 by_cases hd : 2 ≤ d.natAbs
 ·have := Nat.pow_le_pow_left hd p
  omega
 ·have := Nat.pow_le_pow_left (show 2 ≤ n.natAbs by omega) p
  omega
theorem fin_range {n d e : Int} (h : vld n d = true) (hn : ¬ (d = 1 ∧ -1 ≤ n ∧ n ≤ 1)) (he : e > 31 ∨ e < -31) : mkR (nu n d e) (nu d n e) = (0, 0, 2) := by
 have hb := vld_bounds h
 have n0 : n ≠ 0 := by
  rintro rfl
  have := vld_gcd h
  simp at this
  omega
 rw [← fin_pow h (.inl n0)]
 unfold finR
 rw [if_neg (not_ok h hn (by omega))]
theorem nu_zero (a b : Int) : nu a b 0 = 1 := by unfold nu; simp
theorem pow_zero' {p : Nat} (h : p ≠ 0) : (0 : Int) ^ p = 0 := by obtain ⟨q, rfl⟩ : ∃ q, p = q + 1 := ⟨p - 1, by omega⟩; rw [Int.pow_succ, Int.mul_zero]
theorem neg_one_pow (p : Nat) : (-1 : Int) ^ p = if p % 2 = 0 then 1 else -1 := by
 induction p with
 | zero => rfl
 | succ p ih =>
  rw [Int.pow_succ, ih]
  by_cases h : p % 2 = 0
  ·rw [if_pos h, if_neg (by omega)]; rfl
  ·rw [if_neg h, if_pos (by omega)]; rfl
theorem tmod2 (e : Int) : Int.tmod e 2 = 0 ↔ e.natAbs % 2 = 0 := by
 rcases Int.eq_nat_or_neg e with ⟨m, rfl | rfl⟩
 ·rw [Int.natAbs_natCast, show Int.tmod (m : Int) 2 = ((m % 2 : Nat) : Int) from rfl]; omega
 ·rw [Int.natAbs_neg, Int.natAbs_natCast, Int.neg_tmod, show Int.tmod (m : Int) 2 = ((m % 2 : Nat) : Int) from rfl]; omega
theorem one_pow' (p : Nat) : (1 : Int) ^ p = 1 := by
 induction p with
 | zero => rfl
 | succ p ih => rw [Int.pow_succ, ih]; rfl
/-- The powers of 0, 1 and -1. -/
theorem unit_pow {n e : Int} (hn : -1 ≤ n ∧ n ≤ 1) (he : e ≠ 0) (h0 : n ≠ 0 ∨ 0 ≤ e) : mkR (nu n 1 e) (nu 1 n e) = if n < 0 ∧ e.natAbs % 2 = 0 then (1, 1, 0) else (n, 1, 0) := by
 obtain rfl | rfl | rfl : n = 0 ∨ n = 1 ∨ n = -1 := by omega
 ·unfold nu
  rw [if_pos (by omega), if_pos (by omega), pow_zero' (by omega), one_pow', if_neg (by omega)]
  decide +kernel
 ·unfold nu
  rw [one_pow', one_pow', ite_self, if_neg (by omega)]
  decide +kernel
 ·unfold nu
  by_cases h : 0 ≤ e
  ·rw [if_pos h, if_pos h, one_pow', neg_one_pow, show e.toNat = e.natAbs by omega]
   by_cases hp : e.natAbs % 2 = 0
   ·rw [if_pos hp, if_pos ⟨by decide, hp⟩]; decide +kernel
   ·rw [if_neg hp, if_neg (by omega)]; decide +kernel
  ·rw [if_neg h, if_neg h, one_pow', neg_one_pow, show (-e).toNat = e.natAbs by omega]
   by_cases hp : e.natAbs % 2 = 0
   ·rw [if_pos hp, if_pos ⟨by decide, hp⟩]; decide +kernel
   ·rw [if_neg hp, if_neg (by omega)]; decide +kernel
theorem unit_p (n d e : Int) : rational_unit.f n d e = some (if n < 0 ∧ e.natAbs % 2 = 0 then (1, 1) else (n, d)) := by
 unfold rational_unit.f
 by_cases h : n < 0
 ·rw [if_pos h]
  by_cases h2 : Int.tmod e 2 = 0
  ·rw [if_pos h2, if_pos ⟨h, (tmod2 e).1 h2⟩]
  ·rw [if_neg h2, if_neg (fun hh => h2 ((tmod2 e).2 hh.2))]
 ·rw [if_neg h, if_neg (fun hh => h hh.1)]
theorem Pow_j1 {n d e : Int} (h : vld n d = true) (he : e ≠ 0) (hr : -9223372036854775808 ≤ e ∧ e ≤ 9223372036854775807) (h0 : n ≠ 0 ∨ 0 ≤ e) (b : Bool) (hb : b = true ↔ (d = 1 ∧ -1 ≤ n ∧ n ≤ 1)) : Ev (fun k => rational_Pow.j1 k e b n d) (mkR (nu n d e) (nu d n e)) := by
 apply Ev.succ
 simp only [rational_Pow.j1]
 refine Ev.ite (fun hc => ?_) (fun hc => ?_)
 ·obtain ⟨rfl, hn⟩ := hb.1 hc
  rw [unit_pow hn he h0]
  refine Ev.bindO (unit_p n 1 e) (Ev.ret ?_)
  split <;> rfl
 ·have hn : ¬ (d = 1 ∧ -1 ≤ n ∧ n ≤ 1) := fun hh => hc (hb.2 hh)
  refine Ev.ite (fun h1 => Ev.ret (by rw [fin_range h hn (.inl h1)])) (fun h1 => ?_)
  refine Ev.ite (fun h2 => Ev.ret (by rw [fin_range h hn (.inr (by omega))])) (fun h2 => ?_)
  refine Ev.bindO (size_p (by omega) (by omega)) ?_
  have e1 : wrap64 ((e.natAbs : Nat) : Int) = ((e.natAbs : Nat) : Int) := wrap_id (by omega) (by omega)
  have e2 : IntKind.u64.wrap ((e.natAbs : Nat) : Int) = ((e.natAbs : Nat) : Int) := by rw [u64_wrap]; omega
  rw [e1, e2]
  obtain ⟨l1, l2, l3⟩ := len_t ⟨e.natAbs, by omega⟩ (by show e.natAbs ≠ 0; omega)
  simp only at l1 l2 l3
  refine Ev.bindO (a := ((Lib.bitLen e.natAbs : Nat) : Int)) (by unfold bits_Len.f; rw [if_pos (by omega), Int.toNat_natCast]) ?_
  have e3 : wrap64 (((Lib.bitLen e.natAbs : Nat) : Int) - 2) = (((Lib.bitLen e.natAbs - 1 : Nat) : Int) - 1) := by rw [wrap_id (by omega) (by omega)]; omega
  rw [e3, ← fin_pow h h0]
  have hb' := vld_bounds h
  have := pow_steps (x1 := e) h (E := e.natAbs) (by omega) (Lib.bitLen e.natAbs - 1) 1 (by omega) l3.symm (by unfold okp; simp; omega)
  rw [Int.pow_one, Int.pow_one] at this
  exact this
theorem Pow_p {n d e : Int} (hr : -9223372036854775808 ≤ e ∧ e ≤ 9223372036854775807) : Ev (fun k => rational_Pow.f k n d e) (powR n d e) := by
 unfold rational_Pow.f powR
 refine Ev.bind (Valid_p n d) (Ev.ite (fun h => ?_) (fun h => Ev.ret (by rw [if_neg h])))
 rw [if_pos h]
 refine Ev.ite (fun he => Ev.ret ?_) (fun he => ?_)
 ·subst he
  rw [if_neg (by omega), nu_zero, nu_zero]
  decide +kernel
 ·have key : ∀ b : Bool, (b = true ↔ (n = 0 ∧ e < 0)) → Ev (fun k => rational_Pow.j0 k e b n d) (if n = 0 ∧ e < 0 then (0, 0, 10) else mkR (nu n d e) (nu d n e)) := by
   intro b hb
   apply Ev.succ
   simp only [rational_Pow.j0]
   refine Ev.ite (fun hc => Ev.ret (by rw [if_pos (hb.1 hc)])) (fun hc => ?_)
   have h0 : ¬ (n = 0 ∧ e < 0) := fun hh => hc (hb.2 hh)
   rw [if_neg h0]
   refine Ev.ite (fun h1 => Ev.ite (fun h2 => ?_) (fun h2 => ?_)) (fun h1 => ?_)
   ·exact Pow_j1 h he hr (by omega) _ (by rw [decide_eq_true_eq]; omega)
   ·exact Pow_j1 h he hr (by omega) _ (by simp; omega)
   ·exact Pow_j1 h he hr (by omega) _ (by simp; omega)
  refine Ev.ite (fun h1 => ?_) (fun h1 => ?_)
  ·exact key _ (by rw [decide_eq_true_eq]; omega)
  ·exact key _ (by simp; omega)
/-! ### the document's -/
theorem Pow_loop {n d : Int} (h : vld n d = true) (E : Nat) (hE : E ≤ 31) : ∀ (c p : Nat), p + c = E → okp n d p → Ev (fun k => vinculumref02_Pow.l0 k (E : Int) (p : Int) n d (n ^ p) (d ^ p)) (mkR (n ^ E) (d ^ E)) := by
 have hb := vld_bounds h
 intro c
 induction c with
 | zero =>
  intro p hp hok
  obtain rfl : p = E := by omega
  apply Ev.succ
  simp only [vinculumref02_Pow.l0]
  exact Ev.neg (by omega) (Ev.ret (by rw [mkR_pow h, if_pos hok]))
 | succ c ih =>
  intro p hp hok
  apply Ev.succ
  simp only [vinculumref02_Pow.l0]
  refine Ev.pos (by omega) (Ev.bind (Mul_r _ _ _ _) ?_)
  rw [mulR_pow1 h hok, wrap_succ (by omega)]
  by_cases h2 : okp n d (p + 1)
  ·rw [if_pos h2]
   exact Ev.pos rfl (ih (p + 1) (by omega) h2)
  ·rw [if_neg h2]
   exact Ev.neg (by decide) (Ev.ret (by rw [mkR_pow h, if_neg (fun hh => h2 (okp_mono hb.1 hh (by omega)))]))
theorem Pow_pos {n d e : Int} (h : vld n d = true) (hn : ¬ (d = 1 ∧ -1 ≤ n ∧ n ≤ 1)) (he : 0 < e) (he2 : e ≤ 31) : Ev (fun k => vinculumref02_Pow.f k n d e) (mkR (n ^ e.toNat) (d ^ e.toNat)) := by
 have hb := vld_bounds h
 have n0 : n ≠ 0 := by
  rintro rfl
  have := vld_gcd h
  simp at this
  omega
 apply Ev.succ
 simp only [vinculumref02_Pow.f]
 refine Ev.bind (Valid_r n d) (Ev.pos h (Ev.neg (by omega) ?_))
 have e1 : (n == 1 && (d == 1)) = false := by rw [Bool.eq_false_iff]; simp only [Bool.and_eq_true, beq_iff_eq, ne_eq]; omega
 have e2 : (n == -1 && (d == 1)) = false := by rw [Bool.eq_false_iff]; simp only [Bool.and_eq_true, beq_iff_eq, ne_eq]; omega
 rw [e1]
 apply Ev.succ
 simp only [vinculumref02_Pow.j0]
 refine Ev.neg (by decide) (Ev.neg n0 ?_)
 apply Ev.succ
 simp only [vinculumref02_Pow.j1]
 rw [e2]
 refine Ev.neg (by decide) (Ev.neg n0 (Ev.neg (by decide) (Ev.neg (by omega) ?_)))
 rw [decide_eq_false (by omega)]
 apply Ev.succ
 simp only [vinculumref02_Pow.j2]
 refine Ev.neg (by decide) (Ev.neg (by omega) ?_)
 have hl := Pow_loop h e.toNat (by omega) e.toNat 0 (by omega) (by unfold okp; simp)
 have ee : ((e.toNat : Nat) : Int) = e := by omega
 rw [ee, Int.pow_zero, Int.pow_zero] at hl
 exact hl
theorem Pow_r {n d e : Int} (hr : -9223372036854775808 ≤ e ∧ e ≤ 9223372036854775807) : Ev (fun k => vinculumref02_Pow.f k n d e) (powR n d e) := by
 by_cases h : vld n d = true
 ·by_cases hp : 0 < e ∧ e ≤ 31 ∧ ¬ (d = 1 ∧ -1 ≤ n ∧ n ≤ 1)
  ·unfold powR
   rw [if_pos h, if_neg (by omega)]
   unfold nu
   rw [if_pos (by omega), if_pos (by omega)]
   exact Pow_pos h hp.2.2 hp.1 hp.2.1
  ·have hb := vld_bounds h
   apply Ev.succ
   simp only [vinculumref02_Pow.f]
   refine Ev.bind (Valid_r n d) (Ev.pos h ?_)
   unfold powR
   rw [if_pos h]
   by_cases he : e = 0
   ·subst he
    refine Ev.pos (by trivial) ?_
    apply Ev.succ
    simp only [vinculumref02_Pow.j0]
    refine Ev.pos (by trivial) (Ev.ret ?_)
    rw [if_neg (by omega), nu_zero, nu_zero]
    decide +kernel
   ·refine Ev.neg he ?_
    by_cases h1 : n = 1 ∧ d = 1
    ·obtain ⟨rfl, rfl⟩ := h1
     apply Ev.succ
     simp only [vinculumref02_Pow.j0]
     refine Ev.pos (by decide) (Ev.ret ?_)
     rw [if_neg (by omega), unit_pow (by omega) he (by omega), if_neg (by omega)]
    ·have e1 : (n == 1 && (d == 1)) = false := by rw [Bool.eq_false_iff]; simp only [Bool.and_eq_true, beq_iff_eq, ne_eq]; exact h1
     rw [e1]
     apply Ev.succ
     simp only [vinculumref02_Pow.j0]
     refine Ev.neg (by decide) ?_
     have key : ∀ b : Bool, (b = true ↔ (n = 0 ∧ e < 0)) → Ev (fun k => vinculumref02_Pow.j1 k e b n d 1 1) (if n = 0 ∧ e < 0 then (0, 0, 10) else mkR (nu n d e) (nu d n e)) := by
      intro b hbb
      apply Ev.succ
      simp only [vinculumref02_Pow.j1]
      refine Ev.ite (fun hc => Ev.ret (by rw [if_pos (hbb.1 hc)])) (fun hc => ?_)
      have h0 : ¬ (n = 0 ∧ e < 0) := fun hh => hc (hbb.2 hh)
      rw [if_neg h0]
      refine Ev.ite (fun hz => ?_) (fun hz => ?_)
      ·subst hz
       have hd : d = 1 := by have := vld_gcd h; simp at this; omega
       subst hd
       exact Ev.ret (by rw [unit_pow (by omega) he (by omega), if_neg (by omega)])
      ·refine Ev.ite (fun hm => ?_) (fun hm => ?_)
       ·simp only [Bool.and_eq_true, beq_iff_eq] at hm
        obtain ⟨rfl, rfl⟩ := hm
        rw [unit_pow (by omega) he (by omega)]
        refine Ev.ite (fun ht => Ev.ret ?_) (fun ht => Ev.ret ?_)
        ·rw [if_pos ⟨by decide, (tmod2 e).1 ht⟩]
        ·rw [if_neg (fun hh => ht ((tmod2 e).2 hh.2))]
       ·have hm' : ¬ (n = -1 ∧ d = 1) := by simpa using hm
        have hn : ¬ (d = 1 ∧ -1 ≤ n ∧ n ≤ 1) := by omega
        have out : ∀ b : Bool, b = true → (e > 31 ∨ e < -31) → Ev (fun k => vinculumref02_Pow.j2 k e b n d 1 1) (mkR (nu n d e) (nu d n e)) := by
         intro b hb1 hh
         apply Ev.succ
         simp only [vinculumref02_Pow.j2]
         exact Ev.pos hb1 (Ev.ret (by rw [fin_range h hn hh]))
        refine Ev.ite (fun h3 => out true rfl (.inr h3)) (fun h3 => ?_)
        by_cases h4 : e > 31
        ·rw [decide_eq_true h4]; exact out true rfl (.inl h4)
        ·rw [decide_eq_false h4]
         have hneg : e < 0 := by omega
         apply Ev.succ
         simp only [vinculumref02_Pow.j2]
         refine Ev.neg (by decide) (Ev.pos hneg ?_)
         have hin := vld_in h
         refine Ev.bind (Make_r (n := d) (d := n) (by omega) (by omega)) ?_
         have hsw : mkR d n ≠ (0, 0, 2) := fun hx => by
          have := mkR_swap (a := d) (b := n) (by omega) hz hx
          rw [mkR_vld h] at this
          simp at this
         obtain ⟨p, q, hpq⟩ : ∃ p q, mkR d n = (p, q, 0) := (mkR_cases d n hz).resolve_left hsw
         rw [hpq]
         obtain ⟨v, c⟩ := mkR_ok hz hpq
         have vb' := vld_bounds v
         have ew : wrap64 (-e) = -e := wrap_id (by omega) (by omega)
         rw [ew]
         have hn' : ¬ (q = 1 ∧ -1 ≤ p ∧ p ≤ 1) := by
          rintro ⟨rfl, hp1, hp2⟩
          obtain rfl | rfl | rfl : p = 0 ∨ p = 1 ∨ p = -1 := by omega
          ·omega
          ·have := vld_gcd h
           rw [show n = d by omega, Nat.gcd_self] at this
           omega
          ·have := vld_gcd h
           rw [show n = -d by omega, Int.natAbs_neg, Nat.gcd_self] at this
           omega
         refine Ev.bind (Pow_pos v hn' (by omega) (by omega)) (Ev.ret ?_)
         unfold nu
         rw [if_neg (by omega), if_neg (by omega)]
         refine mkR_same ?_ (Int.pow_ne_zero hz) ?_
         ·have hq := ipow_pos vb'.1 (-e).toNat
          exact fun hx => by rw [hx] at hq; omega
         ·rw [← Int.mul_pow, ← Int.mul_pow, c]
     refine Ev.ite (fun hz => ?_) (fun hz => ?_)
     ·exact key _ (by rw [decide_eq_true_eq]; omega)
     ·exact key _ (by simp; omega)
 ·unfold powR
  rw [if_neg h]
  apply Ev.succ
  simp only [vinculumref02_Pow.f]
  exact Ev.bind (Valid_r n d) (Ev.neg h (Ev.ret rfl))
end Go.Proofs.YtoieknocpphjoaaDoor.P
