--m
/- Representations of quotients: canonical, the same for the same value. No program in sight. -/
import Derived.Test.YtoieknocpphjoaaDoorPoB

namespace Go.Proofs.YtoieknocpphjoaaDoor.P
open Go.RowKit Go.Proofs.YtoieknocpphjoaaDoorW.PrintWords Go.Proofs.YtoieknocpphjoaaDoorW.PrintLast Go.Proofs.YtoieknocpphjoaaDoorW.PrintMore
set_option linter.unusedSimpArgs false
set_option linter.unusedVariables false
/-- Numerator and denominator of a quotient in lowest terms. -/
def pOf (a b : Int) : Int := if (decide (a < 0) != decide (b < 0)) = true then -((a.natAbs / Nat.gcd a.natAbs b.natAbs : Nat) : Int) else ((a.natAbs / Nat.gcd a.natAbs b.natAbs : Nat) : Int)
def qOf (a b : Int) : Nat := b.natAbs / Nat.gcd a.natAbs b.natAbs
theorem low (A B : Nat) (h : B ≠ 0) : ∃ g x y, g = Nat.gcd A B ∧ 0 < g ∧ A = g * x ∧ B = g * y ∧ A / g = x ∧ B / g = y ∧ Nat.gcd x y = 1 ∧ 0 < y := by
 have hg : 0 < Nat.gcd A B := Nat.gcd_pos_of_pos_right _ (by omega)
 obtain ⟨x, hx⟩ := Nat.gcd_dvd_left A B
 obtain ⟨y, hy⟩ := Nat.gcd_dvd_right A B
 generalize hgg : Nat.gcd A B = g at *
 refine ⟨g, x, y, rfl, hg, hx, hy, ?_, ?_, ?_, ?_⟩
 ·rw [hx]; exact Nat.mul_div_cancel_left _ hg
 ·rw [hy]; exact Nat.mul_div_cancel_left _ hg
 ·have h1 : g * Nat.gcd x y = g * 1 := by rw [← Nat.gcd_mul_left, ← hx, ← hy, hgg, Nat.mul_one]
  exact Nat.eq_of_mul_eq_mul_left hg h1
 ·rcases Nat.eq_zero_or_pos y with h0 | h0
  ·subst h0; simp at hy; omega
  ·exact h0
theorem cross (a b : Int) (hb : b ≠ 0) : pOf a b * b = a * (qOf a b : Int) ∧ 0 < qOf a b ∧ Nat.gcd (pOf a b).natAbs (qOf a b) = 1 := by
 obtain ⟨g, x, y, e0, hg, hx, hy, e1, e2, h1, h2⟩ := low a.natAbs b.natAbs (by omega)
 unfold pOf qOf
 rw [← e0, e1, e2]
 refine ⟨?_, h2, ?_⟩
 ·have ha : a = (g : Int) * x ∨ a = -((g : Int) * x) := by
   have : (a.natAbs : Int) = (g : Int) * x := by rw [hx]; simp
   omega
  have hbb : b = (g : Int) * y ∨ b = -((g : Int) * y) := by
   have : (b.natAbs : Int) = (g : Int) * y := by rw [hy]; simp
   omega
  have p1 : (0 : Int) ≤ (g : Int) * x := by have := Int.natCast_nonneg (g * x); simpa using this
  have p2 : (0 : Int) < (g : Int) * y := by
   have h_ := Nat.mul_pos hg h2
   have h3_ : (0 : Int) < ((g * y : Nat) : Int) := by omega
   simpa using h3_
  by_cases s1 : a < 0
  ·have ha' : a = -((g : Int) * x) := by omega
   by_cases s2 : b < 0
   ·have hb' : b = -((g : Int) * y) := by omega
    rw [decide_eq_true s1, decide_eq_true s2, if_neg (by decide), ha', hb']
    grind
   ·have hb' : b = (g : Int) * y := by omega
    rw [decide_eq_true s1, decide_eq_false s2, if_pos (by decide), ha', hb']
    grind
  ·have ha' : a = (g : Int) * x := by omega
   by_cases s2 : b < 0
   ·have hb' : b = -((g : Int) * y) := by omega
    rw [decide_eq_false s1, decide_eq_true s2, if_pos (by decide), ha', hb']
    grind
   ·have hb' : b = (g : Int) * y := by omega
    rw [decide_eq_false s1, decide_eq_false s2, if_neg (by decide), ha', hb']
    grind
 ·split <;> simp [h1]
/-- Two representations in lowest terms of one value are equal. -/
theorem low_unique {p p' : Int} {q q' : Nat} (h1 : Nat.gcd p.natAbs q = 1) (h2 : Nat.gcd p'.natAbs q' = 1) (hq : 0 < q) (hq' : 0 < q') (h : p * (q' : Int) = p' * (q : Int)) : p = p' ∧ q = q' := by
 have hn : p.natAbs * q' = p'.natAbs * q := by
  have := congrArg Int.natAbs h
  simpa [Int.natAbs_mul] using this
 have d1 : q ∣ q' := by
  have c : Nat.Coprime q p.natAbs := by unfold Nat.Coprime; rw [Nat.gcd_comm]; exact h1
  exact c.dvd_of_dvd_mul_left (by rw [hn]; exact Nat.dvd_mul_left _ _)
 have d2 : q' ∣ q := by
  have c : Nat.Coprime q' p'.natAbs := by unfold Nat.Coprime; rw [Nat.gcd_comm]; exact h2
  exact c.dvd_of_dvd_mul_left (by rw [← hn]; exact Nat.dvd_mul_left _ _)
 have e := Nat.dvd_antisymm d1 d2
 subst e
 exact ⟨Int.eq_of_mul_eq_mul_right (by omega) h, rfl⟩
theorem mkR_eq (a b : Int) (hb : b ≠ 0) : mkR a b = if (pOf a b).natAbs > 2147483647 ∨ qOf a b > 2147483647 then (0, 0, 2) else (pOf a b, (qOf a b : Int), 0) := by
 unfold mkR
 rw [if_neg hb]
 have e : (pOf a b).natAbs = a.natAbs / Nat.gcd a.natAbs b.natAbs := by
  unfold pOf
  generalize a.natAbs / Nat.gcd a.natAbs b.natAbs = x
  split <;> simp
 rw [e]
 rfl
/-- Equal values have equal representations, or none. -/
theorem mkR_same {a b a' b' : Int} (hb : b ≠ 0) (hb' : b' ≠ 0) (h : a * b' = a' * b) : mkR a b = mkR a' b' := by
 obtain ⟨c1, c2, c3⟩ := cross a b hb
 obtain ⟨c4, c5, c6⟩ := cross a' b' hb'
 have hh : pOf a b * (qOf a' b' : Int) = pOf a' b' * (qOf a b : Int) := by
  have hbb : b * b' ≠ 0 := Int.mul_ne_zero hb hb'
  refine Int.eq_of_mul_eq_mul_right hbb ?_
  generalize pOf a b = p at *
  generalize pOf a' b' = p' at *
  generalize (qOf a b : Int) = q at *
  generalize (qOf a' b' : Int) = q' at *
  clear hb hb' hbb c2 c3 c5 c6
  grind
 obtain ⟨e1, e2⟩ := low_unique c3 c6 c2 c5 hh
 rw [mkR_eq a b hb, mkR_eq a' b' hb', e1, e2]
/-- What has a representation is valid, and has the value. -/
theorem mkR_ok {a b p q : Int} (hb : b ≠ 0) (h : mkR a b = (p, q, 0)) : vld p q = true ∧ p * b = a * q := by
 obtain ⟨c1, c2, c3⟩ := cross a b hb
 rw [mkR_eq a b hb] at h
 split at h
 ·simp at h
 ·rename_i hc
  simp only [Prod.mk.injEq] at h
  obtain ⟨rfl, rfl, _⟩ := h
  refine ⟨?_, c1⟩
  unfold vld
  simp only [Bool.and_eq_true, decide_eq_true_eq, beq_iff_eq]
  exact ⟨⟨⟨⟨by omega, by omega⟩, by omega⟩, by omega⟩, by simpa using c3⟩
theorem mkR_cases (a b : Int) (hb : b ≠ 0) : mkR a b = (0, 0, 2) ∨ ∃ p q, mkR a b = (p, q, 0) := by
 rw [mkR_eq a b hb]
 split
 ·exact .inl rfl
 ·exact .inr ⟨_, _, rfl⟩
theorem vld_gcd {n d : Int} (h : vld n d = true) : Nat.gcd n.natAbs d.natAbs = 1 := by
 simp only [vld, Bool.and_eq_true, decide_eq_true_eq, beq_iff_eq] at h
 exact h.2
theorem mkR_vld {n d : Int} (h : vld n d = true) : mkR n d = (n, d, 0) := by
 have hb := vld_bounds h
 have hg := vld_gcd h
 unfold mkR
 rw [hg, Nat.div_one, Nat.div_one, if_neg (by omega), if_neg (by omega)]
 by_cases hn : n < 0
 ·rw [decide_eq_true hn, decide_eq_false (by omega), if_pos (by decide)]
  simp only [Prod.mk.injEq, and_true]
  omega
 ·rw [decide_eq_false hn, decide_eq_false (by omega), if_neg (by decide)]
  simp only [Prod.mk.injEq, and_true]
  omega
/-! ### products of what is bounded -/
theorem mul_b {a b : Int} (ha : -2147483647 ≤ a ∧ a ≤ 2147483647) (hb : -2147483647 ≤ b ∧ b ≤ 2147483647) : -4611686014132420609 ≤ a * b ∧ a * b ≤ 4611686014132420609 := by
 have h := Nat.mul_le_mul (show a.natAbs ≤ 2147483647 by omega) (show b.natAbs ≤ 2147483647 by omega)
 rw [← Int.natAbs_mul] at h
 generalize a * b = c at *
 omega
theorem mul_w {a b : Int} (ha : -2147483647 ≤ a ∧ a ≤ 2147483647) (hb : -2147483647 ≤ b ∧ b ≤ 2147483647) : wrap64 (a * b) = a * b := by
 have := mul_b ha hb
 exact wrap_id (by omega) (by omega)
theorem vb {n d : Int} (h : vld n d = true) : (-2147483647 ≤ n ∧ n ≤ 2147483647) ∧ (-2147483647 ≤ d ∧ d ≤ 2147483647) ∧ d ≠ 0 := by
 have := vld_bounds h
 omega
theorem addR_v {n d m e : Int} (h : vld n d = true) (k : vld m e = true) : addR n d m e = mkR (n * e + m * d) (d * e) := by
 obtain ⟨h1, h2, h3⟩ := vb h
 obtain ⟨k1, k2, k3⟩ := vb k
 have b1 := mul_b h1 k2
 have b2 := mul_b k1 h2
 unfold addR
 rw [if_pos h, if_pos k, mul_w h1 k2, mul_w k1 h2, mul_w h2 k2, wrap_id (by omega) (by omega)]
theorem mulR_v {n d m e : Int} (h : vld n d = true) (k : vld m e = true) : mulR n d m e = mkR (n * m) (d * e) := by
 obtain ⟨h1, h2, h3⟩ := vb h
 obtain ⟨k1, k2, k3⟩ := vb k
 unfold mulR
 rw [if_pos h, if_pos k, mul_w h1 k1, mul_w h2 k2]
theorem divR_v {n d m e : Int} (h : vld n d = true) (k : vld m e = true) : divR n d m e = mkR (n * e) (d * m) := by
 obtain ⟨h1, h2, h3⟩ := vb h
 obtain ⟨k1, k2, k3⟩ := vb k
 unfold divR
 rw [if_pos h, if_pos k, mul_w h1 k2, mul_w h2 k1]
theorem subR_v {n d m e : Int} (h : vld n d = true) (k : vld m e = true) : addR n d (wrap64 (-m)) e = mkR (n * e - m * d) (d * e) := by
 have hm := vb k
 have e1 : wrap64 (-m) = -m := wrap_id (by omega) (by omega)
 have k' : vld (-m) e = true := by rw [← e1, vld_neg (by omega)]; exact k
 rw [e1, addR_v h k', Int.neg_mul, Int.sub_eq_add_neg]
end Go.Proofs.YtoieknocpphjoaaDoor.P
