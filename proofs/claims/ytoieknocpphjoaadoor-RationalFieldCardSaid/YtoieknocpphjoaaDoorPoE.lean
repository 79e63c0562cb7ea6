--m
/- The laws of sums and products of rational numbers. No program in sight. -/
import Derived.Test.YtoieknocpphjoaaDoorPoC
import Derived.Test.YtoieknocpphjoaaDoorP19
import Derived.Test.YtoieknocpphjoaaDoorP5
namespace Go.Proofs.YtoieknocpphjoaaDoor.P
open Go.RowKit Go.Proofs.YtoieknocpphjoaaDoorW.PrintWords Go.Proofs.YtoieknocpphjoaaDoorW.PrintLast Go.Proofs.YtoieknocpphjoaaDoorW.PrintMore
set_option linter.unusedSimpArgs false
set_option linter.unusedVariables false
theorem i16_bounds {a : Int} (h : (Lit.int .i16 a).wf = true) : -32768 ≤ a ∧ a ≤ 32767 := by
 simpa [Lit.wf, IntKind.min, IntKind.max, IntKind.bits, IntKind.signed] using h
/-- Small quotients have representations. -/
theorem mkR_small {a b : Int} (ha : -32768 ≤ a ∧ a ≤ 32767) (hb : -32768 ≤ b ∧ b ≤ 32767) (h0 : b ≠ 0) : ∃ p q, mkR a b = (p, q, 0) ∧ vld p q = true := by
 obtain ⟨p, q, h⟩ : ∃ p q, mkR a b = (p, q, 0) := by
  unfold mkR
  rw [if_neg h0]
  have h1 := Nat.div_le_self a.natAbs (Nat.gcd a.natAbs b.natAbs)
  have h2 := Nat.div_le_self b.natAbs (Nat.gcd a.natAbs b.natAbs)
  rw [if_neg (by omega)]
  exact ⟨_, _, rfl⟩
 exact ⟨p, q, h, (mkR_ok h0 h).1⟩
theorem num_one {a b : Int} (ha : (Lit.int .i16 a).wf = true) (hb : (Lit.int .i16 b).wf = true) : ∃ p q, Ev (fun k => rational_Make.f k (wrap64 a) (if wrap64 b = 0 then 1 else wrap64 b)) (p, q, 0) ∧ vld p q = true := by
 have h1 := i16_bounds ha
 have h2 := i16_bounds hb
 rw [wrap_id (x := a) (by omega) (by omega), wrap_id (x := b) (by omega) (by omega)]
 by_cases h0 : b = 0
 ·rw [if_pos h0]
  obtain ⟨p, q, e, v⟩ := mkR_small (a := a) (b := 1) h1 (by omega) (by omega)
  exact ⟨p, q, by rw [← e]; exact Make_p (by omega) (by omega), v⟩
 ·rw [if_neg h0]
  obtain ⟨p, q, e, v⟩ := mkR_small h1 h2 h0
  exact ⟨p, q, by rw [← e]; exact Make_p (by omega) (by omega), v⟩
theorem numbers_ev {a b c d e f : Int} (ha : (Lit.int .i16 a).wf = true) (hb : (Lit.int .i16 b).wf = true) (hc : (Lit.int .i16 c).wf = true) (hd : (Lit.int .i16 d).wf = true) (he : (Lit.int .i16 e).wf = true) (hf : (Lit.int .i16 f).wf = true) :
  ∃ x1 x2 y1 y2 z1 z2, Ev (fun k => vinculumlaw02_numbers.f k a b c d e f) (x1, x2, y1, y2, z1, z2) ∧ vld x1 x2 = true ∧ vld y1 y2 = true ∧ vld z1 z2 = true := by
 obtain ⟨x1, x2, ex, vx⟩ := num_one ha hb
 obtain ⟨y1, y2, ey, vy⟩ := num_one hc hd
 obtain ⟨z1, z2, ez, vz⟩ := num_one he hf
 refine ⟨x1, x2, y1, y2, z1, z2, ?_, vx, vy, vz⟩
 unfold vinculumlaw02_numbers.f
 exact Ev.bind ex (Ev.bind ey (Ev.bind ez (Ev.ret rfl)))
theorem sub_back {n d m e p q : Int} (h : vld n d = true) (k : vld m e = true) (hs : mkR (n * e + m * d) (d * e) = (p, q, 0)) : addR p q (wrap64 (-m)) e = (n, d, 0) := by
 obtain ⟨h1, h2, h3⟩ := vb h
 obtain ⟨k1, k2, k3⟩ := vb k
 have hde : d * e ≠ 0 := Int.mul_ne_zero h3 k3
 obtain ⟨v, c⟩ := mkR_ok hde hs
 obtain ⟨v1, v2, v3⟩ := vb v
 rw [subR_v v k, ← mkR_vld h]
 refine mkR_same (Int.mul_ne_zero v3 k3) h3 ?_
 clear h k hs v h1 h2 k1 k2 v1 v2 hde
 grind
theorem div_back {n d m e p q : Int} (h : vld n d = true) (k : vld m e = true) (hm : m ≠ 0) (hs : mkR (n * m) (d * e) = (p, q, 0)) : divR p q m e = (n, d, 0) := by
 obtain ⟨h1, h2, h3⟩ := vb h
 obtain ⟨k1, k2, k3⟩ := vb k
 have hde : d * e ≠ 0 := Int.mul_ne_zero h3 k3
 obtain ⟨v, c⟩ := mkR_ok hde hs
 obtain ⟨v1, v2, v3⟩ := vb v
 rw [divR_v v k, ← mkR_vld h]
 refine mkR_same (Int.mul_ne_zero v3 hm) h3 ?_
 clear h k hs v h1 h2 k1 k2 v1 v2 hde
 grind
end Go.Proofs.YtoieknocpphjoaaDoor.P
