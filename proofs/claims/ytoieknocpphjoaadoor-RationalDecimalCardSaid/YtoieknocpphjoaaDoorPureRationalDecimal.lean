--m
/- RationalDecimal: a decimal is its whole part and the digits behind the point over a power of ten. No program in sight. -/
import Derived.Test.YtoieknocpphjoaaDoorPoH
import Derived.Test.YtoieknocpphjoaaDoorSayRationalDecimal
import Derived.Test.YtoieknocpphjoaaDoorP25
import Derived.Test.YtoieknocpphjoaaDoorP26
import Derived.Test.YtoieknocpphjoaaDoorP59
namespace Go.Proofs.YtoieknocpphjoaaDoor.P
open Go.RowKit Go.Proofs.YtoieknocpphjoaaDoorW.PrintWords Go.Proofs.YtoieknocpphjoaaDoorW.PrintLast Go.Proofs.YtoieknocpphjoaaDoorW.PrintMore
set_option linter.unusedSimpArgs false
set_option linter.unusedVariables false
theorem bytesOf_append (a b : ByteArray) : zax (a ++ b) = zax a ++ zax b := by simp [zax, ByteArray.data_append]
theorem dec_len : ∀ n u : Nat, u < 10 ^ (n + 1) → (Lib.decDigits u).length ≤ n + 1 := by
 intro n
 induction n with
 | zero => intro u hu; rw [Lib.decDigits, dif_pos (by simpa using hu)]; simp
 | succ n ih =>
  intro u hu
  rw [Lib.decDigits]
  split
  ·simp
  ·have := ih (u / 10) (by rw [Nat.pow_succ] at hu; omega)
   rw [List.length_append]
   simp only [List.length_cons, List.length_nil]
   omega
theorem dec_dig : ∀ u : Nat, ∃ w, (Lib.decDigits u).map (fun b => (b.toNat : Int)) = ints 48 w ∧ dig w ∧ w ≠ [] ∧ vl w 0 = u := by
 intro u
 induction u using Nat.strongRecOn with
 | _ u ih =>
  rw [Lib.decDigits]
  split
  ·rename_i h
   refine ⟨[u], ?_, by simp [dig]; omega, by simp, by simp [vl]⟩
   simp [ints]
   omega
  ·rename_i h
   obtain ⟨w, h1, h2, h3, h4⟩ := ih (u / 10) (by omega)
   refine ⟨w ++ [u % 10], ?_, dig_app.2 ⟨h2, by simp [dig]; omega⟩, by simp, ?_⟩
   ·rw [List.map_append, h1, ints_app]
    simp [ints]
    omega
   ·rw [vl_app, h4]
    simp only [vl]
    omega
theorem itoa_dig {u : Nat} (hu : u ≤ 65535) : ∃ w, zax (itoaB (u : Int)) = ints 48 w ∧ dig w ∧ w ≠ [] ∧ vl w 0 = u ∧ w.length ≤ 5 := by
 obtain ⟨w, h1, h2, h3, h4⟩ := dec_dig u
 have hl := dec_len 4 u (by omega)
 refine ⟨w, ?_, h2, h3, h4, ?_⟩
 ·rw [itoaB, Lib.itoa_nonneg, ← h1]
  simp [zax]
 ·rw [← ints_len 48 w, ← h1, List.length_map]
  exact hl
theorem u16_bounds {a : Int} (h : (Lit.int .u16 a).wf = true) : 0 ≤ a ∧ a ≤ 65535 := by
 simpa [Lit.wf, IntKind.min, IntKind.max, IntKind.bits, IntKind.signed] using h
theorem u8_bounds {a : Int} (h : (Lit.int .u8 a).wf = true) : 0 ≤ a ∧ a ≤ 255 := by
 simpa [Lit.wf, IntKind.min, IntKind.max, IntKind.bits, IntKind.signed] using h
theorem op_add (n d e1 m e e2 : Int) : Ev (fun r => vinculumlaw02_op.f r 0 n d e1 m e e2) (if e1 = 0 ∧ e2 = 0 then addR n d m e else (0, 0, 2)) := by
 have key : ∀ b : Bool, Ev (fun r => vinculumlaw02_op.j0 r 0 b n d m e) (if b = true then (0, 0, 2) else addR n d m e) := by
  intro b
  apply Ev.succ
  simp only [vinculumlaw02_op.j0]
  refine Ev.ite (fun h => Ev.ret (by rw [if_pos h])) (fun h => ?_)
  rw [if_neg h]
  exact Ev.pos (by trivial) (Ev.bind (Add_p n d m e) (Ev.ret rfl))
 unfold vinculumlaw02_op.f
 refine Ev.ite (fun h => ?_) (fun h => ?_)
 ·have := key (e2 != 0)
  by_cases h2 : e2 = 0
  ·rw [if_pos ⟨h, h2⟩]
   simpa [h2] using this
  ·rw [if_neg (by simp [h2])]
   simpa [h2] using this
 ·have := key true
  rw [if_neg (by simp [h])]
  simpa using this
theorem agree_same (x : Int × Int × Int) : vinculumlaw02_agree.f x.1 x.2.1 x.2.2 x.1 x.2.1 x.2.2 = some true := by
 unfold vinculumlaw02_agree.f
 split <;> (try split) <;> simp
theorem mkR_fits {a b : Int} (ha : a.natAbs ≤ 2147483647) (hb : b.natAbs ≤ 2147483647) (h0 : b ≠ 0) : ∃ p q, mkR a b = (p, q, 0) ∧ vld p q = true ∧ p * b = a * q := by
 have h1 := Nat.div_le_self a.natAbs (Nat.gcd a.natAbs b.natAbs)
 have h2 := Nat.div_le_self b.natAbs (Nat.gcd a.natAbs b.natAbs)
 obtain ⟨p, q, h⟩ : ∃ p q, mkR a b = (p, q, 0) := by
  unfold mkR
  rw [if_neg h0, if_neg (by omega)]
  exact ⟨_, _, rfl⟩
 exact ⟨p, q, h, mkR_ok h0 h⟩
theorem vld_one {n : Int} (h : 0 ≤ n ∧ n ≤ 65535) : vld n 1 = true := by
 unfold vld
 simp only [Bool.and_eq_true, decide_eq_true_eq, beq_iff_eq]
 exact ⟨⟨⟨⟨by omega, by omega⟩, by omega⟩, by omega⟩, by simp⟩
/-- Behind the loops. -/
theorem decimal_end {u v : Nat} (hu : u ≤ 65535) (hv : v ≤ 65535) {x7 : ByteArray} {f : List Nat} (hx : zax x7 = ints 48 f) (hf : dig f) (hn : f ≠ []) (hl : f.length ≤ 8) (hvl : vl f 0 = v) :
  Ev (fun k => vinculumlaw02_RationalDecimal.l1 k (u : Int) (v : Int) x7 ((10 ^ f.length : Nat) : Int) (f.length : Int)) true := by
 have hsz : x7.size = f.length := by rw [← zaJ, hx, ints_len]
 obtain ⟨w, hw1, hw2, hw3, hw4, hw5⟩ := itoa_dig hu
 have hwz : (itoaB (u : Int)).size = w.length := by rw [← zaJ, hw1, ints_len]
 have hwl : 0 < w.length := List.length_pos_iff.2 hw3
 have hfl : 0 < f.length := List.length_pos_iff.2 hn
 have ex0 : wrap64 (u : Int) = (u : Int) := wrap_id (by omega) (by omega)
 have ex1 : wrap64 (v : Int) = (v : Int) := wrap_id (by omega) (by omega)
 have hp : 10 ^ f.length ≤ 10 ^ 8 := Nat.pow_le_pow_right (by omega) hl
 have hp0 : 0 < 10 ^ f.length := Nat.pow_pos (by omega)
 apply Ev.succ
 simp only [vinculumlaw02_RationalDecimal.l1]
 rw [ex0, ex1]
 refine Ev.neg (by omega) (Ev.bind (Text_r (u : Int) 1) ?_)
 have et : txt (u : Int) 1 = itoaB (u : Int) := by unfold txt; rw [if_pos (vld_one (by omega)), if_pos rfl]
 rw [et]
 have ed : (⟨#[46]⟩ : ByteArray).size = 1 := rfl
 refine Ev.pos (by omega) (Ev.pos (by rw [ByteArray.size_append, ed]; omega) ?_)
 have hs : zax ((itoaB (u : Int) ++ (⟨#[46]⟩ : ByteArray)) ++ x7) = ints 48 w ++ 46 :: ints 48 f := by
  rw [bytesOf_append, bytesOf_append, hw1, hx]
  simp [zax]
 have hS : ((itoaB (u : Int) ++ (⟨#[46]⟩ : ByteArray)) ++ x7).size ≤ 60 := by rw [ByteArray.size_append, ByteArray.size_append, ed]; omega
 have hsp := split_frac hS hs hw2 hf
 rw [if_neg (by intro hh; rcases hh with h | h | h; exact hw3 h; exact hn h; omega)] at hsp
 have hpar := Parse_ok (D := w ++ f) (b := f.length) (by simp [hw3]) (dig_app.2 ⟨hw2, hf⟩) (by rw [List.length_append]; omega) (by omega) hsp
 have hval : vl (w ++ f) 0 = u * 10 ^ f.length + v := by rw [vl_app, hw4, vl_acc, hvl]
 rw [hval] at hpar
 refine Ev.bind hpar ?_
 generalize 10 ^ f.length = t at *
 refine Ev.bind (Make_p (by omega) (by omega)) ?_
 obtain ⟨p, q, e1, e2, e3⟩ := mkR_fits (a := (v : Int)) (b := (t : Int)) (by omega) (by omega) (by omega)
 rw [e1]
 refine Ev.bind (op_add _ _ _ _ _ _) ?_
 have hq := (vb e2).2.2
 have esum : addR p q (u : Int) 1 = mkR ((u * t + v : Nat) : Int) (t : Int) := by
  rw [addR_v e2 (vld_one (by omega))]
  refine mkR_same (by omega) (by omega) ?_
  rw [Int.natCast_add, Int.natCast_mul]
  generalize (u : Int) = U
  generalize (v : Int) = V at e3
  generalize (t : Int) = T at e3
  grind
 simp only [and_self, if_true]
 rw [esum]
 refine Ev.bindO (agree_same _) (Ev.pos rfl (Ev.ite (fun h => Ev.ret (by rw [h]; rfl)) (fun h => Ev.ret rfl)))
theorem decimal_tens {u v : Nat} (hu : u ≤ 65535) (hv : v ≤ 65535) {x7 : ByteArray} {f : List Nat} (hx : zax x7 = ints 48 f) (hf : dig f) (hn : f ≠ []) (hl : f.length ≤ 8) (hvl : vl f 0 = v) :
  ∀ c i : Nat, i + c = f.length → Ev (fun k => vinculumlaw02_RationalDecimal.l1 k (u : Int) (v : Int) x7 ((10 ^ i : Nat) : Int) (i : Int)) true := by
 have hsz : x7.size = f.length := by rw [← zaJ, hx, ints_len]
 intro c
 induction c with
 | zero =>
  intro i hi
  obtain rfl : i = f.length := by omega
  exact decimal_end hu hv hx hf hn hl hvl
 | succ c ih =>
  intro i hi
  have hp : 10 ^ i ≤ 10 ^ 8 := Nat.pow_le_pow_right (by omega) (by omega)
  have h := ih (i + 1) (by omega)
  apply Ev.succ
  simp only [vinculumlaw02_RationalDecimal.l1]
  rw [wrap_succ (by omega)]
  have e : wrap64 (((10 ^ i : Nat) : Int) * 10) = ((10 ^ (i + 1) : Nat) : Int) := by
   rw [Nat.pow_succ]
   generalize 10 ^ i = x at *
   rw [wrap_id (by omega) (by omega)]
   omega
  rw [e]
  exact Ev.pos (by omega) h
theorem decimal_zeros {u v : Nat} (hu : u ≤ 65535) (hv : v ≤ 65535) {x2 : Int} (h2 : 0 ≤ x2 ∧ x2 ≤ 255) : ∀ (c i : Nat) (x7 : ByteArray) (f : List Nat), (i + c : Nat) = (x2 % 3).toNat → zax x7 = ints 48 f → dig f → f ≠ [] → f.length ≤ 5 + i → vl f 0 = v →
  Ev (fun k => vinculumlaw02_RationalDecimal.l0 k (u : Int) (v : Int) x2 x7 1 (i : Int)) true := by
 have e2 : wrap64 (Int.tmod x2 3) = x2 % 3 := by rw [Int.tmod_eq_emod_of_nonneg h2.1, wrap_id (by omega) (by omega)]
 intro c
 induction c with
 | zero =>
  intro i x7 f hi hx hf hn hl hvl
  apply Ev.succ
  simp only [vinculumlaw02_RationalDecimal.l0]
  rw [e2]
  refine Ev.neg (by omega) ?_
  exact decimal_tens hu hv hx hf hn (by omega) hvl f.length 0 (by omega)
 | succ c ih =>
  intro i x7 f hi hx hf hn hl hvl
  have hsz : x7.size = f.length := by rw [← zaJ, hx, ints_len]
  apply Ev.succ
  simp only [vinculumlaw02_RationalDecimal.l0]
  rw [e2, wrap_succ (by omega)]
  refine Ev.pos (by omega) (Ev.pos (by omega) ?_)
  refine ih (i + 1) _ (0 :: f) (by omega) ?_ (dig_cons.2 ⟨by omega, hf⟩) (by simp) (by simp; omega) (by simpa [vl] using hvl)
  rw [bytesOf_append, hx]
  simp [zax, ints]
theorem RationalDecimal.pure : RationalDecimal.Pure := by
 intro a0 a1 a2 h0 h1 h2
 have b0 := u16_bounds h0
 have b1 := u16_bounds h1
 have b2 := u8_bounds h2
 obtain ⟨u, rfl⟩ : ∃ u : Nat, a0 = (u : Int) := ⟨a0.toNat, by omega⟩
 obtain ⟨v, rfl⟩ : ∃ v : Nat, a1 = (v : Int) := ⟨a1.toNat, by omega⟩
 refine Ev.rounds (g := fun k => vinculumlaw02_RationalDecimal.f k (u : Int) (v : Int) a2) ?_
 unfold vinculumlaw02_RationalDecimal.f
 refine Ev.bind awake_p (Ev.pos rfl ?_)
 have ex1 : wrap64 (v : Int) = (v : Int) := wrap_id (by omega) (by omega)
 rw [ex1]
 refine Ev.bind (Text_r (v : Int) 1) ?_
 have et : txt (v : Int) 1 = itoaB (v : Int) := by unfold txt; rw [if_pos (vld_one (by omega)), if_pos rfl]
 rw [et]
 obtain ⟨f, hf1, hf2, hf3, hf4, hf5⟩ := itoa_dig (u := v) (by omega)
 exact decimal_zeros (by omega) (by omega) b2 (a2 % 3).toNat 0 _ f (by omega) hf1 hf2 hf3 (by omega) hf4
end Go.Proofs.YtoieknocpphjoaaDoor.P
