--m
/- Decimals: digits, their values, what takes factors out of them; the program's parser. No program in sight. -/
import Derived.Test.YtoieknocpphjoaaDoorPoC
import Derived.Test.YtoieknocpphjoaaDoorP46
import Derived.Test.YtoieknocpphjoaaDoorP47
import Derived.Test.YtoieknocpphjoaaDoorP48
import Derived.Test.YtoieknocpphjoaaDoorP49
import Derived.Test.YtoieknocpphjoaaDoorP50
import Derived.Test.YtoieknocpphjoaaDoorP51
namespace Go.Proofs.YtoieknocpphjoaaDoor.P
open Go.RowKit Go.Proofs.YtoieknocpphjoaaDoorW.PrintWords Go.Proofs.YtoieknocpphjoaaDoorW.PrintLast Go.Proofs.YtoieknocpphjoaaDoorW.PrintMore
set_option linter.unusedSimpArgs false
set_option linter.unusedVariables false
/-- The value of digits, behind a. -/
def vl : List Nat → Nat → Nat
 | [], a => a
 | d :: l, a => vl l (10 * a + d)
def dig (l : List Nat) : Prop := ∀ d ∈ l, d ≤ 9
def ints (c : Nat) (l : List Nat) : List Int := l.map fun d => ((c + d : Nat) : Int)
theorem dig_cons {d : Nat} {l : List Nat} : dig (d :: l) ↔ d ≤ 9 ∧ dig l := by simp [dig]
theorem dig_app {l m : List Nat} : dig (l ++ m) ↔ dig l ∧ dig m := by
 unfold dig
 simp only [List.mem_append]
 exact ⟨fun h => ⟨fun d hd => h d (.inl hd), fun d hd => h d (.inr hd)⟩, fun h d hd => hd.elim (h.1 d) (h.2 d)⟩
theorem vl_app (l m : List Nat) (a : Nat) : vl (l ++ m) a = vl m (vl l a) := by
 induction l generalizing a with
 | nil => rfl
 | cons d l ih => simp only [List.cons_append, vl]; exact ih _
theorem vl_acc (l : List Nat) (a : Nat) : vl l a = a * 10 ^ l.length + vl l 0 := by
 induction l generalizing a with
 | nil => simp [vl]
 | cons d l ih =>
  simp only [vl, List.length_cons]
  rw [ih (10 * a + d), ih (10 * 0 + d), Nat.pow_succ]
  grind
theorem ints_len (c : Nat) (l : List Nat) : (ints c l).length = l.length := by simp [ints]
theorem ints_app (c : Nat) (l m : List Nat) : ints c (l ++ m) = ints c l ++ ints c m := by simp [ints]
theorem rd_app (A : List Int) (x : Int) (L : List Int) : rd (A ++ x :: L) (A.length : Int) = x := by
 unfold rd
 rw [Int.toNat_natCast, List.getD_eq_getElem?_getD, List.getElem?_append_right (Nat.le_refl _)]
 simp
theorem rd_mid (c : Nat) (A : List Nat) (d : Nat) (L : List Nat) : rd (ints c (A ++ d :: L)) (A.length : Int) = ((c + d : Nat) : Int) := by
 have := rd_app (ints c A) ((c + d : Nat) : Int) (ints c L)
 rw [ints_len] at this
 simpa [ints] using this
theorem split_last {l : List Nat} (h : l ≠ []) : ∃ A d, l = A ++ [d] := ⟨_, _, (List.dropLast_concat_getLast h).symm⟩
theorem last_mod (A : List Nat) (d p : Nat) (hp : p = 2 ∨ p = 5) : vl (A ++ [d]) 0 % p = d % p := by
 rw [vl_app]
 simp only [vl]
 generalize vl A 0 = v
 rcases hp with rfl | rfl <;> omega
/-! ### division, digit by digit -/
def divd (p : Nat) : List Nat → Nat → List Nat
 | [], _ => []
 | d :: l, r => ((10 * r + d) / p) :: divd p l ((10 * r + d) % p)
theorem divd_len (p : Nat) (l : List Nat) (r : Nat) : (divd p l r).length = l.length := by
 induction l generalizing r with
 | nil => rfl
 | cons d l ih => simp [divd, ih]
theorem q_le {p r d : Nat} (hr : r < p) (hd : d ≤ 9) : (10 * r + d) / p ≤ 9 := by
 have : (10 * r + d) / p < 10 := Nat.div_lt_of_lt_mul (by omega)
 omega
theorem divd_dig {p : Nat} (hp : 0 < p) (l : List Nat) (r : Nat) (hl : dig l) (hr : r < p) : dig (divd p l r) := by
 induction l generalizing r with
 | nil => simp [divd, dig]
 | cons d l ih =>
  rw [dig_cons] at hl
  simp only [divd]
  rw [dig_cons]
  exact ⟨q_le hr hl.1, ih _ hl.2 (Nat.mod_lt _ hp)⟩
theorem divd_vl {p : Nat} (hp : 0 < p) (l : List Nat) (r q : Nat) (hr : r < p) : vl (divd p l r) q = vl l (p * q + r) / p := by
 induction l generalizing r q with
 | nil => simp only [divd, vl]; rw [Nat.mul_add_div hp, Nat.div_eq_of_lt hr]; rfl
 | cons d l ih =>
  simp only [divd, vl]
  rw [ih _ _ (Nat.mod_lt _ hp)]
  have h := Nat.div_add_mod (10 * r + d) p
  have e : p * (10 * q + (10 * r + d) / p) + (10 * r + d) % p = 10 * (p * q + r) + d := by
   rw [Nat.mul_add, Nat.add_assoc, h]
   grind
  rw [e]
/-- Factors p taken out, at most t times. -/
def red (p : Nat) : Nat → List Nat → Nat × List Nat
 | 0, l => (0, l)
 | t + 1, l => if vl l 0 % p = 0 then red p t (divd p l 0) else (t + 1, l)
theorem red_spec {p : Nat} (hp : 0 < p) : ∀ (t : Nat) (l : List Nat), dig l → dig (red p t l).2 ∧ (red p t l).2.length = l.length ∧ (red p t l).1 ≤ t ∧ vl l 0 = vl (red p t l).2 0 * p ^ (t - (red p t l).1) ∧ (0 < (red p t l).1 → vl (red p t l).2 0 % p ≠ 0) := by
 intro t
 induction t with
 | zero => intro l hl; simp only [red]; refine ⟨hl, trivial, Nat.le_refl _, by simp, by omega⟩
 | succ t ih =>
  intro l hl
  simp only [red]
  split
  ·rename_i h
   obtain ⟨h1, h2, h3, h4, h5⟩ := ih (divd p l 0) (divd_dig hp l 0 hl hp)
   refine ⟨h1, by rw [h2, divd_len], by omega, ?_, h5⟩
   have hv := divd_vl hp l 0 0 hp
   rw [Nat.mul_zero, Nat.add_zero] at hv
   have hm := Nat.div_add_mod (vl l 0) p
   rw [h, Nat.add_zero, ← hv, h4] at hm
   rw [← hm, show t + 1 - (red p t (divd p l 0)).1 = (t - (red p t (divd p l 0)).1) + 1 by omega, Nat.pow_succ]
   generalize p ^ (t - (red p t (divd p l 0)).1) = x
   generalize vl (red p t (divd p l 0)).2 0 = y
   grind
  ·rename_i h
   exact ⟨hl, rfl, Nat.le_refl _, by simp, fun _ => h⟩
theorem cop {n p : Nat} (hp : p = 2 ∨ p = 5) (h : n % p ≠ 0) : Nat.gcd n p = 1 := by
 rw [Nat.gcd_comm, Nat.gcd_rec]
 rcases hp with rfl | rfl
 ·rw [show n % 2 = 1 by omega]; rfl
 ·rcases (by omega : n % 5 = 1 ∨ n % 5 = 2 ∨ n % 5 = 3 ∨ n % 5 = 4) with h | h | h | h <;> rw [h] <;> rfl
/-- What is left is in lowest terms. -/
theorem low10 {N N1 N2 b t2 t5 : Nat} (h1 : N = N1 * 2 ^ (b - t2)) (h2 : N1 = N2 * 5 ^ (b - t5)) (l2 : t2 ≤ b) (l5 : t5 ≤ b) (o2 : 0 < t2 → N1 % 2 ≠ 0) (o5 : 0 < t5 → N2 % 5 ≠ 0) :
  Nat.gcd N2 (2 ^ t2 * 5 ^ t5) = 1 ∧ N * (2 ^ t2 * 5 ^ t5) = N2 * 10 ^ b := by
 refine ⟨?_, ?_⟩
 ·have c2 : Nat.Coprime N2 (2 ^ t2) := by
   rcases Nat.eq_zero_or_pos t2 with h | h
   ·rw [h]; simp
   ·refine Nat.Coprime.pow_right _ (cop (.inl rfl) fun hz => o2 h ?_)
    rw [h2, Nat.mul_mod, hz, Nat.zero_mul, Nat.zero_mod]
  have c5 : Nat.Coprime N2 (5 ^ t5) := by
   rcases Nat.eq_zero_or_pos t5 with h | h
   ·rw [h]; simp
   ·exact Nat.Coprime.pow_right _ (cop (.inr rfl) (o5 h))
  exact Nat.Coprime.mul_right c2 c5
 ·have e2 : 2 ^ (b - t2) * 2 ^ t2 = 2 ^ b := by rw [← Nat.pow_add, Nat.sub_add_cancel l2]
  have e5 : 5 ^ (b - t5) * 5 ^ t5 = 5 ^ b := by rw [← Nat.pow_add, Nat.sub_add_cancel l5]
  have e : 10 ^ b = 2 ^ b * 5 ^ b := by rw [← Nat.mul_pow]
  rw [e, ← e2, ← e5, h1, h2]
  generalize 2 ^ (b - t2) = x
  generalize 2 ^ t2 = y
  generalize 5 ^ (b - t5) = u
  generalize 5 ^ t5 = v
  ac_rfl
theorem mkR_nat {a d : Nat} (hd : 0 < d) (hg : Nat.gcd a d = 1) : mkR (a : Int) (d : Int) = if a > 2147483647 ∨ d > 2147483647 then (0, 0, 2) else ((a : Int), (d : Int), 0) := by
 unfold mkR
 rw [if_neg (by omega), Int.natAbs_natCast, Int.natAbs_natCast, hg, Nat.div_one, Nat.div_one]
 split
 ·rfl
 ·rw [decide_eq_false (by omega : ¬ ((a : Int) < 0)), decide_eq_false (by omega : ¬ ((d : Int) < 0)), if_neg (by decide)]
/-- The value of a decimal with b digits behind the point: out of what is left of it. -/
theorem dec_val {l l1 l2 : List Nat} {b t2 t5 : Nat} (hl : dig l) (e1 : red 2 b l = (t2, l1)) (e2 : red 5 b l1 = (t5, l2)) :
  dig l2 ∧ l2.length = l.length ∧ t2 ≤ b ∧ t5 ≤ b ∧ Nat.gcd (vl l2 0) (2 ^ t2 * 5 ^ t5) = 1 ∧ mkR ((vl l 0 : Nat) : Int) ((10 ^ b : Nat) : Int) = mkR ((vl l2 0 : Nat) : Int) ((2 ^ t2 * 5 ^ t5 : Nat) : Int) := by
 obtain ⟨a1, a2, a3, a4, a5⟩ := red_spec (p := 2) (by omega) b l hl
 rw [e1] at a1 a2 a3 a4 a5
 obtain ⟨b1, b2, b3, b4, b5⟩ := red_spec (p := 5) (by omega) b l1 a1
 rw [e2] at b1 b2 b3 b4 b5
 obtain ⟨g, c⟩ := low10 a4 b4 a3 b3 a5 b5
 have p1 : 0 < 2 ^ t2 * 5 ^ t5 := Nat.mul_pos (Nat.pow_pos (by omega)) (Nat.pow_pos (by omega))
 have p2 : 0 < 10 ^ b := Nat.pow_pos (by omega)
 refine ⟨b1, b2.trans a2, a3, b3, g, mkR_same (by omega) (by omega) ?_⟩
 have := congrArg (fun n : Nat => (n : Int)) c
 simpa using this
/-! ### the program's digits -/
theorem divide_go {p : Nat} (hp : p = 2 ∨ p = 5) {x1 : Int} (hx : x1 = (p : Int)) : ∀ (L A : List Nat) (r : Nat), dig L → r < p → (A ++ L).length ≤ 1000 →
  Ev (fun k => rational_divide.l0 k (ints 0 (A ++ L)) x1 (r : Int) (((A ++ L).length : Nat) : Int) (A.length : Int)) (ints 0 (A ++ divd p L r)) := by
 subst hx
 intro L
 induction L with
 | nil =>
  intro A r _ _ _
  apply Ev.succ
  simp only [rational_divide.l0]
  exact Ev.neg (by simp) (Ev.ret (by simp [divd]))
 | cons d L ih =>
  intro A r hd hr hl
  rw [dig_cons] at hd
  have hl' : A.length + (L.length + 1) ≤ 1000 := by simpa using hl
  have hq := q_le hr hd.1
  apply Ev.succ
  simp only [rational_divide.l0]
  rw [rd_mid, ints_len]
  have e1 : (((0 + d : Nat) : Int) + 10 * (r : Int)) % 256 = ((10 * r + d : Nat) : Int) := by rcases hp with rfl | rfl <;> omega
  rw [e1, show Int.tdiv ((10 * r + d : Nat) : Int) (p : Int) = (((10 * r + d) / p : Nat) : Int) from rfl, show Int.tmod ((10 * r + d : Nat) : Int) (p : Int) = (((10 * r + d) % p : Nat) : Int) from rfl]
  rw [Int.toNat_natCast, wrap_succ (by omega)]
  refine Ev.pos (by simp; omega) (Ev.pos (by omega) (Ev.pos (by simp; omega) (Ev.neg (by omega) ?_)))
  have e2 : (((10 * r + d) / p : Nat) : Int) % 256 = (((10 * r + d) / p : Nat) : Int) := by
   generalize (10 * r + d) / p = q at hq
   omega
  rw [e2]
  have e3 : (ints 0 (A ++ d :: L)).set A.length (((10 * r + d) / p : Nat) : Int) = ints 0 ((A ++ [(10 * r + d) / p]) ++ L) := by
   rw [ints_app, ints_app, ints_app]
   have hlen : A.length = (ints 0 A).length := (ints_len 0 A).symm
   rw [List.set_append_right _ _ (by rw [ints_len]; exact Nat.le_refl _), ints_len, Nat.sub_self]
   simp [ints]
  have h := ih (A ++ [(10 * r + d) / p]) ((10 * r + d) % p) hd.2 (Nat.mod_lt _ (by omega)) (by simp; omega)
  rw [e3]
  have e4 : (A ++ [(10 * r + d) / p]).length = A.length + 1 := by simp
  have e5 : ((A ++ [(10 * r + d) / p]) ++ L).length = (A ++ d :: L).length := by simp
  have e6 : (A ++ [(10 * r + d) / p]) ++ divd p L ((10 * r + d) % p) = A ++ divd p (d :: L) r := by simp [divd]
  rw [e4, e5, e6] at h
  exact h
theorem divide_p {p : Nat} (hp : p = 2 ∨ p = 5) {x1 : Int} (hx : x1 = (p : Int)) (l : List Nat) (hd : dig l) (hl : l.length ≤ 1000) : Ev (fun k => rational_divide.f k (ints 0 l) x1) (ints 0 (divd p l 0)) := by
 unfold rational_divide.f
 rw [ints_len]
 exact divide_go hp hx l [] 0 hd (by omega) hl
theorem reduce_p {p : Nat} (hp : p = 2 ∨ p = 5) {x1 : Int} (hx : x1 = (p : Int)) : ∀ (t : Nat) (l : List Nat), l ≠ [] → dig l → l.length ≤ 1000 → t ≤ 1000 →
  Ev (fun k => rational_reduce.l0 k (ints 0 l) x1 (t : Int)) (((red p t l).1 : Nat), ints 0 (red p t l).2) := by
 intro t
 induction t with
 | zero =>
  intro l _ _ _ _
  apply Ev.succ
  simp only [rational_reduce.l0]
  exact Ev.neg (by decide) (Ev.ret rfl)
 | succ t ih =>
  intro l hn hd hl ht
  obtain ⟨A, d, rfl⟩ := split_last hn
  have hlen : (A ++ [d]).length = A.length + 1 := by simp
  have ew : wrap64 (((ints 0 (A ++ [d])).length : Int) - 1) = (A.length : Int) := by rw [ints_len, wrap_id (by omega) (by omega)]; omega
  apply Ev.succ
  simp only [rational_reduce.l0]
  rw [ew, rd_mid, ints_len]
  have ew2 : wrap64 (((t + 1 : Nat) : Int) - 1) = (t : Int) := by rw [wrap_id (by omega) (by omega)]; omega
  rw [ew2]
  refine Ev.pos (by omega) (Ev.pos (by omega) (Ev.pos (by omega) (Ev.neg (by omega) ?_)))
  have em : Int.tmod ((0 + d : Nat) : Int) x1 = ((d % p : Nat) : Int) := by rw [hx, Nat.zero_add]; rfl
  rw [em]
  have hm := last_mod A d p hp
  simp only [red]
  by_cases hz : d % p = 0
  ·rw [hz, if_pos (by rw [hm, hz])]
   refine Ev.pos rfl (Ev.bind (divide_p hp hx _ hd hl) ?_)
   refine ih _ ?_ (divd_dig (by omega) _ _ hd (by omega)) (by rw [divd_len]; exact hl) (by omega)
   intro h0
   have := divd_len p (A ++ [d]) 0
   rw [h0, hlen] at this
   simp at this
  ·rw [if_neg (by rw [hm]; exact hz)]
   exact Ev.neg (by omega) (Ev.ret rfl)
def M1 : Nat := 2147483648
theorem mn_nat (a b : Nat) : mn (a : Int) (b : Int) = ((min a b : Nat) : Int) := by unfold mn; split <;> omega
theorem number_go : ∀ (L A : List Nat) (a : Nat), dig L → (A ++ L).length ≤ 1000 → Ev (fun k => rational_number.l0 k ((min a M1 : Nat) : Int) (ints 0 (A ++ L)) (((A ++ L).length : Nat) : Int) (A.length : Int)) ((min (vl L a) M1 : Nat) : Int) := by
 intro L
 induction L with
 | nil =>
  intro A a _ _
  apply Ev.succ
  simp only [rational_number.l0]
  exact Ev.neg (by simp) (Ev.ret (by simp [vl]))
 | cons d L ih =>
  intro A a hd hl
  rw [dig_cons] at hd
  have hl' : A.length + (L.length + 1) ≤ 1000 := by simpa using hl
  apply Ev.succ
  simp only [rational_number.l0]
  rw [rd_mid, ints_len]
  have e1 : wrap64 (wrap64 (10 * ((min a M1 : Nat) : Int)) + wrap64 ((0 + d : Nat) : Int)) = ((10 * min a M1 + d : Nat) : Int) := by
   unfold M1
   rw [wrap_id (x := 10 * _) (by omega) (by omega), wrap_id (x := ((0 + d : Nat) : Int)) (by omega) (by omega), wrap_id (by omega) (by omega)]
   omega
  have e2 : mn ((10 * min a M1 + d : Nat) : Int) 2147483648 = ((min (10 * a + d) M1 : Nat) : Int) := by
   rw [show (2147483648 : Int) = ((M1 : Nat) : Int) from rfl, mn_nat]
   unfold M1
   omega
  rw [e1, e2, wrap_succ (by omega)]
  refine Ev.pos (by simp; omega) (Ev.pos (by omega) (Ev.pos (by simp; omega) ?_))
  have h := ih (A ++ [d]) (10 * a + d) hd.2 (by simp; omega)
  have e3 : (A ++ [d]) ++ L = A ++ d :: L := by simp
  have e4 : (A ++ [d]).length = A.length + 1 := by simp
  rw [e3, e4] at h
  exact h
theorem number_p (l : List Nat) (hd : dig l) (hl : l.length ≤ 1000) : Ev (fun k => rational_number.f k (ints 0 l)) ((min (vl l 0) M1 : Nat) : Int) := by
 unfold rational_number.f
 rw [ints_len]
 exact number_go l [] 0 hd hl
theorem power_go {p : Nat} (hp : p = 2 ∨ p = 5) {x0 : Int} (hx : x0 = (p : Int)) (t : Nat) (ht : t ≤ 1000) : ∀ c i : Nat, i + c = t → Ev (fun k => rational_power.l0 k x0 ((min (p ^ i) M1 : Nat) : Int) (t : Int) (i : Int)) ((min (p ^ t) M1 : Nat) : Int) := by
 intro c
 induction c with
 | zero =>
  intro i hi
  obtain rfl : i = t := by omega
  apply Ev.succ
  simp only [rational_power.l0]
  exact Ev.neg (by omega) (Ev.ret rfl)
 | succ c ih =>
  intro i hi
  apply Ev.succ
  simp only [rational_power.l0]
  have e1 : wrap64 (((min (p ^ i) M1 : Nat) : Int) * x0) = ((min (p ^ i) M1 * p : Nat) : Int) := by
   rw [hx]
   unfold M1
   generalize p ^ i = x
   rcases hp with rfl | rfl
   ·rw [wrap_id (by omega) (by omega)]; omega
   ·rw [wrap_id (by omega) (by omega)]; omega
  have e2 : mn ((min (p ^ i) M1 * p : Nat) : Int) 2147483648 = ((min (p ^ (i + 1)) M1 : Nat) : Int) := by
   rw [show (2147483648 : Int) = ((M1 : Nat) : Int) from rfl, mn_nat, Nat.pow_succ]
   unfold M1
   generalize p ^ i = x
   rcases hp with rfl | rfl <;> omega
  rw [e1, e2, wrap_succ (by omega)]
  exact Ev.pos (by omega) (ih (i + 1) (by omega))
theorem power_p {p : Nat} (hp : p = 2 ∨ p = 5) {x0 : Int} (hx : x0 = (p : Int)) (t : Nat) (ht : t ≤ 1000) : Ev (fun k => rational_power.f k x0 (t : Int)) ((min (p ^ t) M1 : Nat) : Int) := by
 unfold rational_power.f
 exact power_go hp hx t ht t 0 (by omega)
theorem min_mul (a b : Nat) (ha : 0 < a) (hb : 0 < b) : min (min a M1 * min b M1) M1 = min (a * b) M1 := by
 unfold M1
 by_cases h1 : a ≤ 2147483648
 ·by_cases h2 : b ≤ 2147483648
  ·rw [Nat.min_eq_left h1, Nat.min_eq_left h2]
  ·have h3 : b ≤ a * b := Nat.le_mul_of_pos_left _ ha
   have h4 : 2147483648 ≤ a * 2147483648 := Nat.le_mul_of_pos_left _ ha
   rw [Nat.min_eq_left h1, Nat.min_eq_right (by omega : 2147483648 ≤ b), Nat.min_eq_right h4, Nat.min_eq_right (by omega)]
 ·have h3 : a ≤ a * b := Nat.le_mul_of_pos_right _ hb
  rw [Nat.min_eq_right (by omega : 2147483648 ≤ a), Nat.min_eq_right (by omega : 2147483648 ≤ a * b)]
  have h4 : 2147483648 * 1 ≤ 2147483648 * min b 2147483648 := Nat.mul_le_mul_left _ (by omega)
  omega
/-! ### the program's scanner -/
theorem bt_app {s : ByteArray} {A : List Int} {x : Int} {L : List Int} (h : zax s = A ++ x :: L) : bt s (A.length : Int) = x := by
 rw [← rd_bytesOf, h, rd_app]
def isD (c : Int) : Prop := 48 ≤ c ∧ c ≤ 57
theorem span_dig : ∀ l : List Int, ∃ w r, l = ints 48 w ++ r ∧ dig w ∧ (r = [] ∨ ∃ c r', r = c :: r' ∧ ¬ isD c) := by
 intro l
 induction l with
 | nil => exact ⟨[], [], rfl, by simp [dig], .inl rfl⟩
 | cons c l ih =>
  by_cases hc : isD c
  ·obtain ⟨w, r, rfl, hw, hr⟩ := ih
   refine ⟨(c - 48).toNat :: w, r, ?_, ?_, hr⟩
   ·unfold isD at hc
    simp [ints]
    omega
   ·unfold isD at hc
    rw [dig_cons]
    exact ⟨by omega, hw⟩
  ·exact ⟨[], c :: l, rfl, by simp [dig], .inr ⟨c, l, rfl, hc⟩⟩
theorem split_run (s : ByteArray) (hs : s.size ≤ 60) (x3 p : Int) (res : List Int × Int × Bool) : ∀ (w : List Nat) (A : List Int) (D : List Int) (r : List Int), zax s = A ++ (ints 48 w ++ r) → dig w → D.length ≤ A.length →
  Ev (fun k => rational_split.l0 k s (D ++ ints 0 w) x3 p ((A.length + w.length : Nat) : Int)) res → Ev (fun k => rational_split.l0 k s D x3 p (A.length : Int)) res := by
 intro w
 induction w with
 | nil => intro A D r _ _ _ h; simpa [ints] using h
 | cons d w ih =>
  intro A D r hb hd hD h
  rw [dig_cons] at hd
  have hb' : zax s = A ++ ((48 + d : Nat) : Int) :: (ints 48 w ++ r) := by rw [hb]; simp [ints]
  have hlen : A.length < s.size := by rw [← zaJ, hb']; simp
  have ec := bt_app hb'
  apply Ev.succ
  simp only [rational_split.l0]
  rw [ec, decide_eq_true (by omega : ((48 + d : Nat) : Int) ≤ 57)]
  refine Ev.pos (by omega) (Ev.pos (by omega) (Ev.pos (by omega) ?_))
  apply Ev.succ
  simp only [rational_split.j1]
  rw [wrap_succ (by omega)]
  have e0 : (((48 + d : Nat) : Int) - 48) % 256 = ((0 + d : Nat) : Int) := by omega
  rw [e0]
  refine Ev.pos (by trivial) (Ev.pos (by omega) ?_)
  have h2 := ih (A ++ [((48 + d : Nat) : Int)]) (D ++ [((0 + d : Nat) : Int)]) r (by rw [hb']; simp) hd.2 (by simp; omega)
  have e1 : (A ++ [((48 + d : Nat) : Int)]).length = A.length + 1 := by simp
  rw [e1] at h2
  refine h2 ?_
  have e2 : D ++ [((0 + d : Nat) : Int)] ++ ints 0 w = D ++ ints 0 (d :: w) := by simp [ints]
  have e3 : A.length + 1 + w.length = A.length + (d :: w).length := by simp; omega
  rw [e2, e3]
  exact h
def failR : List Int × Int × Bool := ([], 0, false)
theorem split_bad (s : ByteArray) (hs : s.size ≤ 60) (D : List Int) (x3 p : Int) (A : List Int) (c : Int) (r : List Int) (hb : zax s = A ++ c :: r) (hc : ¬ isD c) (h : c ≠ 46 ∨ 0 ≤ p ∨ A.length = 0) :
  Ev (fun k => rational_split.l0 k s D x3 p (A.length : Int)) failR := by
 have hlen : A.length < s.size := by rw [← zaJ, hb]; simp
 have ec := bt_app hb
 unfold isD at hc
 apply Ev.succ
 simp only [rational_split.l0]
 rw [ec]
 refine Ev.pos (by omega) (Ev.pos (by omega) ?_)
 have key : Ev (fun k => rational_split.j1 k s D x3 p (A.length : Int) c false) failR := by
  apply Ev.succ
  simp only [rational_split.j1]
  refine Ev.neg (by decide) (Ev.ite (fun h1 => Ev.ite (fun h2 => Ev.ite (fun h3 => ?_) (fun h3 => Ev.ret rfl)) (fun h2 => Ev.ret rfl)) (fun h1 => Ev.ret rfl))
  exfalso
  omega
 refine Ev.ite (fun h1 => ?_) (fun h1 => key)
 rw [decide_eq_false (by omega : ¬ c ≤ 57)]
 exact key
theorem split_dot (s : ByteArray) (hs : s.size ≤ 60) (D : List Int) (x3 : Int) (A : List Int) (r : List Int) (hb : zax s = A ++ 46 :: r) (hA : 0 < A.length) (res : List Int × Int × Bool)
  (h : Ev (fun k => rational_split.l0 k s D x3 (A.length : Int) ((A.length + 1 : Nat) : Int)) res) : Ev (fun k => rational_split.l0 k s D x3 (-1) (A.length : Int)) res := by
 have hlen : A.length < s.size := by rw [← zaJ, hb]; simp
 have ec := bt_app hb
 apply Ev.succ
 simp only [rational_split.l0]
 rw [ec]
 refine Ev.pos (by omega) (Ev.pos (by omega) (Ev.neg (by omega) ?_))
 apply Ev.succ
 simp only [rational_split.j1]
 rw [wrap_succ (by omega)]
 exact Ev.neg (by decide) (Ev.pos (by trivial) (Ev.pos (by omega) (Ev.pos (by omega) h)))
theorem split_end (s : ByteArray) (hs : s.size ≤ 60) (D : List Int) (p : Int) (hp : -1 ≤ p ∧ p ≤ 60) :
  Ev (fun k => rational_split.l0 k s D 0 p (s.size : Int)) (if D = [] ∨ s.size > 40 ∨ p = (s.size : Int) - 1 then failR else if 0 ≤ p then (D, (s.size : Int) - 1 - p, true) else (D, 0, true)) := by
 have ew : wrap64 ((s.size : Int) - 1) = (s.size : Int) - 1 := wrap_id (by omega) (by omega)
 have key : ∀ b : Bool, Ev (fun k => rational_split.j2 k s D 0 p b) (if b = true then failR else if 0 ≤ p then (D, (s.size : Int) - 1 - p, true) else (D, 0, true)) := by
  intro b
  apply Ev.succ
  simp only [rational_split.j2]
  rw [ew]
  refine Ev.ite (fun h => Ev.ret (by rw [if_pos h]; rfl)) (fun h => ?_)
  rw [if_neg h]
  refine Ev.ite (fun h2 => Ev.ret ?_) (fun h2 => Ev.ret (by rw [if_neg (by omega)]))
  rw [if_pos (by omega), wrap_id (by omega) (by omega)]
 apply Ev.succ
 simp only [rational_split.l0]
 refine Ev.neg (by omega) (Ev.ite (fun h1 => ?_) (fun h1 => Ev.ite (fun h2 => ?_) (fun h2 => ?_)))
 ·have hD : D = [] := by cases D with | nil => rfl | cons a l => simp at h1; omega
  rw [if_pos (.inl hD)]
  exact key true
 ·rw [if_pos (.inr (.inl (by omega)))]
  exact key true
 ·have hD : D ≠ [] := by rintro rfl; simp at h1
  have := key (p == wrap64 ((s.size : Int) - 1))
  rw [ew] at this ⊢
  by_cases h3 : p = (s.size : Int) - 1
  ·rw [if_pos (.inr (.inr h3))]
   rw [if_pos (by simpa using h3)] at this
   exact this
  ·rw [if_neg (by intro hh; rcases hh with h | h | h; exact hD h; exact h2 (by omega); exact h3 h)]
   rw [if_neg (by simpa using h3)] at this
   exact this
/-! ### the kinds of strings -/
/-- w digits, and, if there is a point, f behind it. -/
inductive Dec (l : List Int) : Prop
 | whole (w : List Nat) (h : l = ints 48 w) (hw : dig w)
 | frac (w f : List Nat) (h : l = ints 48 w ++ 46 :: ints 48 f) (hw : dig w) (hf : dig f)
 | bad1 (w : List Nat) (c : Int) (r : List Int) (h : l = ints 48 w ++ c :: r) (hw : dig w) (hc : ¬ isD c) (hp : c ≠ 46)
 | bad2 (w f : List Nat) (c : Int) (r : List Int) (h : l = ints 48 w ++ 46 :: (ints 48 f ++ c :: r)) (hw : dig w) (hf : dig f) (hc : ¬ isD c)
theorem dec_cases (l : List Int) : Dec l := by
 obtain ⟨w, r, rfl, hw, hr⟩ := span_dig l
 rcases hr with rfl | ⟨c, r', rfl, hc⟩
 ·exact .whole w (by simp) hw
 ·by_cases hp : c = 46
  ·subst hp
   obtain ⟨f, q, rfl, hf, hq⟩ := span_dig r'
   rcases hq with rfl | ⟨c, q', rfl, hc'⟩
   ·exact .frac w f (by simp) hw hf
   ·exact .bad2 w f c q' rfl hw hf hc'
  ·exact .bad1 w c r' rfl hw hc hp
theorem split_whole {s : ByteArray} (hs : s.size ≤ 60) {w : List Nat} (hb : zax s = ints 48 w) (hw : dig w) : Ev (fun k => rational_split.f k s) (if w = [] ∨ w.length > 40 then failR else (ints 0 w, 0, true)) := by
 have hsz : s.size = w.length := by rw [← zaJ, hb, ints_len]
 unfold rational_split.f
 have h := split_run s hs 0 (-1) _ w [] [] [] (by simpa using hb) hw (by simp) (by
  have := split_end s hs (ints 0 w) (-1) (by omega)
  rw [hsz] at this
  simpa only [List.nil_append, List.length_nil, Nat.zero_add] using this)
 have hD : ints 0 w = [] ↔ w = [] := by simp [ints]
 by_cases hc : w = [] ∨ w.length > 40
 ·rw [if_pos hc]
  rw [if_pos (by rcases hc with h0 | h0; exact .inl (hD.2 h0); exact .inr (.inl h0))] at h
  exact h
 ·rw [if_neg hc]
  have hne : w.length ≠ 0 := fun h0 => hc (.inl (List.eq_nil_of_length_eq_zero h0))
  rw [if_neg (by intro hh; rcases hh with h0 | h0 | h0; exact hc (.inl (hD.1 h0)); exact hc (.inr h0); omega), if_neg (by omega)] at h
  exact h
theorem split_frac {s : ByteArray} (hs : s.size ≤ 60) {w f : List Nat} (hb : zax s = ints 48 w ++ 46 :: ints 48 f) (hw : dig w) (hf : dig f) :
  Ev (fun k => rational_split.f k s) (if w = [] ∨ f = [] ∨ w.length + 1 + f.length > 40 then failR else (ints 0 (w ++ f), ((f.length : Nat) : Int), true)) := by
 have hsz : s.size = w.length + 1 + f.length := by rw [← zaJ, hb]; simp [ints_len]; omega
 unfold rational_split.f
 refine split_run s hs 0 (-1) _ w [] [] (46 :: ints 48 f) (by simpa using hb) hw (by simp) ?_
 simp only [List.length_nil, Nat.zero_add, List.nil_append]
 have elen : (ints 48 w).length = w.length := ints_len 48 w
 by_cases hw0 : w = []
 ·rw [if_pos (.inl hw0)]
  subst hw0
  exact split_bad s hs _ _ _ (ints 48 []) 46 _ hb (by unfold isD; omega) (.inr (.inr (by simp [ints])))
 ·have hwl : 0 < w.length := List.length_pos_iff.2 hw0
  have h1 := split_dot s hs (ints 0 w) 0 (ints 48 w) (ints 48 f) hb (by omega) (if w = [] ∨ f = [] ∨ w.length + 1 + f.length > 40 then failR else (ints 0 (w ++ f), ((f.length : Nat) : Int), true)) ?_
  ·rw [elen] at h1; exact h1
  ·have h2 := split_run s hs 0 ((ints 48 w).length : Int) (if w = [] ∨ f = [] ∨ w.length + 1 + f.length > 40 then failR else (ints 0 (w ++ f), ((f.length : Nat) : Int), true)) f (ints 48 w ++ [46]) (ints 0 w) [] (by rw [hb]; simp) hf (by simp [ints_len]) ?_
   ·have e : (ints 48 w ++ [46]).length = (ints 48 w).length + 1 := by simp
    rw [e] at h2
    exact h2
   ·have e1 : (ints 48 w ++ [46]).length = w.length + 1 := by simp [ints_len]
    have e : (ints 48 w ++ [46]).length + f.length = s.size := by omega
    rw [e, elen, ← ints_app]
    have h3 := split_end s hs (ints 0 (w ++ f)) (w.length : Int) (by omega)
    have hD : ints 0 (w ++ f) ≠ [] := by intro h0; have := congrArg List.length h0; rw [ints_len, List.length_append, List.length_nil] at this; omega
    by_cases hf0 : f = []
    ·rw [if_pos (.inr (.inl hf0))]
     rw [if_pos (.inr (.inr (by rw [hsz, hf0]; simp)))] at h3
     exact h3
    ·have hfl : 0 < f.length := List.length_pos_iff.2 hf0
     by_cases hbig : w.length + 1 + f.length > 40
     ·rw [if_pos (.inr (.inr hbig))]
      rw [if_pos (.inr (.inl (by omega)))] at h3
      exact h3
     ·rw [if_neg (by intro hh; rcases hh with h | h | h; exact hw0 h; exact hf0 h; exact hbig h)]
      rw [if_neg (by intro hh; rcases hh with h | h | h; exact hD h; omega; omega), if_pos (by omega)] at h3
      rw [show (s.size : Int) - 1 - (w.length : Int) = ((f.length : Nat) : Int) by omega] at h3
      exact h3
theorem split_bad1 {s : ByteArray} (hs : s.size ≤ 60) {w : List Nat} {c : Int} {r : List Int} (hb : zax s = ints 48 w ++ c :: r) (hw : dig w) (hc : ¬ isD c) (hp : c ≠ 46) : Ev (fun k => rational_split.f k s) failR := by
 unfold rational_split.f
 refine split_run s hs 0 (-1) _ w [] [] (c :: r) (by simpa using hb) hw (by simp) ?_
 have := split_bad s hs ([] ++ ints 0 w) 0 (-1) (ints 48 w) c r hb hc (.inl hp)
 rw [ints_len] at this
 simpa using this
theorem split_bad2 {s : ByteArray} (hs : s.size ≤ 60) {w f : List Nat} {c : Int} {r : List Int} (hb : zax s = ints 48 w ++ 46 :: (ints 48 f ++ c :: r)) (hw : dig w) (hf : dig f) (hc : ¬ isD c) : Ev (fun k => rational_split.f k s) failR := by
 unfold rational_split.f
 refine split_run s hs 0 (-1) _ w [] [] (46 :: (ints 48 f ++ c :: r)) (by simpa using hb) hw (by simp) ?_
 simp only [List.length_nil, Nat.zero_add, List.nil_append]
 have elen : (ints 48 w).length = w.length := ints_len 48 w
 rcases Nat.eq_zero_or_pos w.length with h0 | h0
 ·have := split_bad s hs (ints 0 w) 0 (-1) (ints 48 w) 46 (ints 48 f ++ c :: r) hb (by unfold isD; omega) (.inr (.inr (by omega)))
  rw [elen] at this
  exact this
 ·have h1 := split_dot s hs (ints 0 w) 0 (ints 48 w) (ints 48 f ++ c :: r) hb (by omega) failR ?_
  ·rw [elen] at h1; exact h1
  ·have h2 := split_run s hs 0 ((ints 48 w).length : Int) failR f (ints 48 w ++ [46]) (ints 0 w) (c :: r) (by rw [hb]; simp) hf (by simp [ints_len]) ?_
   ·have e : (ints 48 w ++ [46]).length = (ints 48 w).length + 1 := by simp
    rw [e] at h2
    exact h2
   ·have h3 := split_bad s hs (ints 0 w ++ ints 0 f) 0 ((ints 48 w).length : Int) (ints 48 w ++ [46] ++ ints 48 f) c r (by rw [hb]; simp) hc (.inr (.inl (by omega)))
    have e : (ints 48 w ++ [46] ++ ints 48 f).length = (ints 48 w ++ [46]).length + f.length := by rw [List.length_append, ints_len]
    rw [e] at h3
    exact h3
/-! ### the program's parser -/
theorem Parse_ok {s : ByteArray} {D : List Nat} {b : Nat} (hD : D ≠ []) (hd : dig D) (hl : D.length ≤ 1000) (hb : b ≤ 1000) (h : Ev (fun k => rational_split.f k s) (ints 0 D, (b : Int), true)) : Ev (fun k => rational_Parse.f k s) (mkR ((vl D 0 : Nat) : Int) ((10 ^ b : Nat) : Int)) := by
 obtain ⟨t2, l1, e1⟩ : ∃ t l, red 2 b D = (t, l) := ⟨_, _, rfl⟩
 obtain ⟨t5, l2, e2⟩ : ∃ t l, red 5 b l1 = (t, l) := ⟨_, _, rfl⟩
 obtain ⟨g1, g2, g3, g4, g5, g6⟩ := dec_val hd e1 e2
 have s1 := red_spec (p := 2) (by omega) b D hd
 rw [e1] at s1
 have ne : ∀ l : List Nat, l.length = D.length → l ≠ [] := by
  rintro l hll rfl
  exact hD (List.eq_nil_of_length_eq_zero hll.symm)
 unfold rational_Parse.f rational_reduce.f
 refine Ev.bind h (Ev.pos rfl ?_)
 have r1 := reduce_p (p := 2) (.inl rfl) (x1 := 2) rfl b D hD hd hl hb
 rw [e1] at r1
 refine Ev.bind r1 ?_
 have r2 := reduce_p (p := 5) (.inr rfl) (x1 := 5) rfl b l1 (ne l1 s1.2.1) s1.1 (by rw [s1.2.1]; exact hl) hb
 rw [e2] at r2
 refine Ev.bind r2 (Ev.bind (number_p l2 g1 (by rw [g2]; exact hl)) (Ev.bind (power_p (p := 2) (.inl rfl) rfl t2 (by omega)) (Ev.bind (power_p (p := 5) (.inr rfl) rfl t5 (by omega)) ?_)))
 have p2 : 0 < 2 ^ t2 := Nat.pow_pos (by omega)
 have p5 : 0 < 5 ^ t5 := Nat.pow_pos (by omega)
 have pd : 0 < 2 ^ t2 * 5 ^ t5 := Nat.mul_pos p2 p5
 have em : mn (wrap64 (((min (2 ^ t2) M1 : Nat) : Int) * ((min (5 ^ t5) M1 : Nat) : Int))) 2147483648 = ((min (2 ^ t2 * 5 ^ t5) M1 : Nat) : Int) := by
  have hle : min (2 ^ t2) M1 * min (5 ^ t5) M1 ≤ 2147483648 * 2147483648 := Nat.mul_le_mul (Nat.min_le_right _ _) (Nat.min_le_right _ _)
  rw [show ((min (2 ^ t2) M1 : Nat) : Int) * ((min (5 ^ t5) M1 : Nat) : Int) = ((min (2 ^ t2) M1 * min (5 ^ t5) M1 : Nat) : Int) by simp, wrap_id (by omega) (by omega), show (2147483648 : Int) = ((M1 : Nat) : Int) from rfl, mn_nat, min_mul _ _ p2 p5]
 rw [em, g6, mkR_nat pd g5]
 generalize hd' : 2 ^ t2 * 5 ^ t5 = d at *
 generalize vl l2 0 = n at *
 unfold M1
 refine Ev.ite (fun h0 => Ev.ret ?_) (fun h0 => Ev.ite (fun h1 => Ev.ret (by rw [if_pos (by omega)])) (fun h1 => Ev.ite (fun h2 => Ev.ret (by rw [if_pos (by omega)])) (fun h2 => Ev.ret ?_)))
 ·have hn : n = 0 := by omega
  subst hn
  rw [Nat.gcd_zero_left] at g5
  subst g5
  rfl
 ·rw [if_neg (by omega), Nat.min_eq_left (by omega), Nat.min_eq_left (by omega)]
theorem Parse_fail {s : ByteArray} (h : Ev (fun k => rational_split.f k s) failR) : Ev (fun k => rational_Parse.f k s) (0, 0, 3) := by
 unfold rational_Parse.f
 exact Ev.bind h (Ev.neg (by decide) (Ev.ret rfl))
end Go.Proofs.YtoieknocpphjoaaDoor.P
