--m
/- Rational numbers: what the program's functions and the document's answer. No program in sight. -/
import Derived.Test.YtoieknocpphjoaaDoorPc
import Derived.Lib.ItoaLen
import Derived.Lib.ItoaMem
import Derived.Test.YtoieknocpphjoaaDoorP10
import Derived.Test.YtoieknocpphjoaaDoorP11
import Derived.Test.YtoieknocpphjoaaDoorP12
import Derived.Test.YtoieknocpphjoaaDoorP13
import Derived.Test.YtoieknocpphjoaaDoorP15
import Derived.Test.YtoieknocpphjoaaDoorP16
import Derived.Test.YtoieknocpphjoaaDoorP17
import Derived.Test.YtoieknocpphjoaaDoorP18
import Derived.Test.YtoieknocpphjoaaDoorP5
import Derived.Test.YtoieknocpphjoaaDoorP6
import Derived.Test.YtoieknocpphjoaaDoorP7
import Derived.Test.YtoieknocpphjoaaDoorP8
import Derived.Test.YtoieknocpphjoaaDoorP9
namespace Go.Proofs.YtoieknocpphjoaaDoor.P
open Go.RowKit Go.Proofs.YtoieknocpphjoaaDoorW.PrintWords Go.Proofs.YtoieknocpphjoaaDoorW.PrintLast Go.Proofs.YtoieknocpphjoaaDoorW.PrintMore
set_option linter.unusedSimpArgs false
set_option linter.unusedVariables false
theorem u64_wrap (x : Int) : IntKind.u64.wrap x = x % 18446744073709551616 := by simp [IntKind.wrap, IntKind.bits, IntKind.signed]
theorem i64_bounds {a : Int} (h : (Lit.int .i64 a).wf = true) : -9223372036854775808 ≤ a ∧ a ≤ 9223372036854775807 := by
 exact bounds_i64 h
theorem Ev.succ {α : Type} {g : Nat → Option α} {r : α} (h : Ev (fun k => g (k + 1)) r) : Ev g r := Ev.step (fun _ => rfl) h
theorem size_p {a : Int} (h0 : -9223372036854775808 ≤ a) (h1 : a ≤ 9223372036854775807) : rational_size.f a = some ((a.natAbs : Nat) : Int) := by
 unfold rational_size.f
 simp only [u64_wrap]
 split
 ·congr 1; omega
 ·congr 1; omega
theorem size_r {a : Int} (h0 : -9223372036854775808 ≤ a) (h1 : a ≤ 9223372036854775807) : vinculumref02_size.f a = some ((a.natAbs : Nat) : Int) := by
 unfold vinculumref02_size.f wrap64
 simp only [u64_wrap]
 split
 ·congr 1; omega
 ·congr 1; omega
theorem gcd_step (a b : Nat) (h : b ≠ 0) : Nat.gcd b (a % b) = Nat.gcd a b := by
 rw [Nat.gcd_comm a b, Nat.gcd_rec b a, Nat.gcd_comm]
theorem gcd_p : ∀ (b a : Nat), Ev (fun k => rational_gcd.l0 k (a : Int) (b : Int)) ((Nat.gcd a b : Nat) : Int) := by
 intro b
 induction b using Nat.strongRecOn with
 | _ b ih =>
  intro a
  apply Ev.succ
  by_cases hb : b = 0
  ·subst hb
   simp only [rational_gcd.l0]
   exact Ev.pos rfl (Ev.ret (by simp))
  ·simp only [rational_gcd.l0]
   refine Ev.neg (by omega) ?_
   rw [← gcd_step a b hb]
   exact ih (a % b) (Nat.mod_lt _ (by omega)) b
theorem gcd_r : ∀ (b a : Nat), Ev (fun k => vinculumref02_common.l0 k (a : Int) (b : Int)) ((Nat.gcd a b : Nat) : Int) := by
 intro b
 induction b using Nat.strongRecOn with
 | _ b ih =>
  intro a
  apply Ev.succ
  by_cases hb : b = 0
  ·subst hb
   simp only [vinculumref02_common.l0]
   exact Ev.neg (by omega) (Ev.ret (by simp))
  ·simp only [vinculumref02_common.l0]
   refine Ev.pos (by omega) (Ev.neg (by omega) ?_)
   rw [← gcd_step a b hb]
   exact ih (a % b) (Nat.mod_lt _ (by omega)) b
/-! ### valid numbers -/
def vld (n d : Int) : Bool := decide (1 ≤ d) && decide (d ≤ 2147483647) && decide (-2147483647 ≤ n) && decide (n ≤ 2147483647) && (Nat.gcd n.natAbs d.natAbs == 1)
theorem vld_bounds {n d : Int} (h : vld n d = true) : 1 ≤ d ∧ d ≤ 2147483647 ∧ -2147483647 ≤ n ∧ n ≤ 2147483647 := by
 simp only [vld, Bool.and_eq_true, decide_eq_true_eq] at h
 omega
theorem Valid_p (n d : Int) : Ev (fun k => rational_Valid.f k n d) (vld n d) := by
 unfold rational_Valid.f vld
 refine Ev.ite (fun h1 => ?_) (fun h1 => Ev.ret (by simp [h1]))
 refine Ev.ite (fun h2 => ?_) (fun h2 => Ev.ret (by simp [h2]))
 refine Ev.ite (fun h3 => ?_) (fun h3 => Ev.ret (by simp [h3]))
 refine Ev.ite (fun h4 => ?_) (fun h4 => Ev.ret (by simp [h4]))
 refine Ev.bindO (size_p (by omega) (by omega)) ?_
 have hd : IntKind.u64.wrap d = ((d.natAbs : Nat) : Int) := by rw [u64_wrap]; omega
 rw [hd]
 refine Ev.bind (gcd_p _ _) (Ev.ret ?_)
 have e1 : decide (1 ≤ d) = true := decide_eq_true h1
 have e3 : decide (-2147483647 ≤ n) = true := decide_eq_true h3
 rw [e1, e3, decide_eq_true h2, decide_eq_true h4]
 simp only [Bool.true_and]
 rw [Bool.eq_iff_iff]; simp only [beq_iff_eq]; omega
theorem Valid_r (n d : Int) : Ev (fun k => vinculumref02_Valid.f k n d) (vld n d) := by
 unfold vinculumref02_Valid.f vld
 refine Ev.ite (fun h1 => ?_) (fun h1 => Ev.ret (by simp [h1]))
 refine Ev.ite (fun h2 => ?_) (fun h2 => Ev.ret (by simp [h2]))
 refine Ev.ite (fun h3 => ?_) (fun h3 => Ev.ret (by simp [h3]))
 refine Ev.ite (fun h4 => ?_) (fun h4 => Ev.ret (by simp [h4]))
 refine Ev.bindO (size_r (by omega) (by omega)) ?_
 refine Ev.bindO (size_r (by omega) (by omega)) ?_
 refine Ev.bind (gcd_r _ _) (Ev.ret ?_)
 have e1 : decide (1 ≤ d) = true := decide_eq_true h1
 have e3 : decide (-2147483647 ≤ n) = true := decide_eq_true h3
 rw [e1, e3, decide_eq_true h2, decide_eq_true h4]
 simp only [Bool.true_and]
 rw [Bool.eq_iff_iff]; simp only [beq_iff_eq]; omega
/-! ### quotients -/
def mkR (n d : Int) : Int × Int × Int :=
 if d = 0 then (0, 0, 10) else
 if n.natAbs / Nat.gcd n.natAbs d.natAbs > 2147483647 ∨ d.natAbs / Nat.gcd n.natAbs d.natAbs > 2147483647 then (0, 0, 2) else
 (if (decide (n < 0) != decide (d < 0)) = true then -((n.natAbs / Nat.gcd n.natAbs d.natAbs : Nat) : Int) else ((n.natAbs / Nat.gcd n.natAbs d.natAbs : Nat) : Int), ((d.natAbs / Nat.gcd n.natAbs d.natAbs : Nat) : Int), 0)
theorem div_w (a g : Nat) (h : a ≤ 9223372036854775808) : IntKind.u64.wrap (Int.tdiv (a : Int) (g : Int)) = ((a / g : Nat) : Int) := by
 have h1 : Int.tdiv (a : Int) (g : Int) = ((a / g : Nat) : Int) := rfl
 have h2 : a / g ≤ a := Nat.div_le_self _ _
 rw [h1, u64_wrap]
 generalize a / g = q at h2
 omega
theorem Make_p {n d : Int} (hn : -9223372036854775808 ≤ n ∧ n ≤ 9223372036854775807) (hd : -9223372036854775808 ≤ d ∧ d ≤ 9223372036854775807) : Ev (fun k => rational_Make.f k n d) (mkR n d) := by
 unfold rational_Make.f mkR
 refine Ev.ite (fun h => Ev.ret (by rw [if_pos h])) (fun h => ?_)
 rw [if_neg h]
 refine Ev.bindO (size_p hn.1 hn.2) (Ev.bindO (size_p hd.1 hd.2) ?_)
 refine Ev.bind (gcd_p _ _) ?_
 have hg : 0 < Nat.gcd n.natAbs d.natAbs := Nat.gcd_pos_of_pos_right _ (by omega)
 refine Ev.neg (by omega) ?_
 rw [div_w _ _ (by omega), div_w _ _ (by omega)]
 generalize n.natAbs / Nat.gcd n.natAbs d.natAbs = x
 generalize d.natAbs / Nat.gcd n.natAbs d.natAbs = y
 refine Ev.ite (fun h1 => ?_) (fun h1 => ?_)
 ·rw [if_pos (by omega)]
  apply Ev.succ
  simp only [rational_Make.j0]
  exact Ev.ret (by simp)
 ·by_cases h2 : (y : Int) > 2147483647
  ·rw [if_pos (by omega), decide_eq_true h2]
   apply Ev.succ
   simp only [rational_Make.j0]
   exact Ev.ret (by simp)
  ·rw [if_neg (by omega), decide_eq_false h2]
   apply Ev.succ
   simp only [rational_Make.j0]
   rw [wrap_id (x := (x : Int)) (by omega) (by omega), wrap_id (x := (y : Int)) (by omega) (by omega), wrap_id (x := -(x : Int)) (by omega) (by omega)]
   refine Ev.neg (by simp) (Ev.ite (fun h3 => Ev.ret (by rw [if_pos h3])) (fun h3 => Ev.ret (by rw [if_neg h3])))
theorem Make_r {n d : Int} (hn : -9223372036854775808 ≤ n ∧ n ≤ 9223372036854775807) (hd : -9223372036854775808 ≤ d ∧ d ≤ 9223372036854775807) : Ev (fun k => vinculumref02_Make.f k n d) (mkR n d) := by
 unfold vinculumref02_Make.f mkR
 refine Ev.ite (fun h => Ev.ret (by rw [if_pos h])) (fun h => ?_)
 rw [if_neg h]
 refine Ev.bindO (size_r hn.1 hn.2) (Ev.bindO (size_r hd.1 hd.2) ?_)
 refine Ev.bind (a := mkR n d) ?_ (Ev.ret (by unfold mkR; rw [if_neg h]))
 unfold vinculumref02_quotient.f mkR
 rw [if_neg h]
 refine Ev.bind (gcd_r _ _) ?_
 have hg : 0 < Nat.gcd n.natAbs d.natAbs := Nat.gcd_pos_of_pos_right _ (by omega)
 refine Ev.neg (by omega) ?_
 rw [div_w _ _ (by omega), div_w _ _ (by omega)]
 generalize n.natAbs / Nat.gcd n.natAbs d.natAbs = x
 generalize d.natAbs / Nat.gcd n.natAbs d.natAbs = y
 refine Ev.ite (fun h1 => ?_) (fun h1 => ?_)
 ·rw [if_pos (by omega)]
  apply Ev.succ
  simp only [vinculumref02_quotient.j0]
  exact Ev.ret (by simp)
 ·by_cases h2 : (y : Int) > 2147483647
  ·rw [if_pos (by omega), decide_eq_true h2]
   apply Ev.succ
   simp only [vinculumref02_quotient.j0]
   exact Ev.ret (by simp)
  ·rw [if_neg (by omega), decide_eq_false h2]
   apply Ev.succ
   simp only [vinculumref02_quotient.j0]
   rw [wrap_id (x := (x : Int)) (by omega) (by omega), wrap_id (x := (y : Int)) (by omega) (by omega), wrap_id (x := -(x : Int)) (by omega) (by omega)]
   refine Ev.neg (by simp) (Ev.ite (fun h3 => Ev.ret (by rw [if_pos h3])) (fun h3 => Ev.ret (by rw [if_neg h3])))
theorem mkR_bounds (n d : Int) : -2147483647 ≤ (mkR n d).1 ∧ (mkR n d).1 ≤ 2147483647 ∧ 0 ≤ (mkR n d).2.1 ∧ (mkR n d).2.1 ≤ 2147483647 := by
 unfold mkR
 split
 ·simp
 split
 ·simp
 ·rename_i h1 h2
  generalize n.natAbs / n.natAbs.gcd d.natAbs = x at *
  generalize d.natAbs / n.natAbs.gcd d.natAbs = y at *
  split <;> (simp only; omega)
/-! ### texts -/
def itoaB (n : Int) : ByteArray := ⟨(Lib.itoa n).toArray⟩
theorem itoaB_size (n : Int) (h0 : -9223372036854775808 ≤ n) (h1 : n ≤ 9223372036854775807) : (itoaB n).size ≤ 21 := by
 have := Lib.itoa_length_le n h0 h1
 simpa [itoaB, ByteArray.size] using this
theorem bytes_append (a b : List UInt8) : (⟨a.toArray⟩ ++ ⟨b.toArray⟩ : ByteArray) = ⟨(a ++ b).toArray⟩ := by
 apply ByteArray.ext
 simp [ByteArray.data_append]
theorem Itoa_p {n : Int} (h0 : -9223372036854775808 ≤ n) (h1 : n ≤ 9223372036854775807) : strconv_Itoa_45.f n = some (itoaB n) := by
 unfold strconv_Itoa_45.f
 rw [if_pos ⟨h0, h1⟩]; rfl
theorem Digits_r : ∀ u : Nat, u ≤ 9223372036854775807 → Ev (fun k => vinculumref01_Digits.f k (u : Int)) ⟨(Lib.decDigits u).toArray⟩ := by
 intro u
 induction u using Nat.strongRecOn with
 | _ u ih =>
  intro hu
  apply Ev.succ
  simp only [vinculumref01_Digits.f]
  rw [Lib.decDigits]
  refine Ev.ite (fun h => Ev.ret ?_) (fun h => ?_)
  ·rw [dif_pos (by omega), wrap_id (by omega) (by omega)]
   have e : ((48 + (u : Int)) % 256).toNat = 48 + u := by omega
   simp [strOfNums, e]
  ·rw [dif_neg (by omega)]
   have e1 : wrap64 (Int.tdiv (u : Int) 10) = ((u / 10 : Nat) : Int) := by
    have : Int.tdiv (u : Int) 10 = ((u / 10 : Nat) : Int) := rfl
    rw [this, wrap_id (by omega) (by omega)]
   have e2 : Int.tmod (u : Int) 10 = ((u % 10 : Nat) : Int) := rfl
   rw [e1, e2]
   refine Ev.bind (ih (u / 10) (by omega) (by omega)) (Ev.bind (ih (u % 10) (by omega) (by omega)) ?_)
   have e3 : Lib.decDigits (u % 10) = [UInt8.ofNat (48 + u % 10)] := by rw [Lib.decDigits, dif_pos (by omega)]
   have l1 : (Lib.decDigits (u / 10)).length ≤ 21 := by
    have := Lib.itoa_length_le ((u / 10 : Nat) : Int) (by omega) (by omega)
    rwa [Lib.itoa_nonneg] at this
   rw [e3]
   refine Ev.pos ?_ (Ev.ret (bytes_append _ _))
   simp only [ByteArray.size, List.size_toArray, List.length_cons, List.length_nil]
   omega
theorem Number_r {n : Int} (h0 : -9223372036854775808 < n) (h1 : n ≤ 9223372036854775807) : Ev (fun k => vinculumref01_Number.f k n) (itoaB n) := by
 unfold vinculumref01_Number.f
 refine Ev.ite (fun h => ?_) (fun h => ?_)
 ·obtain ⟨u, rfl⟩ : ∃ u : Nat, n = -(u : Int) := ⟨n.natAbs, by omega⟩
  have e : wrap64 (- -(u : Int)) = (u : Int) := by rw [Int.neg_neg, wrap_id (by omega) (by omega)]
  rw [e]
  refine Ev.bind (Digits_r u (by omega)) ?_
  have hs := itoaB_size (-(u : Int)) (by omega) (by omega)
  unfold itoaB at hs ⊢
  rw [Lib.itoa_neg u (by omega)] at hs ⊢
  simp only [ByteArray.size, List.size_toArray, List.length_cons] at hs
  refine Ev.pos ?_ (Ev.ret (bytes_append [45] _))
  simp only [ByteArray.size, List.size_toArray]
  omega
 ·obtain ⟨u, rfl⟩ : ∃ u : Nat, n = (u : Int) := ⟨n.toNat, by omega⟩
  refine Ev.bind (Digits_r u (by omega)) (Ev.ret ?_)
  rw [itoaB, Lib.itoa_nonneg]
def txt (n d : Int) : ByteArray := if vld n d = true then (if d = 1 then itoaB n else (itoaB n ++ (⟨#[47]⟩ : ByteArray)) ++ itoaB d) else ⟨#[]⟩
theorem slash_size (a b : ByteArray) (ha : a.size ≤ 21) (hb : b.size ≤ 21) : a.size + 1 ≤ 9223372036854775807 ∧ (a ++ (⟨#[47]⟩ : ByteArray)).size + b.size ≤ 9223372036854775807 := by
 have e : (⟨#[47]⟩ : ByteArray).size = 1 := rfl
 rw [ByteArray.size_append, e]
 omega
theorem Text_p (n d : Int) : Ev (fun k => rational_Text.f k n d) (txt n d) := by
 unfold rational_Text.f txt
 refine Ev.bind (Valid_p n d) (Ev.ite (fun h => ?_) (fun h => Ev.ret (by rw [if_neg h])))
 have hb := vld_bounds h
 rw [if_pos h]
 have sn := itoaB_size n (by omega) (by omega)
 have sd := itoaB_size d (by omega) (by omega)
 have ss := slash_size _ _ sn sd
 refine Ev.ite (fun h2 => ?_) (fun h2 => ?_)
 ·rw [if_pos h2]
  exact Ev.bindO (Itoa_p (by omega) (by omega)) (Ev.ret rfl)
 ·rw [if_neg h2]
  exact Ev.bindO (Itoa_p (by omega) (by omega)) (Ev.pos ss.1 (Ev.bindO (Itoa_p (by omega) (by omega)) (Ev.pos ss.2 (Ev.ret rfl))))
theorem Text_r (n d : Int) : Ev (fun k => vinculumref02_Text.f k n d) (txt n d) := by
 unfold vinculumref02_Text.f txt
 refine Ev.bind (Valid_r n d) (Ev.ite (fun h => ?_) (fun h => Ev.ret (by rw [if_neg h])))
 have hb := vld_bounds h
 rw [if_pos h]
 have sn := itoaB_size n (by omega) (by omega)
 have sd := itoaB_size d (by omega) (by omega)
 have ss := slash_size _ _ sn sd
 refine Ev.ite (fun h2 => ?_) (fun h2 => ?_)
 ·rw [if_pos h2]
  exact Ev.bind (Number_r (by omega) (by omega)) (Ev.ret rfl)
 ·rw [if_neg h2]
  exact Ev.bind (Number_r (by omega) (by omega)) (Ev.pos ss.1 (Ev.bind (Number_r (by omega) (by omega)) (Ev.pos ss.2 (Ev.ret rfl))))
theorem awake_p : Ev (fun k => vinculumlaw02_awake.f k) true := by
 unfold vinculumlaw02_awake.f
 refine Ev.bind (Make_p (n := 6) (d := -4) (by omega) (by omega)) ?_
 have e : mkR 6 (-4) = (-3, 2, 0) := by decide +kernel
 rw [e]
 refine Ev.pos rfl (Ev.bind (Text_p _ _) (Ev.ret ?_))
 have e2 : txt (-3) 2 = (itoaB (-3) ++ (⟨#[47]⟩ : ByteArray)) ++ itoaB 2 := by
  unfold txt
  rw [if_pos (by decide +kernel), if_neg (by decide)]
 have e3 : itoaB (-3) = ⟨#[45, 51]⟩ := by
  rw [show (-3 : Int) = -((3 : Nat) : Int) by rfl, itoaB, Lib.itoa_neg 3 (by decide), Lib.decDigits_one (by decide)]; rfl
 have e4 : itoaB 2 = ⟨#[50]⟩ := by
  rw [show (2 : Int) = ((2 : Nat) : Int) by rfl, itoaB, Lib.itoa_nonneg, Lib.decDigits_one (by decide)]; rfl
 simp only
 rw [e2, e3, e4]
 decide +kernel
end Go.Proofs.YtoieknocpphjoaaDoor.P
