--m
/- Decimals: the document's parser. No program in sight. -/
import Derived.Test.YtoieknocpphjoaaDoorPoH
import Derived.Test.YtoieknocpphjoaaDoorP51
import Derived.Test.YtoieknocpphjoaaDoorP52
import Derived.Test.YtoieknocpphjoaaDoorP53
import Derived.Test.YtoieknocpphjoaaDoorP54
import Derived.Test.YtoieknocpphjoaaDoorP55
import Derived.Test.YtoieknocpphjoaaDoorP56
import Derived.Test.YtoieknocpphjoaaDoorP57
namespace Go.Proofs.YtoieknocpphjoaaDoor.P
open Go.RowKit Go.Proofs.YtoieknocpphjoaaDoorW.PrintWords Go.Proofs.YtoieknocpphjoaaDoorW.PrintLast Go.Proofs.YtoieknocpphjoaaDoorW.PrintMore
set_option linter.unusedSimpArgs false
set_option linter.unusedVariables false
theorem bytesOf_app (a b : ByteArray) : zax (a ++ b) = zax a ++ zax b := by simp [zax, ByteArray.data_append]
theorem bytesOf_extract (s : ByteArray) (i j : Nat) : zax (s.extract i j) = ((zax s).drop i).take (j - i) := by
 simp [zax, ByteArray.data_extract, List.map_take, List.map_drop]
theorem extract_front {s : ByteArray} {A B : List Int} (h : zax s = A ++ B) : zax (s.extract 0 A.length) = A := by
 rw [bytesOf_extract, h]; simp
theorem extract_back {s : ByteArray} {A B : List Int} (h : zax s = A ++ B) : zax (s.extract A.length s.size) = B := by
 rw [bytesOf_extract, ← zaJ, h]; simp
/-! ### where the point is, what is a digit -/
def fpt : List Int → Nat → Int
 | [], _ => -1
 | c :: l, n => if c = 46 then (n : Int) else fpt l (n + 1)
theorem fpt_ints (w : List Nat) (hw : dig w) (r : List Int) (n : Nat) : fpt (ints 48 w ++ r) n = fpt r (n + w.length) := by
 induction w generalizing n with
 | nil => rfl
 | cons d w ih =>
  rw [dig_cons] at hw
  have e : ints 48 (d :: w) ++ r = ((48 + d : Nat) : Int) :: (ints 48 w ++ r) := by simp [ints]
  rw [e]
  by_cases h : d = 254   -- never: d is a digit
  ·omega
  ·simp only [fpt]
   by_cases h46 : ((48 + d : Nat) : Int) = 46
   ·omega
   ·rw [if_neg h46, ih hw.2, List.length_cons, Nat.add_assoc, Nat.add_comm 1]
theorem fpt_at (r : List Int) (n : Nat) : fpt r n = -1 ∨ ∃ q : Nat, fpt r n = (q : Int) ∧ n ≤ q ∧ q < n + r.length := by
 induction r generalizing n with
 | nil => exact .inl rfl
 | cons c r ih =>
  simp only [fpt]
  split
  ·exact .inr ⟨n, rfl, Nat.le_refl _, by simp⟩
  ·rcases ih (n + 1) with h | ⟨q, h1, h2, h3⟩
   ·exact .inl h
   ·exact .inr ⟨q, h1, by omega, by simp; omega⟩
theorem point_go (s : ByteArray) (hs : s.size ≤ 60) : ∀ (r A : List Int), zax s = A ++ r → Ev (fun k => vinculumref02_point.l0 k s (A.length : Int)) (fpt r A.length) := by
 intro r
 induction r with
 | nil =>
  intro A h
  have hl : s.size = A.length := by rw [← zaJ, h]; simp
  apply Ev.succ
  simp only [vinculumref02_point.l0]
  exact Ev.neg (by omega) (Ev.ret rfl)
 | cons c r ih =>
  intro A h
  have hl : A.length < s.size := by rw [← zaJ, h]; simp
  have ec := bt_app h
  apply Ev.succ
  simp only [vinculumref02_point.l0, fpt]
  rw [ec, wrap_succ (by omega)]
  refine Ev.pos (by omega) (Ev.pos (by omega) (Ev.ite (fun hc => Ev.ret (by rw [if_pos hc])) (fun hc => ?_)))
  rw [if_neg hc]
  have h2 := ih (A ++ [c]) (by rw [h]; simp)
  have e : (A ++ [c]).length = A.length + 1 := by simp
  rw [e] at h2
  exact h2
theorem point_r (s : ByteArray) (hs : s.size ≤ 60) : Ev (fun k => vinculumref02_point.f k s) (fpt (zax s) 0) := point_go s hs (zax s) [] rfl
def allD (l : List Int) : Bool := l.all fun c => decide (48 ≤ c) && decide (c ≤ 57)
theorem allD_ints {w : List Nat} (hw : dig w) : allD (ints 48 w) = true := by
 unfold allD ints
 rw [List.all_eq_true]
 intro x hx
 obtain ⟨d, hd, rfl⟩ := List.mem_map.1 hx
 have := hw d hd
 simp
 omega
theorem allD_bad {A r : List Int} {c : Int} (hc : ¬ isD c) : allD (A ++ c :: r) = false := by
 rw [Bool.eq_false_iff]
 intro h
 have h1 := List.all_eq_true.1 h c (by simp)
 simp at h1
 exact hc h1
theorem digits_go (s : ByteArray) (hs : s.size ≤ 60) : ∀ (r A : List Int), zax s = A ++ r → Ev (fun k => vinculumref02_digits.l0 k s (A.length : Int)) (allD r && decide ((s.size : Int) > 0)) := by
 intro r
 induction r with
 | nil =>
  intro A h
  have hl : s.size = A.length := by rw [← zaJ, h]; simp
  apply Ev.succ
  simp only [vinculumref02_digits.l0]
  exact Ev.neg (by omega) (Ev.ret rfl)
 | cons c r ih =>
  intro A h
  have hl : A.length < s.size := by rw [← zaJ, h]; simp
  have ec := bt_app h
  apply Ev.succ
  simp only [vinculumref02_digits.l0]
  rw [ec, wrap_succ (by omega)]
  refine Ev.pos (by omega) (Ev.pos (by omega) (Ev.ite (fun hc => Ev.ret ?_) (fun hc => Ev.ite (fun hd => Ev.ret ?_) (fun hd => ?_))))
  ·rw [show c :: r = [] ++ c :: r from rfl, allD_bad (by unfold isD; omega)]; rfl
  ·rw [show c :: r = [] ++ c :: r from rfl, allD_bad (by unfold isD; omega)]; rfl
  ·have h2 := ih (A ++ [c]) (by rw [h]; simp)
   have e : (A ++ [c]).length = A.length + 1 := by simp
   rw [e] at h2
   have ea : allD (c :: r) = allD r := by
    unfold allD
    rw [List.all_cons, decide_eq_true (by omega : 48 ≤ c), decide_eq_true (by omega : c ≤ 57)]
    rfl
   rw [ea]
   exact h2
theorem digits_r (s : ByteArray) (hs : s.size ≤ 60) : Ev (fun k => vinculumref02_digits.f k s) (allD (zax s) && decide ((s.size : Int) > 0)) := digits_go s hs (zax s) [] rfl
theorem digits_ints {s : ByteArray} (hs : s.size ≤ 60) {w : List Nat} (h : zax s = ints 48 w) (hw : dig w) : Ev (fun k => vinculumref02_digits.f k s) (decide (w ≠ [])) := by
 have h1 := digits_r s hs
 have hl : s.size = w.length := by rw [← zaJ, h, ints_len]
 rw [h, allD_ints hw, Bool.true_and, hl] at h1
 have e : decide (((w.length : Nat) : Int) > 0) = decide (w ≠ []) := by
  rw [decide_eq_decide]
  cases w with
  | nil => simp
  | cons a l => simp
 rw [e] at h1
 exact h1
theorem digits_bad {s : ByteArray} (hs : s.size ≤ 60) {A r : List Int} {c : Int} (h : zax s = A ++ c :: r) (hc : ¬ isD c) : Ev (fun k => vinculumref02_digits.f k s) false := by
 have h1 := digits_r s hs
 rw [h, allD_bad hc] at h1
 exact h1
theorem ext_size (s : ByteArray) (hs : s.size ≤ 60) (i j : Nat) : (s.extract i j).size ≤ 60 := by
 rw [← zaJ, bytesOf_extract, List.length_take, List.length_drop, zaJ]
 omega
/-! ### what is a decimal -/
theorem Decimal_whole {s : ByteArray} (hs : s.size ≤ 60) {w : List Nat} (h : zax s = ints 48 w) (hw : dig w) : Ev (fun k => vinculumref02_Decimal.f k s) (decide (w ≠ [])) := by
 unfold vinculumref02_Decimal.f
 have hp := point_r s hs
 have e : fpt (zax s) 0 = -1 := by have := fpt_ints w hw [] 0; rw [List.append_nil] at this; rw [h, this]; rfl
 rw [e] at hp
 exact Ev.bind hp (Ev.neg (by decide) (Ev.bind (digits_ints hs h hw) (Ev.ret rfl)))
theorem Decimal_frac {s : ByteArray} (hs : s.size ≤ 60) {w f : List Nat} (h : zax s = ints 48 w ++ 46 :: ints 48 f) (hw : dig w) (hf : dig f) : Ev (fun k => vinculumref02_Decimal.f k s) (decide (w ≠ []) && decide (f ≠ [])) := by
 unfold vinculumref02_Decimal.f
 have hsz : s.size = w.length + 1 + f.length := by rw [← zaJ, h]; simp [ints_len]; omega
 have hp := point_r s hs
 have e : fpt (zax s) 0 = (w.length : Int) := by rw [h, fpt_ints w hw]; simp [fpt]
 rw [e] at hp
 refine Ev.bind hp (Ev.pos (by omega) (Ev.pos (by omega) (Ev.pos (by omega) ?_)))
 rw [Int.toNat_natCast, wrap_succ (by omega), Int.toNat_natCast]
 have h1 := extract_front h
 rw [ints_len] at h1
 refine Ev.bind (digits_ints (ext_size s hs _ _) h1 hw) ?_
 by_cases hw0 : w = []
 ·rw [decide_eq_false (by simpa using hw0)]
  exact Ev.neg (by decide) (Ev.ret rfl)
 ·rw [decide_eq_true hw0]
  have h2 := extract_back (A := ints 48 w ++ [46]) (B := ints 48 f) (s := s) (by rw [h]; simp)
  have el : (ints 48 w ++ [46]).length = w.length + 1 := by simp [ints_len]
  rw [el] at h2
  exact Ev.pos rfl (Ev.pos (by omega) (Ev.pos (by omega) (Ev.bind (digits_ints (ext_size s hs _ _) h2 hf) (Ev.ret (by simp)))))
theorem Decimal_bad1 {s : ByteArray} (hs : s.size ≤ 60) {w : List Nat} {c : Int} {r : List Int} (h : zax s = ints 48 w ++ c :: r) (hw : dig w) (hc : ¬ isD c) (hp : c ≠ 46) : Ev (fun k => vinculumref02_Decimal.f k s) false := by
 unfold vinculumref02_Decimal.f
 have hsz : s.size = w.length + 1 + r.length := by rw [← zaJ, h]; simp [ints_len]; omega
 have hpt := point_r s hs
 have e : fpt (zax s) 0 = fpt r (w.length + 1) := by rw [h, fpt_ints w hw]; simp only [fpt]; rw [if_neg hp, Nat.zero_add]
 rw [e] at hpt
 rcases fpt_at r (w.length + 1) with hn | ⟨q, hq, h1, h2⟩
 ·rw [hn] at hpt
  exact Ev.bind hpt (Ev.neg (by decide) (Ev.bind (digits_bad hs h hc) (Ev.ret rfl)))
 ·rw [hq] at hpt
  refine Ev.bind hpt (Ev.pos (by omega) (Ev.pos (by omega) (Ev.pos (by omega) ?_)))
  rw [Int.toNat_natCast]
  have hx : zax (s.extract 0 q) = ints 48 w ++ c :: (r.take (q - (w.length + 1))) := by
   rw [bytesOf_extract, h, List.drop_zero, Nat.sub_zero, List.take_append, ints_len, List.take_of_length_le (by rw [ints_len]; omega)]
   congr 1
   obtain ⟨m, hm⟩ : ∃ m, q - w.length = m + 1 := ⟨q - w.length - 1, by omega⟩
   rw [hm, List.take_succ_cons]
   congr 2
   omega
  exact Ev.bind (digits_bad (ext_size s hs _ _) hx hc) (Ev.neg (by decide) (Ev.ret rfl))
theorem Decimal_bad2 {s : ByteArray} (hs : s.size ≤ 60) {w f : List Nat} {c : Int} {r : List Int} (h : zax s = ints 48 w ++ 46 :: (ints 48 f ++ c :: r)) (hw : dig w) (hf : dig f) (hc : ¬ isD c) : Ev (fun k => vinculumref02_Decimal.f k s) false := by
 unfold vinculumref02_Decimal.f
 have hsz : w.length + 1 ≤ s.size := by rw [← zaJ, h, List.length_append, ints_len, List.length_cons]; omega
 have hp := point_r s hs
 have e : fpt (zax s) 0 = (w.length : Int) := by rw [h, fpt_ints w hw]; simp [fpt]
 rw [e] at hp
 refine Ev.bind hp (Ev.pos (by omega) (Ev.pos (by omega) (Ev.pos (by omega) ?_)))
 rw [Int.toNat_natCast, wrap_succ (by omega), Int.toNat_natCast]
 have h1 := extract_front h
 rw [ints_len] at h1
 refine Ev.bind (digits_ints (ext_size s hs _ _) h1 hw) (Ev.ite (fun _ => ?_) (fun _ => Ev.ret rfl))
 have h2 := extract_back (A := ints 48 w ++ [46]) (B := ints 48 f ++ c :: r) (s := s) (by rw [h]; simp)
 have el : (ints 48 w ++ [46]).length = w.length + 1 := by simp [ints_len]
 rw [el] at h2
 exact Ev.pos (by omega) (Ev.pos (by omega) (Ev.bind (digits_bad (ext_size s hs _ _) h2 hc) (Ev.ret rfl)))
/-! ### digits divided -/
theorem divided_go {p : Nat} (hp : p = 2 ∨ p = 5) {x1 : Int} (hx : x1 = (p : Int)) : ∀ (L A B : List Nat) (r : Nat), dig L → r < p → (A ++ L).length ≤ 1000 → B.length ≤ A.length →
  Ev (fun k => vinculumref02_divided.l0 k (ints 48 (A ++ L)) x1 (ints 48 B) (r : Int) (A.length : Int)) (ints 48 (B ++ divd p L r)) := by
 subst hx
 intro L
 induction L with
 | nil =>
  intro A B r _ _ _ _
  apply Ev.succ
  simp only [vinculumref02_divided.l0]
  rw [ints_len]
  exact Ev.neg (by simp) (Ev.ret (by simp [divd]))
 | cons d L ih =>
  intro A B r hd hr hl hB
  rw [dig_cons] at hd
  have hl' : A.length + (L.length + 1) ≤ 1000 := by simpa using hl
  have hq := q_le hr hd.1
  apply Ev.succ
  simp only [vinculumref02_divided.l0]
  rw [rd_mid, ints_len, ints_len]
  have e0 : wrap64 (wrap64 (10 * (r : Int)) + (((48 + d : Nat) : Int) - 48) % 256) = ((10 * r + d : Nat) : Int) := by
   rw [wrap_id (x := 10 * _) (by rcases hp with rfl | rfl <;> omega) (by rcases hp with rfl | rfl <;> omega), wrap_id (by rcases hp with rfl | rfl <;> omega) (by rcases hp with rfl | rfl <;> omega)]
   omega
  rw [e0, show Int.tdiv ((10 * r + d : Nat) : Int) (p : Int) = (((10 * r + d) / p : Nat) : Int) from rfl, show Int.tmod ((10 * r + d : Nat) : Int) (p : Int) = (((10 * r + d) % p : Nat) : Int) from rfl]
  have e2 : (wrap64 (48 + wrap64 (((10 * r + d) / p : Nat) : Int))) % 256 = ((48 + (10 * r + d) / p : Nat) : Int) := by
   generalize (10 * r + d) / p = q at hq
   rw [wrap_id (x := (q : Int)) (by omega) (by omega), wrap_id (by omega) (by omega)]
   omega
  rw [e2, wrap_succ (by omega)]
  refine Ev.pos (by simp; omega) (Ev.pos (by omega) (Ev.neg (by omega) (Ev.pos (by omega) ?_)))
  have h := ih (A ++ [d]) (B ++ [(10 * r + d) / p]) ((10 * r + d) % p) hd.2 (Nat.mod_lt _ (by omega)) (by simp; omega) (by simp; omega)
  have e3 : (A ++ [d]) ++ L = A ++ d :: L := by simp
  have e4 : (A ++ [d]).length = A.length + 1 := by simp
  have e5 : ints 48 (B ++ [(10 * r + d) / p]) = ints 48 B ++ [((48 + (10 * r + d) / p : Nat) : Int)] := by simp [ints]
  have e6 : (B ++ [(10 * r + d) / p]) ++ divd p L ((10 * r + d) % p) = B ++ divd p (d :: L) r := by simp [divd]
  rw [e3, e4, e5, e6] at h
  exact h
theorem divided_p {p : Nat} (hp : p = 2 ∨ p = 5) {x1 : Int} (hx : x1 = (p : Int)) (l : List Nat) (hd : dig l) (hl : l.length ≤ 1000) : Ev (fun k => vinculumref02_divided.f k (ints 48 l) x1) (ints 48 (divd p l 0)) := by
 unfold vinculumref02_divided.f
 exact divided_go hp hx l [] [] 0 hd (by omega) hl (by simp)
theorem divd_ne {p : Nat} {l : List Nat} (h : l ≠ []) : divd p l 0 ≠ [] := by
 intro h0
 have := divd_len p l 0
 rw [h0] at this
 exact h (List.eq_nil_of_length_eq_zero this.symm)
theorem twos_go (x7 : Int) (res : Int × Int × Int) : ∀ (t : Nat) (l : List Nat), l ≠ [] → dig l → l.length ≤ 1000 → t ≤ 1000 → Ev (fun k => vinculumref02_reduced.j1 k (((red 2 t l).1 : Nat) : Int) x7 (ints 48 (red 2 t l).2)) res →
  Ev (fun k => vinculumref02_reduced.l0 k (t : Int) x7 (ints 48 l)) res := by
 intro t
 induction t with
 | zero =>
  intro l _ _ _ _ h
  apply Ev.succ
  simp only [vinculumref02_reduced.l0]
  exact Ev.neg (by decide) h
 | succ t ih =>
  intro l hn hd hl ht h
  obtain ⟨A, d, rfl⟩ := split_last hn
  have hlen : (A ++ [d]).length = A.length + 1 := by simp
  have hdd := (dig_app.1 hd).2 d (by simp)
  have ew : wrap64 (((ints 48 (A ++ [d])).length : Int) - 1) = (A.length : Int) := by rw [ints_len, wrap_id (by omega) (by omega)]; omega
  apply Ev.succ
  simp only [vinculumref02_reduced.l0]
  rw [ew, rd_mid, ints_len]
  have ew2 : wrap64 (((t + 1 : Nat) : Int) - 1) = (t : Int) := by rw [wrap_id (by omega) (by omega)]; omega
  rw [ew2]
  refine Ev.pos (by omega) (Ev.pos (by omega) (Ev.pos (by omega) ?_))
  have em : (((48 + d : Nat) : Int) - 48) % 256 % 2 = ((d % 2 : Nat) : Int) := by omega
  rw [em]
  have hm := last_mod A d 2 (.inl rfl)
  simp only [red] at h
  by_cases hz : d % 2 = 0
  ·rw [if_pos (by rw [hm, hz])] at h
   rw [hz]
   exact Ev.pos rfl (Ev.bind (divided_p (p := 2) (.inl rfl) rfl _ hd hl) (ih _ (divd_ne hn) (divd_dig (by omega) _ _ hd (by omega)) (by rw [divd_len]; exact hl) (by omega) h))
  ·rw [if_neg (by rw [hm]; exact hz)] at h
   exact Ev.neg (by omega) h
theorem fives_go (x6 : Int) (res : Int × Int × Int) : ∀ (t : Nat) (l : List Nat), l ≠ [] → dig l → l.length ≤ 1000 → t ≤ 1000 → Ev (fun k => vinculumref02_reduced.j3 k x6 (((red 5 t l).1 : Nat) : Int) (ints 48 (red 5 t l).2)) res →
  Ev (fun k => vinculumref02_reduced.l1 k x6 (t : Int) (ints 48 l)) res := by
 intro t
 induction t with
 | zero =>
  intro l _ _ _ _ h
  apply Ev.succ
  simp only [vinculumref02_reduced.l1]
  exact Ev.neg (by decide) h
 | succ t ih =>
  intro l hn hd hl ht h
  obtain ⟨A, d, rfl⟩ := split_last hn
  have hlen : (A ++ [d]).length = A.length + 1 := by simp
  have hdd := (dig_app.1 hd).2 d (by simp)
  have ew : wrap64 (((ints 48 (A ++ [d])).length : Int) - 1) = (A.length : Int) := by rw [ints_len, wrap_id (by omega) (by omega)]; omega
  apply Ev.succ
  simp only [vinculumref02_reduced.l1]
  rw [ew, rd_mid, ints_len]
  have ew2 : wrap64 (((t + 1 : Nat) : Int) - 1) = (t : Int) := by rw [wrap_id (by omega) (by omega)]; omega
  rw [ew2]
  refine Ev.pos (by omega) (Ev.pos (by omega) (Ev.pos (by omega) ?_))
  have em : (((48 + d : Nat) : Int) - 48) % 256 % 5 = ((d % 5 : Nat) : Int) := by omega
  rw [em]
  have hm := last_mod A d 5 (.inr rfl)
  simp only [red] at h
  by_cases hz : d % 5 = 0
  ·rw [if_pos (by rw [hm, hz])] at h
   rw [hz]
   exact Ev.pos rfl (Ev.bind (divided_p (p := 5) (.inr rfl) rfl _ hd hl) (ih _ (divd_ne hn) (divd_dig (by omega) _ _ hd (by omega)) (by rw [divd_len]; exact hl) (by omega) h))
  ·rw [if_neg (by rw [hm]; exact hz)] at h
   exact Ev.neg (by omega) h
/-! ### zeros ahead and behind -/
def strip : List Nat → List Nat
 | 0 :: d :: l => strip (d :: l)
 | l => l
theorem strip_one (a : Nat) : strip [a] = [a] := by cases a <;> rfl
theorem strip_spec : ∀ w : List Nat, w ≠ [] → dig w → strip w ≠ [] ∧ dig (strip w) ∧ vl (strip w) 0 = vl w 0 ∧ (strip w).length ≤ w.length ∧ (1 < (strip w).length → ∃ d l, strip w = d :: l ∧ d ≠ 0)
 | [], h, _ => absurd rfl h
 | [a], _, hd => by rw [strip_one]; exact ⟨by simp, hd, rfl, Nat.le_refl _, fun h => by simp at h⟩
 | 0 :: d :: l, _, hd => by
  obtain ⟨h1, h2, h3, h4, h5⟩ := strip_spec (d :: l) (by simp) (dig_cons.1 hd).2
  have e : strip (0 :: d :: l) = strip (d :: l) := rfl
  rw [e]
  exact ⟨h1, h2, by rw [h3]; simp [vl], by simp at h4 ⊢; omega, h5⟩
 | (a + 1) :: d :: l, _, hd => by
  have e : strip ((a + 1) :: d :: l) = (a + 1) :: d :: l := rfl
  rw [e]
  exact ⟨by simp, hd, rfl, Nat.le_refl _, fun _ => ⟨_, _, rfl, by omega⟩⟩
theorem head_big {d : Nat} {l : List Nat} (h : d ≠ 0) : 10 ^ l.length ≤ vl (d :: l) 0 := by
 simp only [vl]
 rw [vl_acc]
 have : 1 * 10 ^ l.length ≤ (10 * 0 + d) * 10 ^ l.length := Nat.mul_le_mul_right _ (by omega)
 omega
theorem vl_lt {l : List Nat} (h : dig l) (a : Nat) : vl l a < (a + 1) * 10 ^ l.length := by
 induction l generalizing a with
 | nil => simp [vl]
 | cons d l ih =>
  rw [dig_cons] at h
  simp only [vl, List.length_cons]
  have h1 := ih h.2 (10 * a + d)
  have h2 : (10 * a + d + 1) * 10 ^ l.length ≤ (10 * a + 10) * 10 ^ l.length := Nat.mul_le_mul_right _ (by omega)
  have h3 : (a + 1) * 10 ^ (l.length + 1) = (10 * a + 10) * 10 ^ l.length := by rw [Nat.pow_succ]; grind
  omega
theorem vl_lt0 {l : List Nat} (h : dig l) : vl l 0 < 10 ^ l.length := by have := vl_lt h 0; omega
/-- The zeros ahead are taken off. -/
theorem l2_go (x6 x7 : Int) (res : Int × Int × Int) : ∀ l : List Nat, l ≠ [] → dig l → l.length ≤ 1000 → Ev (fun k => vinculumref02_reduced.j5 k x6 x7 (ints 48 (strip l))) res → Ev (fun k => vinculumref02_reduced.l2 k x6 x7 (ints 48 l)) res
 | [], h, _, _, _ => absurd rfl h
 | [a], _, hd, hl, h => by
  rw [strip_one] at h
  apply Ev.succ
  simp only [vinculumref02_reduced.l2]
  rw [ints_len]
  exact Ev.neg (by simp) h
 | a :: d :: l, _, hd, hl, h => by
  have hd' := dig_cons.1 hd
  have e0 : rd (ints 48 (a :: d :: l)) 0 = ((48 + a : Nat) : Int) := rd_mid 48 [] a (d :: l)
  have hl' : l.length + 2 ≤ 1000 := by simpa using hl
  apply Ev.succ
  simp only [vinculumref02_reduced.l2]
  rw [e0, ints_len]
  refine Ev.pos (by simp; omega) (Ev.pos (by simp; omega) (Ev.ite (fun ha => ?_) (fun ha => ?_)))
  ·obtain rfl : a = 0 := by omega
   have e1 : (ints 48 (0 :: d :: l)).drop 1 = ints 48 (d :: l) := by simp [ints]
   rw [e1]
   exact Ev.pos (by simp; omega) (l2_go x6 x7 res (d :: l) (by simp) hd'.2 (by simp; omega) h)
  ·obtain ⟨b, rfl⟩ : ∃ b, a = b + 1 := ⟨a - 1, by omega⟩
   exact h
/-! ### the numerator, the denominator -/
theorem num_go (x6 x7 : Int) (res : Int × Int × Int) : ∀ (L A : List Nat), dig (A ++ L) → (A ++ L).length ≤ 10 → Ev (fun k => vinculumref02_reduced.l4 k x6 x7 ((vl (A ++ L) 0 : Nat) : Int) 1 0) res →
  Ev (fun k => vinculumref02_reduced.l3 k x6 x7 (ints 48 (A ++ L)) ((vl A 0 : Nat) : Int) 1 (A.length : Int)) res := by
 intro L
 induction L with
 | nil =>
  intro A hd hl h
  apply Ev.succ
  simp only [vinculumref02_reduced.l3]
  rw [ints_len]
  rw [List.append_nil] at h ⊢
  exact Ev.neg (by omega) h
 | cons d L ih =>
  intro A hd hl h
  have hdd := (dig_app.1 hd).2 d (by simp)
  have hl' : A.length + (L.length + 1) ≤ 10 := by simpa using hl
  have hb := vl_lt0 (dig_app.1 hd).1
  have hp : 10 ^ A.length ≤ 10 ^ 10 := Nat.pow_le_pow_right (by omega) (by omega)
  apply Ev.succ
  simp only [vinculumref02_reduced.l3]
  rw [rd_mid, ints_len]
  have e3 : (A ++ [d]) ++ L = A ++ d :: L := by simp
  have e4 : (A ++ [d]).length = A.length + 1 := by simp
  have e5 : vl (A ++ [d]) 0 = 10 * vl A 0 + d := by rw [vl_app]; rfl
  have e0 : wrap64 (wrap64 (10 * ((vl A 0 : Nat) : Int)) + (((48 + d : Nat) : Int) - 48) % 256) = ((vl (A ++ [d]) 0 : Nat) : Int) := by
   rw [e5]
   generalize vl A 0 = v at *
   rw [wrap_id (x := 10 * _) (by omega) (by omega), wrap_id (by omega) (by omega)]
   omega
  rw [e0, wrap_succ (by omega)]
  refine Ev.pos (by simp; omega) (Ev.pos (by omega) ?_)
  have h2 := ih (A ++ [d]) (by rw [e3]; exact hd) (by rw [e3]; exact hl) (by rw [e3]; exact h)
  rw [e3, e4] at h2
  exact h2
theorem den5_go {n t2 t5 : Nat} (hn : n < 10 ^ 10) (hg : Nat.gcd n (2 ^ t2 * 5 ^ t5) = 1) (ht : t5 ≤ 1000) : ∀ c i : Nat, i + c = t5 → 2 ^ t2 * 5 ^ i ≤ 2147483647 →
  Ev (fun k => vinculumref02_reduced.l5 k (t5 : Int) (n : Int) ((2 ^ t2 * 5 ^ i : Nat) : Int) (i : Int)) (mkR (n : Int) ((2 ^ t2 * 5 ^ t5 : Nat) : Int)) := by
 intro c
 induction c with
 | zero =>
  intro i hi hle
  obtain rfl : i = t5 := by omega
  apply Ev.succ
  simp only [vinculumref02_reduced.l5]
  generalize 2 ^ t2 * 5 ^ i = d at *
  exact Ev.neg (by omega) (Ev.bind (Make_r (by omega) (by omega)) (Ev.ret rfl))
 | succ c ih =>
  intro i hi hle
  have e : 2 ^ t2 * 5 ^ (i + 1) = 2 ^ t2 * 5 ^ i * 5 := by rw [Nat.pow_succ, Nat.mul_assoc]
  have hw : wrap64 (((2 ^ t2 * 5 ^ i : Nat) : Int) * 5) = ((2 ^ t2 * 5 ^ (i + 1) : Nat) : Int) := by
   rw [e]
   generalize 2 ^ t2 * 5 ^ i = d at *
   rw [wrap_id (by omega) (by omega)]
   omega
  apply Ev.succ
  simp only [vinculumref02_reduced.l5]
  rw [hw, wrap_succ (by omega)]
  refine Ev.pos (by omega) (Ev.ite (fun hb => Ev.ret ?_) (fun hb => ih (i + 1) (by omega) (by omega)))
  have hd : 0 < 2 ^ t2 * 5 ^ t5 := Nat.mul_pos (Nat.pow_pos (by omega)) (Nat.pow_pos (by omega))
  have hm : 2 ^ t2 * 5 ^ (i + 1) ≤ 2 ^ t2 * 5 ^ t5 := Nat.mul_le_mul_left _ (Nat.pow_le_pow_right (by omega) (by omega))
  rw [mkR_nat hd hg, if_pos (.inr (by omega))]
theorem den2_go {n t2 t5 : Nat} (hn : n < 10 ^ 10) (hg : Nat.gcd n (2 ^ t2 * 5 ^ t5) = 1) (ht : t5 ≤ 1000) (ht2 : t2 ≤ 1000) : ∀ c i : Nat, i + c = t2 → 2 ^ i ≤ 2147483647 →
  Ev (fun k => vinculumref02_reduced.l4 k (t2 : Int) (t5 : Int) (n : Int) ((2 ^ i : Nat) : Int) (i : Int)) (mkR (n : Int) ((2 ^ t2 * 5 ^ t5 : Nat) : Int)) := by
 intro c
 induction c with
 | zero =>
  intro i hi hle
  obtain rfl : i = t2 := by omega
  apply Ev.succ
  simp only [vinculumref02_reduced.l4]
  have h := den5_go hn hg ht t5 0 (by omega) (by simpa using hle)
  rw [Nat.pow_zero, Nat.mul_one] at h
  exact Ev.neg (by omega) h
 | succ c ih =>
  intro i hi hle
  have hw : wrap64 (((2 ^ i : Nat) : Int) * 2) = ((2 ^ (i + 1) : Nat) : Int) := by
   rw [Nat.pow_succ]
   generalize 2 ^ i = d at *
   rw [wrap_id (by omega) (by omega)]
   omega
  apply Ev.succ
  simp only [vinculumref02_reduced.l4]
  rw [hw, wrap_succ (by omega)]
  refine Ev.pos (by omega) (Ev.ite (fun hb => Ev.ret ?_) (fun hb => ih (i + 1) (by omega) (by omega)))
  have hd : 0 < 2 ^ t2 * 5 ^ t5 := Nat.mul_pos (Nat.pow_pos (by omega)) (Nat.pow_pos (by omega))
  have hm : 2 ^ (i + 1) ≤ 2 ^ t2 := Nat.pow_le_pow_right (by omega) (by omega)
  have hm2 : 2 ^ t2 ≤ 2 ^ t2 * 5 ^ t5 := Nat.le_mul_of_pos_right _ (Nat.pow_pos (by omega))
  rw [mkR_nat hd hg, if_pos (.inr (by omega))]
theorem reduced_r {x : ByteArray} {n : List Nat} {b : Nat} (hx : zax x = ints 48 n) (hn : n ≠ []) (hd : dig n) (hl : n.length ≤ 1000) (hb : b ≤ 1000) : Ev (fun k => vinculumref02_reduced.f k x (b : Int)) (mkR ((vl n 0 : Nat) : Int) ((10 ^ b : Nat) : Int)) := by
 obtain ⟨t2, l1, e1⟩ : ∃ t l, red 2 b n = (t, l) := ⟨_, _, rfl⟩
 obtain ⟨t5, l2, e2⟩ : ∃ t l, red 5 b l1 = (t, l) := ⟨_, _, rfl⟩
 obtain ⟨g1, g2, g3, g4, g5, g6⟩ := dec_val hd e1 e2
 have s1 := red_spec (p := 2) (by omega) b n hd
 rw [e1] at s1
 have ne : ∀ l : List Nat, l.length = n.length → l ≠ [] := by
  rintro l hll rfl
  exact hn (List.eq_nil_of_length_eq_zero hll.symm)
 have hsz : x.size = n.length := by rw [← zaJ, hx, ints_len]
 unfold vinculumref02_reduced.f
 refine Ev.pos (by omega) ?_
 rw [hx, g6]
 refine twos_go _ _ b n hn hd hl hb ?_
 rw [e1]
 apply Ev.succ
 simp only [vinculumref02_reduced.j1]
 refine fives_go _ _ b l1 (ne l1 s1.2.1) s1.1 (by rw [s1.2.1]; exact hl) hb ?_
 rw [e2]
 apply Ev.succ
 simp only [vinculumref02_reduced.j3]
 refine l2_go _ _ _ l2 (ne l2 g2) g1 (by rw [g2]; exact hl) ?_
 obtain ⟨k1, k2, k3, k4, k5⟩ := strip_spec l2 (ne l2 g2) g1
 have hd0 : 0 < 2 ^ t2 * 5 ^ t5 := Nat.mul_pos (Nat.pow_pos (by omega)) (Nat.pow_pos (by omega))
 apply Ev.succ
 simp only [vinculumref02_reduced.j5]
 rw [ints_len]
 refine Ev.ite (fun hbig => Ev.ret ?_) (fun hbig => ?_)
 ·obtain ⟨d, m, em, d0⟩ := k5 (by omega)
  have h1 := head_big (l := m) d0
  rw [← em, k3] at h1
  have h2 : 10 ^ 10 ≤ 10 ^ m.length := Nat.pow_le_pow_right (by omega) (by rw [em] at hbig; simp at hbig; omega)
  rw [mkR_nat hd0 g5, if_pos (.inl (by omega))]
 ·have h := num_go (t2 : Int) (t5 : Int) (mkR ((vl l2 0 : Nat) : Int) ((2 ^ t2 * 5 ^ t5 : Nat) : Int)) (strip l2) [] k2 (by simp; omega) ?_
  ·exact h
  ·rw [List.nil_append, k3]
   have h1 := vl_lt0 k2
   have h2 : 10 ^ (strip l2).length ≤ 10 ^ 10 := Nat.pow_le_pow_right (by omega) (by omega)
   exact den2_go (by rw [← k3]; omega) g5 (by omega) (by omega) t2 0 (by omega) (by decide)
/-! ### what is out of range -/
theorem mkR_big {a b : Nat} (hb : 0 < b) (h : 2147483648 * b ≤ a) : mkR (a : Int) (b : Int) = (0, 0, 2) := by
 rcases mkR_cases (a : Int) (b : Int) (by omega) with h1 | ⟨p, q, h1⟩
 ·exact h1
 ·exfalso
  obtain ⟨v, c⟩ := mkR_ok (by omega) h1
  have hv := vld_bounds v
  have h2 : p * (b : Int) ≤ 2147483647 * (b : Int) := Int.mul_le_mul_of_nonneg_right (by omega) (by omega)
  have h3 : (a : Int) * 1 ≤ (a : Int) * q := Int.mul_le_mul_of_nonneg_left (by omega) (by omega)
  omega
theorem mkR_deep {N b : Nat} (hN : N % 10 ≠ 0) (hb : 32 ≤ b) : mkR (N : Int) ((10 ^ b : Nat) : Int) = (0, 0, 2) := by
 have hp : 0 < 10 ^ b := Nat.pow_pos (by omega)
 rcases mkR_cases (N : Int) ((10 ^ b : Nat) : Int) (by omega) with h1 | ⟨p, q, h1⟩
 ·exact h1
 ·exfalso
  obtain ⟨v, c⟩ := mkR_ok (by omega) h1
  have hv := vld_bounds v
  have c2 : p.natAbs * 10 ^ b = N * q.natAbs := by
   have := congrArg Int.natAbs c
   rw [Int.natAbs_mul, Int.natAbs_mul, Int.natAbs_natCast, Int.natAbs_natCast] at this
   exact this
  have hdvd : 10 ^ b ∣ N * q.natAbs := ⟨p.natAbs, by rw [← c2, Nat.mul_comm]⟩
  have e10 : 10 ^ b = 2 ^ b * 5 ^ b := by rw [← Nat.mul_pow]
  have fin : ∀ p : Nat, (p = 2 ∨ p = 5) → p ^ b ∣ 10 ^ b → N % p ≠ 0 → False := by
   intro r hr hd hm
   have c3 : Nat.Coprime (r ^ b) N := Nat.Coprime.symm (Nat.Coprime.pow_right _ (cop hr hm))
   have h4 := Nat.le_of_dvd (by omega) (c3.dvd_of_dvd_mul_left (Nat.dvd_trans hd hdvd))
   have h5 : 2 ^ 32 ≤ 2 ^ b := Nat.pow_le_pow_right (by omega) hb
   have h6 : 2 ^ b ≤ r ^ b := Nat.pow_le_pow_left (by omega) b
   omega
  by_cases h2 : N % 2 = 0
  ·exact fin 5 (.inr rfl) ⟨2 ^ b, by rw [e10, Nat.mul_comm]⟩ (by omega)
  ·exact fin 2 (.inl rfl) ⟨5 ^ b, e10⟩ h2
/-! ### the document's parser -/
theorem zeros_behind : ∀ (n : Nat) (f : List Nat), f.length ≤ n → ∃ g z, f = g ++ List.replicate z 0 ∧ (g = [] ∨ ∃ h d, g = h ++ [d] ∧ d ≠ 0) := by
 intro n
 induction n with
 | zero =>
  intro f hf
  obtain rfl : f = [] := List.eq_nil_of_length_eq_zero (by omega)
  exact ⟨[], 0, rfl, .inl rfl⟩
 | succ n ih =>
  intro f hf
  by_cases h0 : f = []
  ·subst h0; exact ⟨[], 0, rfl, .inl rfl⟩
  ·obtain ⟨A, d, rfl⟩ := split_last h0
   by_cases hd : d = 0
   ·obtain ⟨g, z, hg, hh⟩ := ih A (by simp at hf; omega)
    exact ⟨g, z + 1, by rw [hd, hg, List.replicate_succ', List.append_assoc], hh⟩
   ·exact ⟨A ++ [d], 0, by simp, .inr ⟨A, d, rfl, hd⟩⟩
theorem l1_zeros (x4 : ByteArray) (res : Int × Int × Int) (g : List Nat) : ∀ (z : Nat) (x5 : ByteArray), x5.size ≤ 60 → zax x5 = ints 48 (g ++ List.replicate z 0) → (∀ y, y.size ≤ 60 → zax y = ints 48 g → Ev (fun k => vinculumref02_Parse.l1 k x4 y) res) → Ev (fun k => vinculumref02_Parse.l1 k x4 x5) res := by
 intro z
 induction z with
 | zero => intro x5 hs hb h; exact h x5 hs (by simpa using hb)
 | succ z ih =>
  intro x5 hs hb h
  have hb' : zax x5 = ints 48 (g ++ List.replicate z 0) ++ [48] := by rw [hb, List.replicate_succ', ← List.append_assoc, ints_app]; rfl
  have hsz : x5.size = (g ++ List.replicate z 0).length + 1 := by rw [← zaJ, hb', List.length_append, ints_len]; rfl
  have ew : wrap64 ((x5.size : Int) - 1) = (((g ++ List.replicate z 0).length : Nat) : Int) := by rw [wrap_id (by omega) (by omega)]; omega
  have ec := bt_app hb'
  rw [ints_len] at ec
  apply Ev.succ
  simp only [vinculumref02_Parse.l1]
  rw [ew, ec, Int.toNat_natCast]
  have hx := extract_front hb'
  rw [ints_len] at hx
  exact Ev.pos (by omega) (Ev.pos (by omega) (Ev.pos (by omega) (Ev.pos rfl (Ev.pos (by omega) (ih _ (ext_size x5 hs _ _) hx h)))))
theorem l1_end {x4 y : ByteArray} {w g : List Nat} (hs : y.size ≤ 60) (hs4 : x4.size ≤ 60) (hw : zax x4 = ints 48 w) (hg : zax y = ints 48 g) (hwd : dig w) (hgd : dig g) (hw0 : w ≠ []) (hw1 : 1 < w.length → ∃ d l, w = d :: l ∧ d ≠ 0) (hg0 : g = [] ∨ ∃ h d, g = h ++ [d] ∧ d ≠ 0) :
  Ev (fun k => vinculumref02_Parse.l1 k x4 y) (mkR ((vl (w ++ g) 0 : Nat) : Int) ((10 ^ g.length : Nat) : Int)) := by
 have hz4 : x4.size = w.length := by rw [← zaJ, hw, ints_len]
 have hzy : y.size = g.length := by rw [← zaJ, hg, ints_len]
 have hp : 0 < 10 ^ g.length := Nat.pow_pos (by omega)
 have key : Ev (fun k => if (x4.size : Int) > 10 then (some ((0 : Int), (0 : Int), (2 : Int))) else (if (y.size : Int) > 31 then (some (0, 0, 2)) else (if x4.size + y.size ≤ 9223372036854775807 then ((vinculumref02_reduced.f k (x4 ++ y) (y.size : Int)).bind fun bt518 => (some (bt518.1, bt518.2.1, bt518.2.2))) else (none)))) (mkR ((vl (w ++ g) 0 : Nat) : Int) ((10 ^ g.length : Nat) : Int)) := by
  refine Ev.ite (fun h1 => Ev.ret ?_) (fun h1 => Ev.ite (fun h2 => Ev.ret ?_) (fun h2 => Ev.pos (by omega) ?_))
  ·obtain ⟨d, l, rfl, d0⟩ := hw1 (by omega)
   have hh := head_big (l := l) d0
   have h3 : 10 ^ 10 ≤ 10 ^ l.length := Nat.pow_le_pow_right (by omega) (by simp at hz4; omega)
   rw [mkR_big hp]
   rw [vl_app, vl_acc]
   have h4 : 2147483648 * 10 ^ g.length ≤ vl (d :: l) 0 * 10 ^ g.length := Nat.mul_le_mul_right _ (by omega)
   omega
  ·rcases hg0 with rfl | ⟨h, d, rfl, d0⟩
   ·rw [List.length_nil] at hzy; omega
   ·have hdd := (dig_app.1 hgd).2 d (by simp)
    rw [mkR_deep ?_ (by omega)]
    rw [← List.append_assoc, vl_app]
    simp only [vl]
    omega
  ·rw [hzy]
   exact Ev.bind (reduced_r (n := w ++ g) (b := g.length) (by rw [bytesOf_app, hw, hg, ints_app]) (by simp [hw0]) (dig_app.2 ⟨hwd, hgd⟩) (by rw [List.length_append]; omega) (by omega)) (Ev.ret rfl)
 apply Ev.succ
 simp only [vinculumref02_Parse.l1]
 refine Ev.ite (fun h => ?_) (fun h => key)
 rcases hg0 with rfl | ⟨q, d, rfl, d0⟩
 ·rw [List.length_nil] at hzy; omega
 ·have hdd := (dig_app.1 hgd).2 d (by simp)
  have hl : (q ++ [d]).length = q.length + 1 := by simp
  have ew : wrap64 ((y.size : Int) - 1) = (q.length : Int) := by rw [wrap_id (by omega) (by omega)]; omega
  have hb : zax y = ints 48 q ++ ((48 + d : Nat) : Int) :: [] := by rw [hg, ints_app]; rfl
  have ec := bt_app hb
  rw [ints_len] at ec
  rw [ew, ec]
  exact Ev.pos (by omega) (Ev.pos (by omega) (Ev.neg (by omega) key))
theorem vl_zeros (z a : Nat) : vl (List.replicate z 0) a = a * 10 ^ z := by
 induction z generalizing a with
 | zero => simp [vl]
 | succ z ih =>
  rw [List.replicate_succ]
  simp only [vl]
  rw [ih, Nat.pow_succ]
  grind
/-- The parts, once they are told. -/
theorem parts_r {x4 x5 : ByteArray} {w f : List Nat} (hs4 : x4.size ≤ 60) (hs5 : x5.size ≤ 60) (h4 : zax x4 = ints 48 w) (h5 : zax x5 = ints 48 f) (hw : dig w) (hf : dig f) (hw0 : w ≠ []) (hw1 : 1 < w.length → ∃ d l, w = d :: l ∧ d ≠ 0) :
  Ev (fun k => vinculumref02_Parse.j3 k x4 x5) (mkR ((vl (w ++ f) 0 : Nat) : Int) ((10 ^ f.length : Nat) : Int)) := by
 obtain ⟨g, z, hg, hh⟩ := zeros_behind f.length f (Nat.le_refl _)
 have hgd : dig g := by rw [hg] at hf; exact (dig_app.1 hf).1
 apply Ev.succ
 simp only [vinculumref02_Parse.j3]
 have e : mkR ((vl (w ++ f) 0 : Nat) : Int) ((10 ^ f.length : Nat) : Int) = mkR ((vl (w ++ g) 0 : Nat) : Int) ((10 ^ g.length : Nat) : Int) := by
  have p1 : 0 < 10 ^ f.length := Nat.pow_pos (by omega)
  have p2 : 0 < 10 ^ g.length := Nat.pow_pos (by omega)
  refine mkR_same (by omega) (by omega) ?_
  have e1 : vl (w ++ f) 0 = vl (w ++ g) 0 * 10 ^ z := by rw [hg, ← List.append_assoc, vl_app, vl_zeros]
  have e2 : f.length = g.length + z := by rw [hg]; simp
  have : vl (w ++ f) 0 * 10 ^ g.length = vl (w ++ g) 0 * 10 ^ f.length := by
   rw [e1, e2, Nat.pow_add]
   generalize 10 ^ z = a
   generalize 10 ^ g.length = b
   ac_rfl
  have := congrArg (fun n : Nat => (n : Int)) this
  simpa using this
 rw [e]
 exact l1_zeros x4 _ g z x5 hs5 (by rw [h5, hg]) (fun y hy hb => l1_end hy hs4 h4 hb hw hgd hw0 hw1 hh)
theorem strip_go (res : Int × Int × Int) (t : List Int) (ht : t = [] ∨ ∃ f, t = 46 :: f) : ∀ (w : List Nat) (s : ByteArray), s.size ≤ 60 → zax s = ints 48 w ++ t → w ≠ [] → dig w → (∀ y, y.size ≤ 60 → zax y = ints 48 (strip w) ++ t → Ev (fun k => vinculumref02_Parse.j2 k y) res) → Ev (fun k => vinculumref02_Parse.l0 k s) res
 | [], _, _, _, h, _, _ => absurd rfl h
 | [a], s, hs, hb, _, hd, h => by
  rw [strip_one] at h
  have hj := h s hs hb
  have hb' : zax s = [] ++ ((48 + a : Nat) : Int) :: t := by rw [hb]; rfl
  have e0 := bt_app hb'
  simp only [List.length_nil] at e0
  have e0' : bt s 0 = ((48 + a : Nat) : Int) := e0
  apply Ev.succ
  simp only [vinculumref02_Parse.l0]
  refine Ev.ite (fun h1 => Ev.pos (by omega) (Ev.ite (fun h2 => Ev.pos (by omega) ?_) (fun _ => hj))) (fun _ => hj)
  rcases ht with rfl | ⟨f, rfl⟩
  ·have : s.size = 1 := by rw [← zaJ, hb]; simp [ints]
   omega
  ·have e1 := bt_app (A := [((48 + a : Nat) : Int)]) (x := 46) (L := f) (s := s) (by rw [hb]; rfl)
   have e1' : bt s 1 = 46 := e1
   exact Ev.pos e1' hj
 | a :: d :: l, s, hs, hb, _, hd, h => by
  have hd' := dig_cons.1 hd
  have hdd := (dig_cons.1 hd'.2).1
  have hsz : 2 ≤ s.size := by rw [← zaJ, hb]; simp [ints]
  have e0 : bt s 0 = ((48 + a : Nat) : Int) := bt_app (A := []) (L := ints 48 (d :: l) ++ t) (by rw [hb]; simp [ints])
  have e1 : bt s 1 = ((48 + d : Nat) : Int) := bt_app (A := [((48 + a : Nat) : Int)]) (L := ints 48 l ++ t) (by rw [hb]; simp [ints])
  apply Ev.succ
  simp only [vinculumref02_Parse.l0]
  rw [e0, e1]
  refine Ev.pos (by omega) (Ev.pos (by omega) (Ev.ite (fun ha => Ev.pos (by omega) (Ev.neg (by omega) (Ev.pos (by omega) ?_))) (fun ha => ?_)))
  ·obtain rfl : a = 0 := by omega
   have hx := extract_back (A := [((48 + 0 : Nat) : Int)]) (B := ints 48 (d :: l) ++ t) (s := s) (by rw [hb]; simp [ints])
   exact strip_go res t ht (d :: l) (s.extract 1 s.size) (ext_size s hs _ _) hx (by simp) hd'.2 h
  ·obtain ⟨b, rfl⟩ : ∃ b, a = b + 1 := ⟨a - 1, by omega⟩
   exact h s hs hb
theorem Parse_whole {s : ByteArray} (hs : s.size ≤ 60) {w : List Nat} (hb : zax s = ints 48 w) (hw : dig w) (hw0 : w ≠ []) : Ev (fun k => vinculumref02_Parse.l0 k s) (mkR ((vl w 0 : Nat) : Int) ((10 ^ 0 : Nat) : Int)) := by
 refine strip_go _ [] (.inl rfl) w s hs (by simpa using hb) hw0 hw (fun y hy hyb => ?_)
 obtain ⟨k1, k2, k3, k4, k5⟩ := strip_spec w hw0 hw
 rw [List.append_nil] at hyb
 apply Ev.succ
 simp only [vinculumref02_Parse.j2]
 have hp := point_r y hy
 have e : fpt (zax y) 0 = -1 := by have := fpt_ints (strip w) k2 [] 0; rw [List.append_nil] at this; rw [hyb, this]; rfl
 rw [e] at hp
 refine Ev.bind hp (Ev.neg (by decide) ?_)
 have h := parts_r (x4 := y) (x5 := (⟨#[]⟩ : ByteArray)) (w := strip w) (f := []) hy (by decide) hyb (by simp [zax, ints]) k2 (by simp [dig]) k1 k5
 rw [List.append_nil, k3] at h
 exact h
theorem Parse_frac {s : ByteArray} (hs : s.size ≤ 60) {w f : List Nat} (hb : zax s = ints 48 w ++ 46 :: ints 48 f) (hw : dig w) (hf : dig f) (hw0 : w ≠ []) : Ev (fun k => vinculumref02_Parse.l0 k s) (mkR ((vl (w ++ f) 0 : Nat) : Int) ((10 ^ f.length : Nat) : Int)) := by
 refine strip_go _ (46 :: ints 48 f) (.inr ⟨_, rfl⟩) w s hs hb hw0 hw (fun y hy hyb => ?_)
 obtain ⟨k1, k2, k3, k4, k5⟩ := strip_spec w hw0 hw
 have hsz : y.size = (strip w).length + 1 + f.length := by rw [← zaJ, hyb]; simp [ints_len]; omega
 apply Ev.succ
 simp only [vinculumref02_Parse.j2]
 have hp := point_r y hy
 have e : fpt (zax y) 0 = ((strip w).length : Int) := by rw [hyb, fpt_ints _ k2]; simp [fpt]
 rw [e] at hp
 refine Ev.bind hp (Ev.pos (by omega) (Ev.pos (by omega) (Ev.pos (by omega) ?_)))
 rw [wrap_succ (by omega), Int.toNat_natCast, Int.toNat_natCast]
 refine Ev.pos (by omega) (Ev.pos (by omega) ?_)
 have h1 := extract_front hyb
 rw [ints_len] at h1
 have h2 := extract_back (A := ints 48 (strip w) ++ [46]) (B := ints 48 f) (s := y) (by rw [hyb]; simp)
 have el : (ints 48 (strip w) ++ [46]).length = (strip w).length + 1 := by simp [ints_len]
 rw [el] at h2
 have h := parts_r (ext_size y hy _ _) (ext_size y hy _ _) h1 h2 k2 hf k1 k5
 have ev : vl (strip w ++ f) 0 = vl (w ++ f) 0 := by rw [vl_app, k3, ← vl_app]
 rw [ev] at h
 exact h
theorem Parse_j0 {s : ByteArray} (h : s.size ≤ 60) (b : Bool) (r : Int × Int × Int) (hr : b = false → s.size ≤ 40 → Ev (fun k => vinculumref02_Parse.l0 k s) r) (hbad : (b = true ∨ s.size > 40) → r = (0, 0, 3)) (hd : Ev (fun k => vinculumref02_Decimal.f k s) (!b)) : Ev (fun k => vinculumref02_Parse.f k s) r := by
 have key : ∀ c : Bool, (c = true → r = (0, 0, 3)) → (c = false → Ev (fun k => vinculumref02_Parse.l0 k s) r) → Ev (fun k => vinculumref02_Parse.j0 k s c) r := by
  intro c h1 h2
  apply Ev.succ
  simp only [vinculumref02_Parse.j0]
  exact Ev.ite (fun hc => Ev.ret (h1 hc).symm) (fun hc => h2 (by simpa using hc))
 unfold vinculumref02_Parse.f
 refine Ev.ite (fun h1 => key true (fun _ => hbad (.inr (by omega))) (fun h => by cases h)) (fun h1 => Ev.bind hd ?_)
 rw [Bool.not_not]
 exact key b (fun hb => hbad (.inl hb)) (fun hb => hr hb (by omega))
/-- The program's answer and the document's. -/
theorem parse_both {s : ByteArray} (hs : s.size ≤ 60) : ∃ r, Ev (fun k => rational_Parse.f k s) r ∧ Ev (fun k => vinculumref02_Parse.f k s) r := by
 rcases dec_cases (zax s) with ⟨w, h, hw⟩ | ⟨w, f, h, hw, hf⟩ | ⟨w, c, r, h, hw, hc, hp⟩ | ⟨w, f, c, r, h, hw, hf, hc⟩
 ·have hsz : s.size = w.length := by rw [← zaJ, h, ints_len]
  have hsp := split_whole hs h hw
  have hdc := Decimal_whole hs h hw
  by_cases hb : w = [] ∨ w.length > 40
  ·rw [if_pos hb] at hsp
   refine ⟨(0, 0, 3), Parse_fail hsp, Parse_j0 hs (decide (w = [])) _ (fun h1 h2 => ?_) (fun _ => rfl) (by simpa using hdc)⟩
   rcases hb with hb | hb
   ·simp [hb] at h1
   ·omega
  ·rw [if_neg hb] at hsp
   have hw0 : w ≠ [] := fun h0 => hb (.inl h0)
   refine ⟨_, Parse_ok (b := 0) hw0 hw (by omega) (by omega) hsp, Parse_j0 hs false _ (fun _ _ => Parse_whole hs h hw hw0) (fun hh => ?_) (by simpa [hw0] using hdc)⟩
   rcases hh with hh | hh
   ·cases hh
   ·omega
 ·have hsz : s.size = w.length + 1 + f.length := by rw [← zaJ, h]; simp [ints_len]; omega
  have hsp := split_frac hs h hw hf
  have hdc := Decimal_frac hs h hw hf
  by_cases hb : w = [] ∨ f = [] ∨ w.length + 1 + f.length > 40
  ·rw [if_pos hb] at hsp
   refine ⟨(0, 0, 3), Parse_fail hsp, Parse_j0 hs (!(decide (w ≠ []) && decide (f ≠ []))) _ (fun h1 h2 => ?_) (fun _ => rfl) (by rw [Bool.not_not]; exact hdc)⟩
   rcases hb with hb | hb | hb
   ·simp [hb] at h1
   ·simp [hb] at h1
   ·omega
  ·rw [if_neg hb] at hsp
   have hw0 : w ≠ [] := fun h0 => hb (.inl h0)
   have hf0 : f ≠ [] := fun h0 => hb (.inr (.inl h0))
   refine ⟨_, Parse_ok (D := w ++ f) (b := f.length) (by simp [hw0]) (dig_app.2 ⟨hw, hf⟩) (by rw [List.length_append]; omega) (by omega) hsp, Parse_j0 hs false _ (fun _ _ => Parse_frac hs h hw hf hw0) (fun hh => ?_) (by simpa [hw0, hf0] using hdc)⟩
   rcases hh with hh | hh
   ·cases hh
   ·exact absurd (.inr (.inr (by omega))) hb
 ·exact ⟨(0, 0, 3), Parse_fail (split_bad1 hs h hw hc hp), Parse_j0 hs true _ (fun h1 _ => by cases h1) (fun _ => rfl) (Decimal_bad1 hs h hw hc hp)⟩
 ·exact ⟨(0, 0, 3), Parse_fail (split_bad2 hs h hw hf hc), Parse_j0 hs true _ (fun h1 _ => by cases h1) (fun _ => rfl) (Decimal_bad2 hs h hw hf hc)⟩
end Go.Proofs.YtoieknocpphjoaaDoor.P
