/- Written by wip/tool/hprint.py (the kit's print.py with hand-proved contracts set in): contracts of the functions that the statements of this seat reach, without conditions beyond those named in each theorem. -/
import Derived.Test.YtnnhhkjcjkinpaaP0
import Derived.Test.YtnnhhkjcjkinpaaP1
import Derived.Test.YtnnhhkjcjkinpaaP3
import Derived.Test.YtnnhhkjcjkinpaaP4
import Derived.Test.YtnnhhkjcjkinpaaP14
import Derived.Lib.Hide
namespace Go.Proofs.Ytnnhhkjcjkinpaa.P
open Go.RowKit Go.Proofs.YtnnhhkjcjkinpaaW.PrintWords Go.Proofs.YtnnhhkjcjkinpaaW.PrintLast Go.Proofs.YtnnhhkjcjkinpaaW.PrintMore
attribute [local go_sem] max2_int min2_int max_two min_two max_three min_three max_four min_four   -- for this text's walks alone
set_option linter.unusedVariables false
set_option linter.unusedSimpArgs false

-- IMPORTS: Derived.Lib.Hide

/-! ### Equal -/
def eqB (x y : S28) : Bool := (x.f0 == y.f0) && ((x.f1.toList == y.f1.toList) && ((x.f2 == y.f2) && ((x.f3 == y.f3) && ((x.f4 == y.f4) && ((x.f5 == y.f5) && ((x.f6 == y.f6) && ((x.f7 == y.f7) && ((x.f9 == y.f9) && (decide (x.f10 = y.f10) && (decide (x.f8.length = y.f8.length) && (x.f8.attach.zip y.f8).all (fun p => eqB p.1.1 p.2)))))))))))
termination_by SizeOf.sizeOf x
decreasing_by
  have h := List.sizeOf_lt_of_mem p.1.2
  cases x
  simp at h ⊢
  omega
def eqK (l m : List S28) : Bool := decide (l.length = m.length) && (l.zip m).all (fun p => eqB p.1 p.2)
theorem eqB_eq (x y : S28) : eqB x y = ((x.f0 == y.f0) && ((x.f1.toList == y.f1.toList) && ((x.f2 == y.f2) && ((x.f3 == y.f3) && ((x.f4 == y.f4) && ((x.f5 == y.f5) && ((x.f6 == y.f6) && ((x.f7 == y.f7) && ((x.f9 == y.f9) && (decide (x.f10 = y.f10) && eqK x.f8 y.f8)))))))))) := by
  have h : (x.f8.attach.zip y.f8).all (fun p => eqB p.1.1 p.2) = (x.f8.zip y.f8).all (fun p => eqB p.1 p.2) := by
    have h2 : x.f8.zip y.f8 = (x.f8.attach.zip y.f8).map (Prod.map Subtype.val id) := by
      rw [← List.zip_map, List.map_id, List.attach_map_subtype_val]
    rw [h2, List.all_map]
    rfl
  rw [eqB, h]
  rfl
theorem eqK_bad {l m : List S28} (k : Nat) (h : k < l.length) (h2 : k < m.length) (hb : eqB l[k] m[k] = false) : eqK l m = false := by
  have : (l.zip m).all (fun p => eqB p.1 p.2) = false := by
    rw [List.all_eq_false]
    exact ⟨(l[k], m[k]), by rw [← List.getElem_zip (h := by simp; omega)]; exact List.getElem_mem _, by simp [hb]⟩
  unfold eqK
  rw [this]
  simp
theorem eqK_all {l m : List S28} (hl : l.length = m.length) (h : ∀ j, ∀ (h1 : j < l.length) (h2 : j < m.length), eqB l[j] m[j] = true) : eqK l m = true := by
  unfold eqK
  rw [decide_eq_true hl, Bool.true_and, List.all_eq_true]
  intro p hp
  obtain ⟨j, hj, rfl⟩ := List.getElem_of_mem hp
  rw [List.getElem_zip]
  exact h j _ _
theorem loop_eqI (l m : List Int) (hl : l.length = m.length) (hm : l.length ≤ 9223372036854775807) : ∀ d i : Nat, i + d = l.length → slices_Equal_int_int.l0 (d + 1) l m (l.length : Int) (i : Int) = some (decide (l.drop i = m.drop i)) := by
  intro d
  induction d with
  | zero =>
    intro i hi
    obtain rfl : i = l.length := by omega
    unfold slices_Equal_int_int.l0
    rw [if_neg (by omega), List.drop_eq_nil_of_le (Nat.le_refl _), List.drop_eq_nil_of_le (by omega)]
    rfl
  | succ d ih =>
    intro i hi
    have hil : i < l.length := by omega
    have him : i < m.length := by omega
    unfold slices_Equal_int_int.l0
    rw [if_pos (by omega), if_pos (by omega), if_pos (by omega), if_pos (by omega), rd_nat l i hil, rd_nat m i him, List.drop_eq_getElem_cons hil, List.drop_eq_getElem_cons him]
    by_cases h : l[i] = m[i]
    · rw [if_pos h, show wrap64 ((i : Int) + 1) = ((i + 1 : Nat) : Int) by unfold wrap64; omega, ih (i + 1) (by omega), h]
      refine congrArg some (decide_eq_decide.2 ⟨fun e => by rw [e], fun e => (List.cons.inj e).2⟩)
    · rw [if_neg h, decide_eq_false]
      exact fun e => h (List.cons.inj e).1
theorem eqInts_any (A : Option Addr) (c : Nat) (l : List Int) (B : Option Addr) (d : Nat) (m : List Int) (w : World) (hr0 : (Kd.int .i64).C w A l.length l) (hc0 : l.length ≤ c) (hr1 : (Kd.int .i64).C w B m.length m) (hc1 : m.length ≤ d) :
    Calls Try.prog 49 #[.slice A l.length c, .slice B m.length d] w fun e w' => e = .returned (.bool (decide (l = m))) ∧ Below w.heap.size w w' := by
  have hf : slices_Equal_int_int.f (l.length + 1) l m = some (decide (l = m)) := by
    unfold slices_Equal_int_int.f
    by_cases h : l.length = m.length
    · rw [if_pos (by omega)]
      have := loop_eqI l m h hr0.2.1 l.length 0 (by omega)
      simpa using this
    · rw [if_neg (by omega), decide_eq_false (fun e => h (by rw [e]))]
  exact (slices_Equal_int_int.calls (l.length + 1) A c l B d m _ w hr0 hc0 hr1 hc1 hf).mono fun e w' ⟨h1, h2⟩ => ⟨h1, by obtain ⟨n, rfl⟩ := h2; exact pw_below_drewN (Below.refl _ _) n⟩
def EqCalls (x : S28) : Prop := ∀ (y : S28) (A8 : Option Addr) (c8 : Nat) (A10 : Option Addr) (c10 : Nat) (B8 : Option Addr) (d8 : Nat) (B10 : Option Addr) (d10 : Nat) (w : World), k28.C w A8 x.f8.length x.f8 → x.f8.length ≤ c8 → (Kd.int .i64).C w A10 x.f10.length x.f10 → x.f10.length ≤ c10 → k28.C w B8 y.f8.length y.f8 → y.f8.length ≤ d8 → (Kd.int .i64).C w B10 y.f10.length y.f10 → y.f10.length ≤ d10 → 
    Calls Try.prog 27 #[.agg #[.int .i64 x.f0, .string x.f1, .int .i64 x.f2, .int .i64 x.f3, .int .i64 x.f4, .int .i64 x.f5, .int .i64 x.f6, .int .i64 x.f7, .slice A8 x.f8.length c8, .int .i64 x.f9, .slice A10 x.f10.length c10], .agg #[.int .i64 y.f0, .string y.f1, .int .i64 y.f2, .int .i64 y.f3, .int .i64 y.f4, .int .i64 y.f5, .int .i64 y.f6, .int .i64 y.f7, .slice B8 y.f8.length d8, .int .i64 y.f9, .slice B10 y.f10.length d10]] w fun e w' => e = .returned (.bool (eqB x y)) ∧ Below w.heap.size w w'

set_option maxRecDepth 100000 in
set_option maxHeartbeats 2000000 in
theorem equalFunc_kids (l m : List S28) (A : Option Addr) (c : Nat) (B : Option Addr) (d : Nat) (w : World) (hl : k28.C w A l.length l) (hm : k28.C w B m.length m) (ih : ∀ k, ∀ h : k < l.length, EqCalls l[k]) :
    Calls Try.prog 50 #[.slice A l.length c, .slice B m.length d, .func (.func 27) #[] #[]] w fun e w' => e = .returned (.bool (eqK l m)) ∧ Below w.heap.size w w' := by
  have hu := Try.underlying28
  have HL := Lib.hid hl
  have HM := Lib.hid hm
  have hlm : l.length ≤ 9223372036854775807 := hl.2.1
  clear hl hm
  have IH := Lib.hid ih
  clear ih
  by_cases hlen : l.length = m.length
  · have HLEN := Lib.hid hlen
    have hlen' : (l.length == m.length) = true := by simpa using hlen
    have hlen2 : (l.length != m.length) = false := by simpa using hlen
    have hlen3 : ((l.length : Int) != (m.length : Int)) = false := by simp [hlen]
    clear hlen
    go_enter Try.func50, Try.ntmps50
    go_wp2
    go_loopw [7, 8, 9, 17] (fun _ _ _ i w' => ∃ k : Nat, k ≤ l.length ∧ i = .int .i64 k ∧ Aside0 (∀ j, ∀ (h1 : j < l.length) (h2 : j < m.length), j < k → eqB l[j] m[j] = true) ∧ Aside0 (Below w.heap.size w w')) (fun _ _ _ i _ => l.length - (intOf i).toNat)
    case atStart => exact ⟨0, Nat.zero_le _, rfl, ⟨fun j _ _ hj => by omega⟩, ⟨Below.refl _ _⟩⟩
    case round =>
      obtain ⟨k, hk, rfl, HA, HB⟩ := hrel
      by_cases hlt : k < l.length
      · have hltm : k < m.length := by have := HLEN.out; omega
        obtain ⟨ad, e, A8, c8, A10, c10, hx⟩ := kid_at HL.out k hlt
        obtain ⟨bd, e2, B8, d8, B10, d10, hy⟩ := kid_at HM.out k hltm
        subst e e2
        have HX := Lib.hid (hx.below HB.out)
        have HY := Lib.hid (hy.below HB.out)
        clear hx hy
        have HZ := Lib.hid (HB.out.size)
        obtain ⟨p0, p1, p2, p3, p4, p5, p6, p7, p8, p9, p10, -, -, -, -⟩ := HX.out
        have HY1 := Lib.hid (fun o => HY.out.below (below_alloc (Below.refl _ wr) o))
        have q0 := fun o => (HY1.out o).1
        have q1 := fun o => (HY1.out o).2.1
        have q2 := fun o => (HY1.out o).2.2.1
        have q3 := fun o => (HY1.out o).2.2.2.1
        have q4 := fun o => (HY1.out o).2.2.2.2.1
        have q5 := fun o => (HY1.out o).2.2.2.2.2.1
        have q6 := fun o => (HY1.out o).2.2.2.2.2.2.1
        have q7 := fun o => (HY1.out o).2.2.2.2.2.2.2.1
        have q8 := fun o => (HY1.out o).2.2.2.2.2.2.2.2.1
        have q9 := fun o => (HY1.out o).2.2.2.2.2.2.2.2.2.1
        have q10 := fun o => (HY1.out o).2.2.2.2.2.2.2.2.2.2.1
        have HXX := Lib.hid (fun o o2 => HX.out.below (below_alloc (below_alloc (Below.refl _ wr) o) o2))
        have HYY := Lib.hid (fun o o2 => HY.out.below (below_alloc (below_alloc (Below.refl _ wr) o) o2))
        have HC := Lib.hid (show ∀ o o2 : Obj, Calls Try.prog 27 #[.agg #[.int .i64 l[k].f0, .string l[k].f1, .int .i64 l[k].f2, .int .i64 l[k].f3, .int .i64 l[k].f4, .int .i64 l[k].f5, .int .i64 l[k].f6, .int .i64 l[k].f7, .slice A8 l[k].f8.length c8, .int .i64 l[k].f9, .slice A10 l[k].f10.length c10], .agg #[.int .i64 m[k].f0, .string m[k].f1, .int .i64 m[k].f2, .int .i64 m[k].f3, .int .i64 m[k].f4, .int .i64 m[k].f5, .int .i64 m[k].f6, .int .i64 m[k].f7, .slice B8 m[k].f8.length d8, .int .i64 m[k].f9, .slice B10 m[k].f10.length d10]] ((wr.alloc o).alloc o2) (fun e w' => e = .returned (.bool (eqB l[k] m[k])) ∧ Below ((wr.alloc o).alloc o2).heap.size ((wr.alloc o).alloc o2) w') from fun o o2 => by
          obtain ⟨-, -, -, -, -, -, -, -, -, -, -, a1, a2, a3, a4⟩ := HXX.out o o2
          obtain ⟨-, -, -, -, -, -, -, -, -, -, -, b1, b2, b3, b4⟩ := HYY.out o o2
          exact IH.out k hlt m[k] A8 c8 A10 c10 B8 d8 B10 d10 _ a2 a1 a4 a3 b2 b1 b4 b3)
        have HBW := Lib.hid (fun o o2 => below_alloc (below_alloc (Below.refl wr.heap.size wr) o) o2)
        cases hb : eqB l[k] m[k] with
        | false =>
          have HF := Lib.hid (eqK_bad k hlt hltm hb)
          have HE := Lib.hid hb
          clear hb
          go_wp2_with (go_at_call 27; refine (HC.out _ _).mono ?_; rw [HE.out]; rintro e w1 ⟨rfl, hb1⟩)
          go_ret
          exact ⟨ret_bool HF.out.symm, below_then HB.out HB.out.size ((HBW.out _ _).trans (hb1.mono (by simp; omega)))⟩
        | true =>
          have HE := Lib.hid hb
          clear hb
          go_wp2_with (go_at_call 27; refine (HC.out _ _).mono ?_; rw [HE.out]; rintro e w1 ⟨rfl, hb1⟩)
          refine ⟨⟨k + 1, by omega, by go_num, ⟨?_⟩, ⟨below_then HB.out HB.out.size ((HBW.out _ _).trans (hb1.mono (by simp; omega)))⟩⟩, by simp [intOf]; omega⟩
          intro j h1 h2 hj
          by_cases e : j = k
          · subst e; exact HE.out
          · exact HA.out j h1 h2 (by omega)
      · obtain rfl : k = l.length := by omega
        have HF := Lib.hid (eqK_all HLEN.out (fun j h1 h2 => HA.out j h1 h2 h1))
        go_wp2_with fail
        go_ret
        exact ⟨ret_bool HF.out.symm, HB.out⟩
  · have hlen' : (l.length == m.length) = false := by simpa using hlen
    have hlen2 : (l.length != m.length) = true := by simpa using hlen
    have HF := Lib.hid (show eqK l m = false by unfold eqK; rw [decide_eq_false hlen]; rfl)
    clear hlen
    go_enter Try.func50, Try.ntmps50
    go_wp2
    go_ret
    exact ⟨ret_bool HF.out.symm, Below.refl _ _⟩

set_option maxRecDepth 100000 in
set_option maxHeartbeats 4000000 in
theorem equal_box : ∀ (s : Nat) (x : S28), SizeOf.sizeOf x ≤ s → EqCalls x := by
  intro s
  induction s with
  | zero => intro x hx; exfalso; cases x; simp at hx
  | succ s ihs =>
  intro x hx y A8 c8 A10 c10 B8 d8 B10 d10 w x8 lx8 x10 lx10 y8 ly8 y10 ly10
  have hu := Try.underlying28
  have hE := eqB_eq x y
  have HSE := Lib.hid (fun o o2 => eqInts_any A10 c10 x.f10 B10 d10 y.f10 ((w.alloc o).alloc o2) (Kd.C_below x10 (below_alloc (below_alloc (Below.refl _ w) o) o2)) lx10 (Kd.C_below y10 (below_alloc (below_alloc (Below.refl _ w) o) o2)) ly10)
  have HKE := Lib.hid (fun o o2 w1 (hb : Below ((w.alloc o).alloc o2).heap.size ((w.alloc o).alloc o2) w1) => equalFunc_kids x.f8 y.f8 A8 c8 B8 d8 w1 (Kd.C_below (Kd.C_below x8 (below_alloc (below_alloc (Below.refl _ w) o) o2)) hb) (Kd.C_below (Kd.C_below y8 (below_alloc (below_alloc (Below.refl _ w) o) o2)) hb) (fun k hk => ihs _ (by have := kid_size x k hk; omega)))
  have HBW := Lib.hid (fun o o2 => below_alloc (below_alloc (Below.refl w.heap.size w) o) o2)
  clear x8 lx8 x10 lx10 y8 ly8 y10 ly10 ihs hx

  cases h0 : (x.f0 == y.f0) with
  | false =>
    have HE := Lib.hid (show eqB x y = false by rw [hE, h0]; rfl)
    clear hE
    go_enter Try.func27, Try.ntmps27
    go_wp2
    go_ret
    exact ⟨ret_bool HE.out.symm, HBW.out _ _⟩
  | true =>
  cases h1 : (x.f1.toList == y.f1.toList) with
  | false =>
    have HE := Lib.hid (show eqB x y = false by rw [hE, h0, h1]; rfl)
    clear hE
    go_enter Try.func27, Try.ntmps27
    go_wp2
    go_ret
    exact ⟨ret_bool HE.out.symm, HBW.out _ _⟩
  | true =>
  cases h2 : (x.f2 == y.f2) with
  | false =>
    have HE := Lib.hid (show eqB x y = false by rw [hE, h0, h1, h2]; rfl)
    clear hE
    go_enter Try.func27, Try.ntmps27
    go_wp2
    go_ret
    exact ⟨ret_bool HE.out.symm, HBW.out _ _⟩
  | true =>
  cases h3 : (x.f3 == y.f3) with
  | false =>
    have HE := Lib.hid (show eqB x y = false by rw [hE, h0, h1, h2, h3]; rfl)
    clear hE
    go_enter Try.func27, Try.ntmps27
    go_wp2
    go_ret
    exact ⟨ret_bool HE.out.symm, HBW.out _ _⟩
  | true =>
  cases h4 : (x.f4 == y.f4) with
  | false =>
    have HE := Lib.hid (show eqB x y = false by rw [hE, h0, h1, h2, h3, h4]; rfl)
    clear hE
    go_enter Try.func27, Try.ntmps27
    go_wp2
    go_ret
    exact ⟨ret_bool HE.out.symm, HBW.out _ _⟩
  | true =>
  cases h5 : (x.f5 == y.f5) with
  | false =>
    have HE := Lib.hid (show eqB x y = false by rw [hE, h0, h1, h2, h3, h4, h5]; rfl)
    clear hE
    go_enter Try.func27, Try.ntmps27
    go_wp2
    go_ret
    exact ⟨ret_bool HE.out.symm, HBW.out _ _⟩
  | true =>
  cases h6 : (x.f6 == y.f6) with
  | false =>
    have HE := Lib.hid (show eqB x y = false by rw [hE, h0, h1, h2, h3, h4, h5, h6]; rfl)
    clear hE
    go_enter Try.func27, Try.ntmps27
    go_wp2
    go_ret
    exact ⟨ret_bool HE.out.symm, HBW.out _ _⟩
  | true =>
  cases h7 : (x.f7 == y.f7) with
  | false =>
    have HE := Lib.hid (show eqB x y = false by rw [hE, h0, h1, h2, h3, h4, h5, h6, h7]; rfl)
    clear hE
    go_enter Try.func27, Try.ntmps27
    go_wp2
    go_ret
    exact ⟨ret_bool HE.out.symm, HBW.out _ _⟩
  | true =>
  cases h9 : (x.f9 == y.f9) with
  | false =>
    have HE := Lib.hid (show eqB x y = false by rw [hE, h0, h1, h2, h3, h4, h5, h6, h7, h9]; rfl)
    clear hE
    go_enter Try.func27, Try.ntmps27
    go_wp2
    go_ret
    exact ⟨ret_bool HE.out.symm, HBW.out _ _⟩
  | true =>
  have HE := Lib.hid (show eqB x y = (decide (x.f10 = y.f10) && eqK x.f8 y.f8) by rw [hE, h0, h1, h2, h3, h4, h5, h6, h7, h9]; rfl)
  clear hE
  generalize decide (x.f10 = y.f10) = b at HSE HE
  generalize eqK x.f8 y.f8 = b2 at HKE HE
  cases b with
  | false =>
    go_enter Try.func27, Try.ntmps27
    go_wp2_with (go_at_call 49; refine (HSE.out _ _).mono ?_; rintro e w1 ⟨rfl, hb1_⟩; have HB1 := Lib.hid hb1_; obtain ⟨hc1, hf1⟩ := bcell hb1_; clear hb1_)
    go_ret
    exact ⟨ret_bool (by rw [HE.out]; rfl), (HBW.out _ _).trans (HB1.out.mono (by simp; omega))⟩
  | true =>
    go_enter Try.func27, Try.ntmps27
    go_wp2_with (first | (go_at_call 49; refine (HSE.out _ _).mono ?_; rintro e w1 ⟨rfl, hb1_⟩; have HB1 := Lib.hid hb1_; obtain ⟨hc1, hf1⟩ := bcell hb1_; clear hb1_) | (go_at_call 50; refine (HKE.out _ _ w1 HB1.out).mono ?_; rintro e w2 ⟨rfl, hb2_⟩; have HB2 := Lib.hid hb2_; clear hb2_))
    go_ret
    exact ⟨ret_bool (by rw [HE.out]; simp), (HBW.out _ _).trans ((HB1.out.trans (HB2.out.mono HB1.out.size)).mono (by simp; omega))⟩
def box_Equal.f (a0_0 : Int) (a0_1 : ByteArray) (a0_2 : Int) (a0_3 : Int) (a0_4 : Int) (a0_5 : Int) (a0_6 : Int) (a0_7 : Int) (l0_8 : List (S28)) (a0_9 : Int) (l0_10 : List Int) (a1_0 : Int) (a1_1 : ByteArray) (a1_2 : Int) (a1_3 : Int) (a1_4 : Int) (a1_5 : Int) (a1_6 : Int) (a1_7 : Int) (l1_8 : List (S28)) (a1_9 : Int) (l1_10 : List Int) : Option (Bool) := some (eqB ⟨a0_0, a0_1, a0_2, a0_3, a0_4, a0_5, a0_6, a0_7, l0_8, a0_9, l0_10⟩ ⟨a1_0, a1_1, a1_2, a1_3, a1_4, a1_5, a1_6, a1_7, l1_8, a1_9, l1_10⟩)
theorem box_Equal.calls (a0_0 : Int) (a0_1 : ByteArray) (a0_2 : Int) (a0_3 : Int) (a0_4 : Int) (a0_5 : Int) (a0_6 : Int) (a0_7 : Int) (A0_8 : Option Addr) (c0_8 : Nat) (l0_8 : List (S28)) (a0_9 : Int) (A0_10 : Option Addr) (c0_10 : Nat) (l0_10 : List Int) (a1_0 : Int) (a1_1 : ByteArray) (a1_2 : Int) (a1_3 : Int) (a1_4 : Int) (a1_5 : Int) (a1_6 : Int) (a1_7 : Int) (A1_8 : Option Addr) (c1_8 : Nat) (l1_8 : List (S28)) (a1_9 : Int) (A1_10 : Option Addr) (c1_10 : Nat) (l1_10 : List Int) (r : Bool) (w : World) (hr0_8 : Kd.C k28 w A0_8 l0_8.length l0_8) (hc0_8 : l0_8.length ≤ c0_8) (hr0_10 : Kd.C (Kd.int .i64) w A0_10 l0_10.length l0_10) (hc0_10 : l0_10.length ≤ c0_10) (hr1_8 : Kd.C k28 w A1_8 l1_8.length l1_8) (hc1_8 : l1_8.length ≤ c1_8) (hr1_10 : Kd.C (Kd.int .i64) w A1_10 l1_10.length l1_10) (hc1_10 : l1_10.length ≤ c1_10) (h : box_Equal.f a0_0 a0_1 a0_2 a0_3 a0_4 a0_5 a0_6 a0_7 l0_8 a0_9 l0_10 a1_0 a1_1 a1_2 a1_3 a1_4 a1_5 a1_6 a1_7 l1_8 a1_9 l1_10 = some r) :
    Calls Try.prog 27 #[.agg #[.int .i64 a0_0, .string a0_1, .int .i64 a0_2, .int .i64 a0_3, .int .i64 a0_4, .int .i64 a0_5, .int .i64 a0_6, .int .i64 a0_7, .slice A0_8 l0_8.length c0_8, .int .i64 a0_9, .slice A0_10 l0_10.length c0_10], .agg #[.int .i64 a1_0, .string a1_1, .int .i64 a1_2, .int .i64 a1_3, .int .i64 a1_4, .int .i64 a1_5, .int .i64 a1_6, .int .i64 a1_7, .slice A1_8 l1_8.length c1_8, .int .i64 a1_9, .slice A1_10 l1_10.length c1_10]] w fun e w' => e = .returned (.bool r) ∧ Below w.heap.size w w' := by
  obtain rfl := Option.some.inj h
  exact equal_box _ ⟨a0_0, a0_1, a0_2, a0_3, a0_4, a0_5, a0_6, a0_7, l0_8, a0_9, l0_10⟩ (Nat.le_refl _) ⟨a1_0, a1_1, a1_2, a1_3, a1_4, a1_5, a1_6, a1_7, l1_8, a1_9, l1_10⟩ A0_8 c0_8 A0_10 c0_10 A1_8 c1_8 A1_10 c1_10 w hr0_8 hc0_8 hr0_10 hc0_10 hr1_8 hc1_8 hr1_10 hc1_10

end Go.Proofs.Ytnnhhkjcjkinpaa.P
