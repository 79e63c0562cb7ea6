--m
/- Written by wip/tool/hprint.py (the kit's print.py with hand-proved contracts set in): contracts of the functions that the statements of this seat reach, without conditions beyond those named in each theorem. -/
import Derived.Test.YtikgflpobacndaaP0
import Derived.Test.YtikgflpobacndaaP1
import Derived.Test.YtikgflpobacndaaP2
import Derived.Lib.Hide
import Derived.Deep.QuietTactic
import Derived.BigQuiet
import Derived.RegionTactic
import Derived.ChangeAlike
import Derived.IntWalk
namespace Go.Proofs.Ytikgflpobacndaa.P
open Go.RowKit Go.Proofs.YtikgflpobacndaaW.PrintWords Go.Proofs.YtikgflpobacndaaW.PrintLast Go.Proofs.YtikgflpobacndaaW.PrintMore
attribute [local go_sem] zaz zaA zaB zaC zaD zaE zaF zaG   -- for this text's walks alone
set_option linter.unusedVariables false
set_option linter.unusedSimpArgs false

-- IMPORTS: Derived.Lib.Hide Derived.Deep.QuietTactic Derived.BigQuiet Derived.RegionTactic Derived.ChangeAlike Derived.IntWalk

/-! ### cut -/
theorem loop_eqI (l m : List Int) (hl : l.length = m.length) (hm : l.length ≤ 9223372036854775807) : ∀ d i : Nat, i + d = l.length → slices_Equal_int_int.l0 (d + 1) l m (l.length : Int) (i : Int) = some (decide (l.drop i = m.drop i)) := by
 intro d
 induction d with
 | zero =>
  intro i hi
  obtain rfl : i = l.length := by omega
  unfold slices_Equal_int_int.l0
  rw [if_neg (by omega), List.drop_eq_nil_of_le (Nat.le_refl _), List.drop_eq_nil_of_le (by omega)]
  rfl
 | succ d ih =>
  intro i hi
  have hil : i < l.length := by omega
  have him : i < m.length := by omega
  unfold slices_Equal_int_int.l0
  rw [if_pos (by omega), if_pos (by omega), if_pos (by omega), if_pos (by omega), rd_nat l i hil, rd_nat m i him, List.drop_eq_getElem_cons hil, List.drop_eq_getElem_cons him]
  by_cases h : l[i] = m[i]
  ·rw [if_pos h, show wrap64 ((i : Int) + 1) = ((i + 1 : Nat) : Int) by unfold wrap64; omega, ih (i + 1) (by omega), h]
   refine congrArg some (decide_eq_decide.2 ⟨fun e => by rw [e], fun e => (List.cons.inj e).2⟩)
  ·rw [if_neg h, decide_eq_false]
   exact fun e => h (List.cons.inj e).1
theorem eqInts_quiet (A : Option Addr) (c : Nat) (l : List Int) (B : Option Addr) (d : Nat) (m : List Int) (w : World) (hr0 : (Kd.int .i64).C w A l.length l) (hc0 : l.length ≤ c) (hr1 : (Kd.int .i64).C w B m.length m) (hc1 : m.length ≤ d) :
  Calls Try.prog 60 #[.slice A l.length c, .slice B m.length d] w fun e w' => e = .returned (.bool (decide (l = m))) ∧ ∃ n, w' = w.drewN n := by
 have hf : slices_Equal_int_int.f (l.length + 1) l m = some (decide (l = m)) := by
  unfold slices_Equal_int_int.f
  by_cases h : l.length = m.length
  ·rw [if_pos (by omega)]
   have := loop_eqI l m h hr0.2.1 l.length 0 (by omega)
   simpa using this
  ·rw [if_neg (by omega), decide_eq_false (fun e => h (by rw [e]))]
 exact (slices_Equal_int_int.calls (l.length + 1) A c l B d m _ w hr0 hc0 hr1 hc1 hf).mono fun e w' ⟨h1, h2⟩ => ⟨h1, h2.out⟩
def cutB (row pos : List Int) : Bool := decide (row.length < pos.length) && (!decide (pos.length = row.length + 2) && decide (pos.take row.length = row))

set_option maxRecDepth 100000 in
set_option maxHeartbeats 4000000 in
theorem cut_no (a0 : Int) (A1 : Option Addr) (c1 : Nat) (l1 : List Int) (a2 a3 : Int) (A4 : Option Addr) (c4 : Nat) (l4 : List S24) (a5 : Int) (a6 a7 : ByteArray) (A : Option Addr) (c : Nat) (pos : List Int) (w : World) (hc1 : l1.length ≤ c1) (hr1 : (Kd.int .i64).C w A1 l1.length l1) (hr : (Kd.int .i64).C w A pos.length pos) (hc : pos.length ≤ c) (hb : cutB l1 pos = false) (hm : pos.length ≤ 4611686018427387904) (hm1 : l1.length ≤ 4611686018427387904) :
  Calls Try.prog 37 #[.agg #[.int .i64 a0, .slice A1 l1.length c1, .int .i64 a2, .int .i64 a3, .slice A4 l4.length c4, .int .i64 a5, .string a6, .string a7], .slice A pos.length c] w fun e w' => e = .returned (.tuple #[.agg #[.int .i64 0, .slice none 0 0, .int .i64 0, .int .i64 0, .slice none 0 0, .int .i64 0, .string ⟨#[]⟩, .string ⟨#[]⟩, .int .i64 0, .int .i64 0, .slice none 0 0], .bool false]) ∧ Below w.heap.size w w' := by
 have hu := Try.underlying27
 have hu2 := Try.underlying65
 have hw2 : IntKind.i64.wrap ((l1.length : Int) + 2) = (l1.length : Int) + 2 := IntWalk.i64_in _ (by omega)
 by_cases h1 : pos.length ≤ l1.length
 ·have h1' : decide (pos.length ≤ l1.length) = true := decide_eq_true h1
  clear hr1 hr
  go_enter Try.func37, Try.ntmps37
  go_wp2
  go_quiet (fail)
  go_wp2
  exact bodyPost_ret (v := .tuple #[.agg #[.int .i64 0, .slice none 0 0, .int .i64 0, .int .i64 0, .slice none 0 0, .int .i64 0, .string ⟨#[]⟩, .string ⟨#[]⟩, .int .i64 0, .int .i64 0, .slice none 0 0], .bool false]) (by simp [results, Try.f37, go_sem]) rfl ⟨rfl, by (with_reducible repeat (first | exact Below.refl _ _ | apply zad | apply zaf | (refine Below.setCell ?_ (Nat.le_succ _) _)))⟩
 ·have h1' : decide (pos.length ≤ l1.length) = false := decide_eq_false h1
  by_cases h2 : pos.length = l1.length + 2
  ·have h2' : ((pos.length : Int) == (l1.length : Int) + 2) = true := by simp; omega
   clear hr1 hr h2 h1
   go_enter Try.func37, Try.ntmps37
   go_wp2
   go_quiet (fail)
   go_wp2
   exact bodyPost_ret (v := .tuple #[.agg #[.int .i64 0, .slice none 0 0, .int .i64 0, .int .i64 0, .slice none 0 0, .int .i64 0, .string ⟨#[]⟩, .string ⟨#[]⟩, .int .i64 0, .int .i64 0, .slice none 0 0], .bool false]) (by simp [results, Try.f37, go_sem]) rfl ⟨rfl, by (with_reducible repeat (first | exact Below.refl _ _ | apply zad | apply zaf | (refine Below.setCell ?_ (Nat.le_succ _) _)))⟩
  ·have h2' : ((pos.length : Int) == (l1.length : Int) + 2) = false := by simp; omega
   have h3 : decide (pos.take l1.length = l1) = false := by
    unfold cutB at hb
    rw [decide_eq_true (by omega), decide_eq_false h2] at hb
    simpa using hb
   have HQ := Lib.hid (fun (W : World) (hW : Below w.heap.size w W) => (eqInts_quiet A c (pos.take l1.length) A1 c1 l1 W (Kd.C_below (Kd.C_take hr (show l1.length ≤ pos.length by omega)) hW) (by simp; omega) (Kd.C_below hr1 hW) hc1))
   rw [h3, show (pos.take l1.length).length = l1.length by simp; omega] at HQ
   have p0 : decide ((l1.length : Int) ≤ (pos.length : Int)) = true := decide_eq_true (by omega)
   have p1 : decide (l1.length ≤ pos.length) = true := decide_eq_true (by omega)
   have p2 : l1.length ≤ c := by omega
   have p3 : decide ((l1.length : Int) ≤ (c : Int)) = true := decide_eq_true (by omega)
   have p4 : decide (l1.length ≤ c) = true := decide_eq_true (by omega)
   clear hr1 hr hb h2 h1
   go_enter Try.func37, Try.ntmps37
   go_wp2
   go_quiet ((go_at_call 60; exact Calls.quiet_of (HQ.out _ (zaf (zad (zad (Below.refl _ _) _) _) _))))
   go_wp2
   exact bodyPost_ret (v := .tuple #[.agg #[.int .i64 0, .slice none 0 0, .int .i64 0, .int .i64 0, .slice none 0 0, .int .i64 0, .string ⟨#[]⟩, .string ⟨#[]⟩, .int .i64 0, .int .i64 0, .slice none 0 0], .bool false]) (by simp [results, Try.f37, go_sem]) rfl ⟨rfl, by (with_reducible repeat (first | exact Below.refl _ _ | apply zad | apply zaf | (refine Below.setCell ?_ (Nat.le_succ _) _)))⟩

set_option maxRecDepth 100000 in
set_option maxHeartbeats 4000000 in
theorem cut_one (a0 : Int) (A1 : Option Addr) (c1 : Nat) (l1 : List Int) (a2 a3 : Int) (A4 : Option Addr) (c4 : Nat) (l4 : List S24) (a5 : Int) (a6 a7 : ByteArray) (A : Option Addr) (c : Nat) (pos : List Int) (w : World) (hc1 : l1.length ≤ c1) (hr1 : (Kd.int .i64).C w A1 l1.length l1) (hr : (Kd.int .i64).C w A pos.length pos) (hc : pos.length ≤ c) (hb : pos.length = l1.length + 1) (h3 : pos.take l1.length = l1) (hm : pos.length ≤ 4611686018427387904) (hm1 : l1.length ≤ 4611686018427387904) :
  Calls Try.prog 37 #[.agg #[.int .i64 a0, .slice A1 l1.length c1, .int .i64 a2, .int .i64 a3, .slice A4 l4.length c4, .int .i64 a5, .string a6, .string a7], .slice A pos.length c] w fun e w' => e = .returned (.tuple #[.agg #[.int .i64 a0, .slice A1 l1.length c1, .int .i64 a2, .int .i64 a3, .slice A4 l4.length c4, .int .i64 a5, .string a6, .string a7, .int .i64 (rd pos (l1.length : Int)), .int .i64 0, .slice none 0 0], .bool true]) ∧ Below w.heap.size w w' := by
 have hw2 : IntKind.i64.wrap ((l1.length : Int) + 2) = (l1.length : Int) + 2 := IntWalk.i64_in _ (by omega)
 have hu := Try.underlying27
 have hu2 := Try.underlying65
 have h1' : decide (pos.length ≤ l1.length) = false := decide_eq_false (by omega)
 have h2' : ((pos.length : Int) == (l1.length : Int) + 2) = false := by simp; omega
 have HQ := Lib.hid (fun (W : World) (hW : Below w.heap.size w W) => (eqInts_quiet A c (pos.take l1.length) A1 c1 l1 W (Kd.C_below (Kd.C_take hr (show l1.length ≤ pos.length by omega)) hW) (by simp; omega) (Kd.C_below hr1 hW) hc1))
 rw [decide_eq_true h3, show (pos.take l1.length).length = l1.length by simp; omega] at HQ
 have p0 : decide ((l1.length : Int) ≤ (pos.length : Int)) = true := decide_eq_true (by omega)
 have p1 : decide (l1.length ≤ pos.length) = true := decide_eq_true (by omega)
 have p2 : l1.length ≤ c := by omega
 have p3 : decide ((l1.length : Int) ≤ (c : Int)) = true := decide_eq_true (by omega)
 have p4 : decide (l1.length ≤ c) = true := decide_eq_true (by omega)
 have p5 : decide (l1.length < pos.length) = true := decide_eq_true (by omega)
 have p6 : decide ((l1.length : Int) < (pos.length : Int)) = true := decide_eq_true (by omega)
 have p8 : (l1.length : Int) < (pos.length : Int) := by omega
 have p9 : l1.length < pos.length := by omega
 have p10 : (0 : Int) ≤ (l1.length : Int) := by omega
 have p7 : decide ((l1.length : Int) + 1 < (pos.length : Int)) = false := decide_eq_false (by omega)
 obtain ⟨ad, e, q0⟩ := Kd.at_int hr (l1.length : Int) (by omega) (by omega)
 cases e
 rw [Int.toNat_natCast] at q0
 have q1 : ∀ (o1 o2 : Obj) n, (((w.alloc o1).alloc o2).drewN n).cell? (ad.add l1.length) = some (.int .i64 (rd pos (l1.length : Int))) := fun o1 o2 n => zat (zaf (zad (zad (Below.refl _ _) _) _) _) q0
 have q2 : ∀ (o1 o2 o3 : Obj) n, ((((w.alloc o1).alloc o2).drewN n).alloc o3).cell? (ad.add l1.length) = some (.int .i64 (rd pos (l1.length : Int))) := fun o1 o2 o3 n => zat (zad (zaf (zad (zad (Below.refl _ _) _) _) _) _) q0
 clear hr1 hr hb h3 q0
 go_enter Try.func37, Try.ntmps37
 go_wp2
 go_quiet ((go_at_call 60; exact Calls.quiet_of (HQ.out _ (zaf (zad (zad (Below.refl _ _) _) _) _))))
 go_wp2
 go_region
 go_wp2
 exact bodyPost_ret (v := .tuple #[.agg #[.int .i64 a0, .slice A1 l1.length c1, .int .i64 a2, .int .i64 a3, .slice A4 l4.length c4, .int .i64 a5, .string a6, .string a7, .int .i64 (rd pos (l1.length : Int)), .int .i64 0, .slice none 0 0], .bool true]) (by simp [results, Try.f37, go_sem]) rfl ⟨rfl, by (with_reducible repeat (first | exact Below.refl _ _ | apply zad | apply zaf | apply zae | (refine Below.setCell ?_ (by simp) _)))⟩

set_option maxRecDepth 100000 in
set_option maxHeartbeats 4000000 in
theorem cut_two (a0 : Int) (A1 : Option Addr) (c1 : Nat) (l1 : List Int) (a2 a3 : Int) (A4 : Option Addr) (c4 : Nat) (l4 : List S24) (a5 : Int) (a6 a7 : ByteArray) (A : Option Addr) (c : Nat) (pos : List Int) (w : World) (hc1 : l1.length ≤ c1) (hr1 : (Kd.int .i64).C w A1 l1.length l1) (hr : (Kd.int .i64).C w A pos.length pos) (hc : pos.length ≤ c) (hb : l1.length + 2 < pos.length) (h3 : pos.take l1.length = l1) (hm : pos.length ≤ 4611686018427387904) (hm1 : l1.length ≤ 4611686018427387904) :
  Calls Try.prog 37 #[.agg #[.int .i64 a0, .slice A1 l1.length c1, .int .i64 a2, .int .i64 a3, .slice A4 l4.length c4, .int .i64 a5, .string a6, .string a7], .slice A pos.length c] w fun e w' => e = .returned (.tuple #[.agg #[.int .i64 a0, .slice A1 l1.length c1, .int .i64 a2, .int .i64 a3, .slice A4 l4.length c4, .int .i64 a5, .string a6, .string a7, .int .i64 (rd pos (l1.length : Int)), .int .i64 (rd pos ((l1.length : Int) + 1)), .slice (A.map (·.add (l1.length + 2))) (pos.length - (l1.length + 2)) (c - (l1.length + 2))], .bool true]) ∧ Below w.heap.size w w' := by
 have hw2 : IntKind.i64.wrap ((l1.length : Int) + 2) = (l1.length : Int) + 2 := IntWalk.i64_in _ (by omega)
 have hu := Try.underlying27
 have hu2 := Try.underlying65
 have h1' : decide (pos.length ≤ l1.length) = false := decide_eq_false (by omega)
 have h2' : ((pos.length : Int) == (l1.length : Int) + 2) = false := by simp; omega
 have HQ := Lib.hid (fun (W : World) (hW : Below w.heap.size w W) => (eqInts_quiet A c (pos.take l1.length) A1 c1 l1 W (Kd.C_below (Kd.C_take hr (show l1.length ≤ pos.length by omega)) hW) (by simp; omega) (Kd.C_below hr1 hW) hc1))
 rw [decide_eq_true h3, show (pos.take l1.length).length = l1.length by simp; omega] at HQ
 have p0 : decide ((l1.length : Int) ≤ (pos.length : Int)) = true := decide_eq_true (by omega)
 have p1 : decide (l1.length ≤ pos.length) = true := decide_eq_true (by omega)
 have p2 : l1.length ≤ c := by omega
 have p3 : decide ((l1.length : Int) ≤ (c : Int)) = true := decide_eq_true (by omega)
 have p4 : decide (l1.length ≤ c) = true := decide_eq_true (by omega)
 have p5 : decide (l1.length < pos.length) = true := decide_eq_true (by omega)
 have p6 : decide ((l1.length : Int) < (pos.length : Int)) = true := decide_eq_true (by omega)
 have p8 : (l1.length : Int) < (pos.length : Int) := by omega
 have p9 : l1.length < pos.length := by omega
 have p10 : (0 : Int) ≤ (l1.length : Int) := by omega
 have p7 : decide ((l1.length : Int) + 1 < (pos.length : Int)) = true := decide_eq_true (by omega)
 have hw1 : IntKind.i64.wrap ((l1.length : Int) + 1) = (l1.length : Int) + 1 := IntWalk.i64_in _ (by omega)
 have p11 : (l1.length : Int) + 1 < (pos.length : Int) := by omega
 have p12 : (0 : Int) ≤ (l1.length : Int) + 1 := by omega
 have p13 : ((l1.length : Int) + 1).toNat = l1.length + 1 := by omega
 have p14 : (l1.length : Int) + 2 ≤ (pos.length : Int) := by omega
 have p15 : (0 : Int) ≤ (l1.length : Int) + 2 := by omega
 have p16 : ((l1.length : Int) + 2).toNat = l1.length + 2 := by omega
 have p17 : ¬ c = l1.length + 2 := by omega
 have p18 : l1.length + 2 ≤ pos.length := by omega
 have p19 : l1.length + 1 < pos.length := by omega
 obtain ⟨ad, e, q0⟩ := Kd.at_int hr (l1.length : Int) (by omega) (by omega)
 cases e
 obtain ⟨ad2, e2, k0⟩ := Kd.at_int hr ((l1.length : Int) + 1) (by omega) (by omega)
 injection e2 with e2
 subst e2
 rw [p13] at k0
 rw [Int.toNat_natCast] at q0
 have q1 : ∀ (o1 o2 : Obj) n, (((w.alloc o1).alloc o2).drewN n).cell? (ad.add l1.length) = some (.int .i64 (rd pos (l1.length : Int))) := fun o1 o2 n => zat (zaf (zad (zad (Below.refl _ _) _) _) _) q0
 have q2 : ∀ (o1 o2 o3 : Obj) n, ((((w.alloc o1).alloc o2).drewN n).alloc o3).cell? (ad.add l1.length) = some (.int .i64 (rd pos (l1.length : Int))) := fun o1 o2 o3 n => zat (zad (zaf (zad (zad (Below.refl _ _) _) _) _) _) q0
 rw [show ad.add (l1.length + 1) = ⟨ad.block, ad.off + (l1.length + 1), none⟩ by unfold Addr.add; simp] at k0
 have q3 : ∀ (o1 o2 o3 : Obj) n, (((((w.alloc o1).alloc o2).drewN n).alloc o3).drew).cell? ⟨ad.block, ad.off + (l1.length + 1), none⟩ = some (.int .i64 (rd pos ((l1.length : Int) + 1))) := fun o1 o2 o3 n => zat (below_drew (zad (zaf (zad (zad (Below.refl _ _) _) _) _) _)) k0
 have q4 : ∀ (o1 o2 o3 : Obj) n j v, ((((((w.alloc o1).alloc o2).drewN n).alloc o3).drew).setCell ⟨w.heap.size + 1 + 1, j, none⟩ v).cell? ⟨ad.block, ad.off + (l1.length + 1), none⟩ = some (.int .i64 (rd pos ((l1.length : Int) + 1))) := fun o1 o2 o3 n j v => zat (Below.setCell (below_drew (zad (zaf (zad (zad (Below.refl _ _) _) _) _) _)) (by show w.heap.size ≤ w.heap.size + 1 + 1; omega) _) k0
 clear hr1 hr hb h3 q0
 go_enter Try.func37, Try.ntmps37
 go_wp2
 go_quiet ((go_at_call 60; exact Calls.quiet_of (HQ.out _ (zaf (zad (zad (Below.refl _ _) _) _) _))))
 go_wp2
 go_region
 go_wp2
 go_region
 go_wp2
 exact bodyPost_ret (v := .tuple #[.agg #[.int .i64 a0, .slice A1 l1.length c1, .int .i64 a2, .int .i64 a3, .slice A4 l4.length c4, .int .i64 a5, .string a6, .string a7, .int .i64 (rd pos (l1.length : Int)), .int .i64 (rd pos ((l1.length : Int) + 1)), .slice (some (ad.add (l1.length + 2))) (pos.length - (l1.length + 2)) (c - (l1.length + 2))], .bool true]) (by simp [results, Try.f37, go_sem]) rfl ⟨rfl, by (with_reducible repeat (first | exact Below.refl _ _ | apply zad | apply zaf | apply zae | apply below_drew | (refine Below.setCell ?_ (by simp) _)))⟩

def posmap_cut.f (a0_0 : Int) (l0_1 : List Int) (a0_2 : Int) (a0_3 : Int) (l0_4 : List (S24)) (a0_5 : Int) (a0_6 : ByteArray) (a0_7 : ByteArray) (l1 : List Int) : Option (Int × List Int × Int × Int × (List (S24)) × Int × ByteArray × ByteArray × Int × Int × List Int × Bool) :=
 if l1.length ≤ 4611686018427387904 ∧ l0_1.length ≤ 4611686018427387904 then some (if cutB l0_1 l1 = true then (a0_0, l0_1, a0_2, a0_3, l0_4, a0_5, a0_6, a0_7, rd l1 (l0_1.length : Int), if l1.length = l0_1.length + 1 then 0 else rd l1 ((l0_1.length : Int) + 1), l1.drop (l0_1.length + 2), true) else (0, [], 0, 0, [], 0, ⟨#[]⟩, ⟨#[]⟩, 0, 0, [], false)) else none
theorem posmap_cut.calls (a0_0 : Int) (P0_1_ : Nat → Prop) (A0_1 : Option Addr) (c0_1 : Nat) (l0_1 : List Int) (a0_2 : Int) (a0_3 : Int) (P0_4_ : Nat → Prop) (A0_4 : Option Addr) (c0_4 : Nat) (l0_4 : List (S24)) (a0_5 : Int) (a0_6 : ByteArray) (a0_7 : ByteArray) (P1_ : Nat → Prop) (A1 : Option Addr) (c1 : Nat) (l1 : List Int) (r1 : Int) (r2 : List Int) (r3 : Int) (r4 : Int) (r5 : List (S24)) (r6 : Int) (r7 : ByteArray) (r8 : ByteArray) (r9 : Int) (r10 : Int) (r11 : List Int) (r12 : Bool) (w : World) (hs0_1 : Kd.V (Kd.int .i64) 3 w w.heap.size (fun k_ => P0_1_ k_) (.slice A0_1 l0_1.length c0_1) l0_1) (hs0_4 : Kd.V k24 24 w w.heap.size (fun k_ => P0_4_ k_) (.slice A0_4 l0_4.length c0_4) l0_4) (hs1 : Kd.V (Kd.int .i64) 3 w w.heap.size (fun k_ => P1_ k_) (.slice A1 l1.length c1) l1) (h : posmap_cut.f a0_0 l0_1 a0_2 a0_3 l0_4 a0_5 a0_6 a0_7 l1 = some (r1, r2, r3, r4, r5, r6, r7, r8, r9, r10, r11, r12)) :
  Calls Try.prog 37 #[.agg #[.int .i64 a0_0, .slice A0_1 l0_1.length c0_1, .int .i64 a0_2, .int .i64 a0_3, .slice A0_4 l0_4.length c0_4, .int .i64 a0_5, .string a0_6, .string a0_7], .slice A1 l1.length c1] w fun e w' => ∃ v1_ v4_ v10_ : Value, e = .returned (.tuple #[.agg #[.int .i64 r1, v1_, .int .i64 r3, .int .i64 r4, v4_, .int .i64 r6, .string r7, .string r8, .int .i64 r9, .int .i64 r10, v10_], .bool r12]) ∧ Kd.V (Kd.int .i64) 3 w' w.heap.size (fun k_ => ((P0_1_ k_ ∨ P0_4_ k_ ∨ P1_ k_) ∨ w.heap.size ≤ k_)) v1_ r2 ∧ Kd.V k24 24 w' w.heap.size (fun k_ => ((P0_1_ k_ ∨ P0_4_ k_ ∨ P1_ k_) ∨ w.heap.size ≤ k_)) v4_ r5 ∧ Kd.V (Kd.int .i64) 3 w' w.heap.size (fun k_ => ((P0_1_ k_ ∨ P0_4_ k_ ∨ P1_ k_) ∨ w.heap.size ≤ k_)) v10_ r11 ∧ Below w.heap.size w w' := by
 unfold posmap_cut.f at h
 by_cases hl : l1.length ≤ 4611686018427387904 ∧ l0_1.length ≤ 4611686018427387904
 ·rw [if_pos hl] at h
  obtain ⟨g1, g2, g3⟩ := Kd.V_reads' hs0_1
  obtain ⟨i1, i2, i3⟩ := Kd.V_reads' hs1
  by_cases hb : cutB l0_1 l1 = true
  ·rw [if_pos hb] at h
   have hb' : l0_1.length < l1.length ∧ ¬ l1.length = l0_1.length + 2 ∧ l1.take l0_1.length = l0_1 := by simpa [cutB] using hb
   obtain ⟨b1, b2, b3⟩ := hb'
   by_cases h1 : l1.length = l0_1.length + 1
   ·rw [if_pos h1, List.drop_eq_nil_of_le (by omega)] at h
    simp only [Option.some.injEq, Prod.mk.injEq] at h
    obtain ⟨rfl, rfl, rfl, rfl, rfl, rfl, rfl, rfl, rfl, rfl, rfl, rfl⟩ := h
    refine (cut_one a0_0 A0_1 c0_1 l0_1 a0_2 a0_3 A0_4 c0_4 l0_4 a0_5 a0_6 a0_7 A1 c1 l1 w g2 g3 i3 i2 h1 b3 hl.1 hl.2).mono fun e w' ⟨he, hB⟩ => ?_
    exact ⟨_, _, _, he, Kd.V_mono (Kd.V_below hs0_1 hB) (fun k hk => .inl (.inl hk)), Kd.V_mono (Kd.V_below hs0_4 hB) (fun k hk => .inl (.inr (.inl hk))), Kd.V_nil _ _ _ _ _, hB⟩
   ·rw [if_neg h1] at h
    simp only [Option.some.injEq, Prod.mk.injEq] at h
    obtain ⟨rfl, rfl, rfl, rfl, rfl, rfl, rfl, rfl, rfl, rfl, rfl, rfl⟩ := h
    refine (cut_two a0_0 A0_1 c0_1 l0_1 a0_2 a0_3 A0_4 c0_4 l0_4 a0_5 a0_6 a0_7 A1 c1 l1 w g2 g3 i3 i2 (by omega) b3 hl.1 hl.2).mono fun e w' ⟨he, hB⟩ => ?_
    refine ⟨_, _, _, he, Kd.V_mono (Kd.V_below hs0_1 hB) (fun k hk => .inl (.inl hk)), Kd.V_mono (Kd.V_below hs0_4 hB) (fun k hk => .inl (.inr (.inl hk))), ?_, hB⟩
    have hF := Kd.F_cut (m := l0_1.length + 2) (c := c1) (Kd.V_F hs1) (by omega) i2
    rw [if_neg (by omega)] at hF
    have hF2 : Kd.F (Kd.int .i64) w (fun k_ => P1_ k_) (A1.map (·.add (l0_1.length + 2))) (l1.drop (l0_1.length + 2)).length (l1.drop (l0_1.length + 2)) := by
     have hs1_ : (Kd.int .i64).sz = 1 := rfl
     simpa only [hs1_, Nat.mul_one] using hF
    have hV := Kd.V_mk (e := 3) (base := w.heap.size) (c := c1 - (l0_1.length + 2)) (by rw [List.length_drop]; omega) hF2
    rw [List.length_drop] at hV
    exact Kd.V_mono (Kd.V_below hV hB) (fun k hk => .inl (.inr (.inr hk)))
  ·rw [if_neg hb] at h
   simp only [Option.some.injEq, Prod.mk.injEq] at h
   obtain ⟨rfl, rfl, rfl, rfl, rfl, rfl, rfl, rfl, rfl, rfl, rfl, rfl⟩ := h
   refine (cut_no a0_0 A0_1 c0_1 l0_1 a0_2 a0_3 A0_4 c0_4 l0_4 a0_5 a0_6 a0_7 A1 c1 l1 w g2 g3 i3 i2 (Bool.eq_false_iff.2 hb) hl.1 hl.2).mono fun e w' ⟨he, hB⟩ => ?_
   exact ⟨_, _, _, he, Kd.V_nil _ _ _ _ _, Kd.V_nil _ _ _ _ _, Kd.V_nil _ _ _ _ _, hB⟩
 ·rw [if_neg hl] at h
  cases h

end Go.Proofs.Ytikgflpobacndaa.P
