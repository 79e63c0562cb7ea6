--m
/- Written by wip/tool/hprint.py (the kit's print.py with hand-proved contracts set in): contracts of the functions that the statements of this seat reach, without conditions beyond those named in each theorem. -/
import Derived.Test.YtikgflpobacndaaP0
import Derived.Test.YtikgflpobacndaaP1
import Derived.Test.YtikgflpobacndaaP3
import Derived.Test.YtikgflpobacndaaP4
import Derived.Test.YtikgflpobacndaaP7
import Derived.Test.YtikgflpobacndaaP8
import Derived.Test.YtikgflpobacndaaP10
import Derived.Test.YtikgflpobacndaaP11
import Derived.Lib.Hide
namespace Go.Proofs.Ytikgflpobacndaa.P
open Go.RowKit Go.Proofs.YtikgflpobacndaaW.PrintWords Go.Proofs.YtikgflpobacndaaW.PrintLast Go.Proofs.YtikgflpobacndaaW.PrintMore
attribute [local go_sem] zaz zaA zaB zaC zaD zaE zaF zaG   -- for this text's walks alone
set_option linter.unusedVariables false
set_option linter.unusedSimpArgs false

-- IMPORTS: Derived.Lib.Hide

theorem map_cut (a0 : Int) (A1 : Option Addr) (c1 : Nat) (l1 : List Int) (a2 a3 : Int) (A4 : Option Addr) (c4 : Nat) (l4 : List S24) (a5 : Int) (a6 a7 : ByteArray) (A : Option Addr) (c : Nat) (pos : List Int) (w : World) (hr1 : (Kd.int .i64).C w A1 l1.length l1) (hc1 : l1.length ≤ c1) (hr4 : Kd.C k24 w A4 l4.length l4) (hc4 : l4.length ≤ c4) (hr : (Kd.int .i64).C w A pos.length pos) (hc : pos.length ≤ c) (hb : cutB l1 pos = true) (hm : pos.length ≤ 4611686018427387904) (hm1 : l1.length ≤ 4611686018427387904) (s : Int) (hs : s = if pos.length = l1.length + 1 then 0 else rd pos ((l1.length : Int) + 1)) (rest : List Int) (hre : rest = pos.drop (l1.length + 2)) :
  Calls Try.prog 37 #[.agg #[.int .i64 a0, .slice A1 l1.length c1, .int .i64 a2, .int .i64 a3, .slice A4 l4.length c4, .int .i64 a5, .string a6, .string a7], .slice A pos.length c] w fun e w' => ∃ B d, e = .returned (.tuple #[.agg #[.int .i64 a0, .slice A1 l1.length c1, .int .i64 a2, .int .i64 a3, .slice A4 l4.length c4, .int .i64 a5, .string a6, .string a7, .int .i64 (rd pos (l1.length : Int)), .int .i64 s, .slice B rest.length d], .bool true]) ∧ rest.length ≤ d ∧ (Kd.int .i64).C w' B rest.length rest ∧ Below w.heap.size w w' := by
 have hb' : l1.length < pos.length ∧ ¬ pos.length = l1.length + 2 ∧ pos.take l1.length = l1 := by simpa [cutB] using hb
 obtain ⟨b1, b2, b3⟩ := hb'
 by_cases h1 : pos.length = l1.length + 1
 ·rw [if_pos h1] at hs
  rw [List.drop_eq_nil_of_le (by omega)] at hre
  subst hs hre
  refine (cut_one a0 A1 c1 l1 a2 a3 A4 c4 l4 a5 a6 a7 A c pos w hc1 hr1 hr hc h1 b3 hm hm1).mono fun e w' ⟨he, hB⟩ => ?_
  exact ⟨none, 0, he, Nat.le_refl _, ⟨rfl, by simp, fun h => absurd h (by simp)⟩, hB⟩
 ·rw [if_neg h1] at hs
  subst hs hre
  refine (cut_two a0 A1 c1 l1 a2 a3 A4 c4 l4 a5 a6 a7 A c pos w hc1 hr1 hr hc (by omega) b3 hm hm1).mono fun e w' ⟨he, hB⟩ => ?_
  refine ⟨A.map (·.add (l1.length + 2)), c - (l1.length + 2), by rw [List.length_drop]; exact he, by rw [List.length_drop]; omega, ?_, hB⟩
  have hF := Kd.C_below (Kd.C_drop (m := l1.length + 2) (c := c) hr (by omega) hc) hB
  rw [if_neg (by omega)] at hF
  have hs1_ : (Kd.int .i64).sz = 1 := rfl
  simpa only [hs1_, Nat.mul_one] using hF

set_option maxRecDepth 100000 in
set_option maxHeartbeats 4000000 in
theorem map_1 (k : Nat) (a0 : Int) (A1 : Option Addr) (c1 : Nat) (l1 : List Int) (a2 a3 : Int) (A4 : Option Addr) (c4 : Nat) (l4 : List S24) (a5 : Int) (a6 a7 : ByteArray) (A : Option Addr) (c : Nat) (pos : List Int) (after : Bool) (r : List Int) (w : World) (hr1 : (Kd.int .i64).C w A1 l1.length l1) (hc1 : l1.length ≤ c1) (hr4 : Kd.C k24 w A4 l4.length l4) (hc4 : l4.length ≤ c4) (hr : (Kd.int .i64).C w A pos.length pos) (hc : pos.length ≤ c) (hb : cutB l1 pos = true) (hm : pos.length ≤ 4611686018427387904) (hm1 : l1.length ≤ 4611686018427387904) (s : Int) (hs : s = if pos.length = l1.length + 1 then 0 else rd pos ((l1.length : Int) + 1)) (rest : List Int) (hre : rest = pos.drop (l1.length + 2)) (k1 : a0 = 1) (h : posmap_place_insert.f k a0 l1 a2 a3 l4 a5 a6 a7 (rd pos (l1.length : Int)) s rest after = some r) :
  Calls Try.prog 14 #[.agg #[.int .i64 a0, .slice A1 l1.length c1, .int .i64 a2, .int .i64 a3, .slice A4 l4.length c4, .int .i64 a5, .string a6, .string a7], .slice A pos.length c, .bool after] w fun e w' => ∃ v0_ : Value, e = .returned (v0_) ∧ Kd.R (Kd.int .i64) 3 w' w.heap.size (fun _ => True) v0_ r ∧ Below w.heap.size w w' := by
 have hu := Try.underlying27
 have hu2 := Try.underlying65
 have e1 : (a0 == 1) = true := by simpa using k1
 have HC := Lib.hid (fun o => map_cut a0 A1 c1 l1 a2 a3 A4 c4 l4 a5 a6 a7 A c pos (w.alloc o) (Kd.C_below hr1 (zad (Below.refl _ _) o)) hc1 (Kd.C_below hr4 (zad (Below.refl _ _) o)) hc4 (Kd.C_below hr (zad (Below.refl _ _) o)) hc hb hm hm1 s hs rest hre)
 have H1 := Lib.hid hr1
 have H4 := Lib.hid hr4
 have HP := Lib.hid hr
 have HH := Lib.hid h
 have HBA := Lib.hid (fun o => zad (Below.refl w.heap.size w) o)
 clear hr1 hr4 hr h hb hs hre k1
 go_enter Try.func14, Try.ntmps14
 go_wp2_with fail
 refine (HC.out _).mono ?_
 rintro e w1 ⟨B, d, rfl, hl, hx_, hb1_⟩
 have HX := Lib.hid hx_
 have HB1 := Lib.hid hb1_
 obtain ⟨hc1_, hf1_⟩ := bcell hb1_
 have hz_ : w.heap.size + 1 ≤ w1.heap.size := by
  have h_ := hb1_.size
  simp at h_
  omega
 have hk0 : ∀ o, (w1.alloc o).cell? ⟨w.heap.size, 0, none⟩ = some (.int .i64 a0) := fun o => zat (zad (Below.refl _ _) o) (zat hb1_ (by simp))
 clear hx_ hb1_
 go_wp2_with fail
 refine (posmap_place_insert.calls k a0 A1 c1 l1 a2 a3 A4 c4 l4 a5 a6 a7 (rd pos (l1.length : Int)) s B d rest after r _ (Kd.C_below (Kd.C_below (Kd.C_below H1.out (HBA.out _)) HB1.out) (zad (Below.refl _ _) _)) hc1 (Kd.C_below (Kd.C_below (Kd.C_below H4.out (HBA.out _)) HB1.out) (zad (Below.refl _ _) _)) hc4 (Kd.C_below HX.out (zad (Below.refl _ _) _)) hl HH.out).mono ?_
 rintro e w2 ⟨v0, rfl, hv_, hb2_⟩
 have HV := Lib.hid hv_
 have HB2 := Lib.hid hb2_
 clear hv_ hb2_
 go_wp2_with fail
 go_ret
 exact ⟨v0, rfl, Kd.R_lower HV.out (by have := HB1.out.size; simp at this ⊢; omega), (HBA.out _).trans ((HB1.out.trans ((zad (Below.refl _ _) _).trans (HB2.out.mono (by simp)) |>.mono HB1.out.size)).mono (by simp))⟩

set_option maxRecDepth 100000 in
set_option maxHeartbeats 4000000 in
theorem map_2 (k : Nat) (a0 : Int) (A1 : Option Addr) (c1 : Nat) (l1 : List Int) (a2 a3 : Int) (A4 : Option Addr) (c4 : Nat) (l4 : List S24) (a5 : Int) (a6 a7 : ByteArray) (A : Option Addr) (c : Nat) (pos : List Int) (after : Bool) (r : List Int) (w : World) (hr1 : (Kd.int .i64).C w A1 l1.length l1) (hc1 : l1.length ≤ c1) (hr4 : Kd.C k24 w A4 l4.length l4) (hc4 : l4.length ≤ c4) (hr : (Kd.int .i64).C w A pos.length pos) (hc : pos.length ≤ c) (hb : cutB l1 pos = true) (hm : pos.length ≤ 4611686018427387904) (hm1 : l1.length ≤ 4611686018427387904) (s : Int) (hs : s = if pos.length = l1.length + 1 then 0 else rd pos ((l1.length : Int) + 1)) (rest : List Int) (hre : rest = pos.drop (l1.length + 2)) (k1 : ¬ a0 = 1) (k2 : a0 = 2) (h : posmap_place_remove.f k a0 l1 a2 a3 l4 a5 a6 a7 (rd pos (l1.length : Int)) s rest = some r) :
  Calls Try.prog 14 #[.agg #[.int .i64 a0, .slice A1 l1.length c1, .int .i64 a2, .int .i64 a3, .slice A4 l4.length c4, .int .i64 a5, .string a6, .string a7], .slice A pos.length c, .bool after] w fun e w' => ∃ v0_ : Value, e = .returned (v0_) ∧ Kd.R (Kd.int .i64) 3 w' w.heap.size (fun _ => True) v0_ r ∧ Below w.heap.size w w' := by
 have hu := Try.underlying27
 have hu2 := Try.underlying65
 have e1 : (a0 == 1) = false := by simpa using k1
 have e2 : (a0 == 2) = true := by simpa using k2
 have HC := Lib.hid (fun o => map_cut a0 A1 c1 l1 a2 a3 A4 c4 l4 a5 a6 a7 A c pos (w.alloc o) (Kd.C_below hr1 (zad (Below.refl _ _) o)) hc1 (Kd.C_below hr4 (zad (Below.refl _ _) o)) hc4 (Kd.C_below hr (zad (Below.refl _ _) o)) hc hb hm hm1 s hs rest hre)
 have H1 := Lib.hid hr1
 have H4 := Lib.hid hr4
 have HP := Lib.hid hr
 have HH := Lib.hid h
 have HBA := Lib.hid (fun o => zad (Below.refl w.heap.size w) o)
 clear hr1 hr4 hr h hb hs hre k1 k2
 go_enter Try.func14, Try.ntmps14
 go_wp2_with fail
 refine (HC.out _).mono ?_
 rintro e w1 ⟨B, d, rfl, hl, hx_, hb1_⟩
 have HX := Lib.hid hx_
 have HB1 := Lib.hid hb1_
 obtain ⟨hc1_, hf1_⟩ := bcell hb1_
 have hz_ : w.heap.size + 1 ≤ w1.heap.size := by
  have h_ := hb1_.size
  simp at h_
  omega
 have hk0 : ∀ o, (w1.alloc o).cell? ⟨w.heap.size, 0, none⟩ = some (.int .i64 a0) := fun o => zat (zad (Below.refl _ _) o) (zat hb1_ (by simp))
 clear hx_ hb1_
 go_wp2_with fail
 refine (posmap_place_remove.calls k a0 A1 c1 l1 a2 a3 A4 c4 l4 a5 a6 a7 (rd pos (l1.length : Int)) s B d rest r _ (Kd.C_below (Kd.C_below (Kd.C_below H1.out (HBA.out _)) HB1.out) (zad (Below.refl _ _) _)) hc1 (Kd.C_below (Kd.C_below (Kd.C_below H4.out (HBA.out _)) HB1.out) (zad (Below.refl _ _) _)) hc4 (Kd.C_below HX.out (zad (Below.refl _ _) _)) hl HH.out).mono ?_
 rintro e w2 ⟨v0, rfl, hv_, hb2_⟩
 have HV := Lib.hid hv_
 have HB2 := Lib.hid hb2_
 clear hv_ hb2_
 go_wp2_with fail
 go_ret
 exact ⟨v0, rfl, Kd.R_lower HV.out (by have := HB1.out.size; simp at this ⊢; omega), (HBA.out _).trans ((HB1.out.trans ((zad (Below.refl _ _) _).trans (HB2.out.mono (by simp)) |>.mono HB1.out.size)).mono (by simp))⟩

set_option maxRecDepth 100000 in
set_option maxHeartbeats 4000000 in
theorem map_3 (k : Nat) (a0 : Int) (A1 : Option Addr) (c1 : Nat) (l1 : List Int) (a2 a3 : Int) (A4 : Option Addr) (c4 : Nat) (l4 : List S24) (a5 : Int) (a6 a7 : ByteArray) (A : Option Addr) (c : Nat) (pos : List Int) (after : Bool) (r : List Int) (w : World) (hr1 : (Kd.int .i64).C w A1 l1.length l1) (hc1 : l1.length ≤ c1) (hr4 : Kd.C k24 w A4 l4.length l4) (hc4 : l4.length ≤ c4) (hr : (Kd.int .i64).C w A pos.length pos) (hc : pos.length ≤ c) (hb : cutB l1 pos = true) (hm : pos.length ≤ 4611686018427387904) (hm1 : l1.length ≤ 4611686018427387904) (s : Int) (hs : s = if pos.length = l1.length + 1 then 0 else rd pos ((l1.length : Int) + 1)) (rest : List Int) (hre : rest = pos.drop (l1.length + 2)) (k1 : ¬ a0 = 1) (k2 : ¬ a0 = 2) (k3 : a0 = 3) (h : posmap_place_wrap.f k a0 l1 a2 a3 l4 a5 a6 a7 (rd pos (l1.length : Int)) s rest after = some r) :
  Calls Try.prog 14 #[.agg #[.int .i64 a0, .slice A1 l1.length c1, .int .i64 a2, .int .i64 a3, .slice A4 l4.length c4, .int .i64 a5, .string a6, .string a7], .slice A pos.length c, .bool after] w fun e w' => ∃ v0_ : Value, e = .returned (v0_) ∧ Kd.R (Kd.int .i64) 3 w' w.heap.size (fun _ => True) v0_ r ∧ Below w.heap.size w w' := by
 have hu := Try.underlying27
 have hu2 := Try.underlying65
 have e1 : (a0 == 1) = false := by simpa using k1
 have e2 : (a0 == 2) = false := by simpa using k2
 have e3 : (a0 == 3) = true := by simpa using k3
 have HC := Lib.hid (fun o => map_cut a0 A1 c1 l1 a2 a3 A4 c4 l4 a5 a6 a7 A c pos (w.alloc o) (Kd.C_below hr1 (zad (Below.refl _ _) o)) hc1 (Kd.C_below hr4 (zad (Below.refl _ _) o)) hc4 (Kd.C_below hr (zad (Below.refl _ _) o)) hc hb hm hm1 s hs rest hre)
 have H1 := Lib.hid hr1
 have H4 := Lib.hid hr4
 have HP := Lib.hid hr
 have HH := Lib.hid h
 have HBA := Lib.hid (fun o => zad (Below.refl w.heap.size w) o)
 clear hr1 hr4 hr h hb hs hre k1 k2 k3
 go_enter Try.func14, Try.ntmps14
 go_wp2_with fail
 refine (HC.out _).mono ?_
 rintro e w1 ⟨B, d, rfl, hl, hx_, hb1_⟩
 have HX := Lib.hid hx_
 have HB1 := Lib.hid hb1_
 obtain ⟨hc1_, hf1_⟩ := bcell hb1_
 have hz_ : w.heap.size + 1 ≤ w1.heap.size := by
  have h_ := hb1_.size
  simp at h_
  omega
 have hk0 : ∀ o, (w1.alloc o).cell? ⟨w.heap.size, 0, none⟩ = some (.int .i64 a0) := fun o => zat (zad (Below.refl _ _) o) (zat hb1_ (by simp))
 clear hx_ hb1_
 go_wp2_with fail
 refine (posmap_place_wrap.calls k a0 A1 c1 l1 a2 a3 A4 c4 l4 a5 a6 a7 (rd pos (l1.length : Int)) s B d rest after r _ (Kd.C_below (Kd.C_below (Kd.C_below H1.out (HBA.out _)) HB1.out) (zad (Below.refl _ _) _)) hc1 (Kd.C_below (Kd.C_below (Kd.C_below H4.out (HBA.out _)) HB1.out) (zad (Below.refl _ _) _)) hc4 (Kd.C_below HX.out (zad (Below.refl _ _) _)) hl HH.out).mono ?_
 rintro e w2 ⟨v0, rfl, hv_, hb2_⟩
 have HV := Lib.hid hv_
 have HB2 := Lib.hid hb2_
 clear hv_ hb2_
 go_wp2_with fail
 go_ret
 exact ⟨v0, rfl, Kd.R_lower HV.out (by have := HB1.out.size; simp at this ⊢; omega), (HBA.out _).trans ((HB1.out.trans ((zad (Below.refl _ _) _).trans (HB2.out.mono (by simp)) |>.mono HB1.out.size)).mono (by simp))⟩

set_option maxRecDepth 100000 in
set_option maxHeartbeats 4000000 in
theorem map_4 (k : Nat) (a0 : Int) (A1 : Option Addr) (c1 : Nat) (l1 : List Int) (a2 a3 : Int) (A4 : Option Addr) (c4 : Nat) (l4 : List S24) (a5 : Int) (a6 a7 : ByteArray) (A : Option Addr) (c : Nat) (pos : List Int) (after : Bool) (r : List Int) (w : World) (hr1 : (Kd.int .i64).C w A1 l1.length l1) (hc1 : l1.length ≤ c1) (hr4 : Kd.C k24 w A4 l4.length l4) (hc4 : l4.length ≤ c4) (hr : (Kd.int .i64).C w A pos.length pos) (hc : pos.length ≤ c) (hb : cutB l1 pos = true) (hm : pos.length ≤ 4611686018427387904) (hm1 : l1.length ≤ 4611686018427387904) (s : Int) (hs : s = if pos.length = l1.length + 1 then 0 else rd pos ((l1.length : Int) + 1)) (rest : List Int) (hre : rest = pos.drop (l1.length + 2)) (k1 : ¬ a0 = 1) (k2 : ¬ a0 = 2) (k3 : ¬ a0 = 3) (k4 : a0 = 4) (h : posmap_place_unwrap.f k a0 l1 a2 a3 l4 a5 a6 a7 (rd pos (l1.length : Int)) s rest = some r) :
  Calls Try.prog 14 #[.agg #[.int .i64 a0, .slice A1 l1.length c1, .int .i64 a2, .int .i64 a3, .slice A4 l4.length c4, .int .i64 a5, .string a6, .string a7], .slice A pos.length c, .bool after] w fun e w' => ∃ v0_ : Value, e = .returned (v0_) ∧ Kd.R (Kd.int .i64) 3 w' w.heap.size (fun _ => True) v0_ r ∧ Below w.heap.size w w' := by
 have hu := Try.underlying27
 have hu2 := Try.underlying65
 have e1 : (a0 == 1) = false := by simpa using k1
 have e2 : (a0 == 2) = false := by simpa using k2
 have e3 : (a0 == 3) = false := by simpa using k3
 have e4 : (a0 == 4) = true := by simpa using k4
 have HC := Lib.hid (fun o => map_cut a0 A1 c1 l1 a2 a3 A4 c4 l4 a5 a6 a7 A c pos (w.alloc o) (Kd.C_below hr1 (zad (Below.refl _ _) o)) hc1 (Kd.C_below hr4 (zad (Below.refl _ _) o)) hc4 (Kd.C_below hr (zad (Below.refl _ _) o)) hc hb hm hm1 s hs rest hre)
 have H1 := Lib.hid hr1
 have H4 := Lib.hid hr4
 have HP := Lib.hid hr
 have HH := Lib.hid h
 have HBA := Lib.hid (fun o => zad (Below.refl w.heap.size w) o)
 clear hr1 hr4 hr h hb hs hre k1 k2 k3 k4
 go_enter Try.func14, Try.ntmps14
 go_wp2_with fail
 refine (HC.out _).mono ?_
 rintro e w1 ⟨B, d, rfl, hl, hx_, hb1_⟩
 have HX := Lib.hid hx_
 have HB1 := Lib.hid hb1_
 obtain ⟨hc1_, hf1_⟩ := bcell hb1_
 have hz_ : w.heap.size + 1 ≤ w1.heap.size := by
  have h_ := hb1_.size
  simp at h_
  omega
 have hk0 : ∀ o, (w1.alloc o).cell? ⟨w.heap.size, 0, none⟩ = some (.int .i64 a0) := fun o => zat (zad (Below.refl _ _) o) (zat hb1_ (by simp))
 clear hx_ hb1_
 go_wp2_with fail
 refine (posmap_place_unwrap.calls k a0 A1 c1 l1 a2 a3 A4 c4 l4 a5 a6 a7 (rd pos (l1.length : Int)) s B d rest r _ (Kd.C_below (Kd.C_below (Kd.C_below H1.out (HBA.out _)) HB1.out) (zad (Below.refl _ _) _)) hc1 (Kd.C_below (Kd.C_below (Kd.C_below H4.out (HBA.out _)) HB1.out) (zad (Below.refl _ _) _)) hc4 (Kd.C_below HX.out (zad (Below.refl _ _) _)) hl HH.out).mono ?_
 rintro e w2 ⟨v0, rfl, hv_, hb2_⟩
 have HV := Lib.hid hv_
 have HB2 := Lib.hid hb2_
 clear hv_ hb2_
 go_wp2_with fail
 go_ret
 exact ⟨v0, rfl, Kd.R_lower HV.out (by have := HB1.out.size; simp at this ⊢; omega), (HBA.out _).trans ((HB1.out.trans ((zad (Below.refl _ _) _).trans (HB2.out.mono (by simp)) |>.mono HB1.out.size)).mono (by simp))⟩

set_option maxRecDepth 100000 in
set_option maxHeartbeats 4000000 in
theorem map_5 (k : Nat) (a0 : Int) (A1 : Option Addr) (c1 : Nat) (l1 : List Int) (a2 a3 : Int) (A4 : Option Addr) (c4 : Nat) (l4 : List S24) (a5 : Int) (a6 a7 : ByteArray) (A : Option Addr) (c : Nat) (pos : List Int) (after : Bool) (r : List Int) (w : World) (hr1 : (Kd.int .i64).C w A1 l1.length l1) (hc1 : l1.length ≤ c1) (hr4 : Kd.C k24 w A4 l4.length l4) (hc4 : l4.length ≤ c4) (hr : (Kd.int .i64).C w A pos.length pos) (hc : pos.length ≤ c) (hb : cutB l1 pos = true) (hm : pos.length ≤ 4611686018427387904) (hm1 : l1.length ≤ 4611686018427387904) (s : Int) (hs : s = if pos.length = l1.length + 1 then 0 else rd pos ((l1.length : Int) + 1)) (rest : List Int) (hre : rest = pos.drop (l1.length + 2)) (k1 : ¬ a0 = 1) (k2 : ¬ a0 = 2) (k3 : ¬ a0 = 3) (k4 : ¬ a0 = 4) (h : slices_Clone_int_int.f pos = some r) :
  Calls Try.prog 14 #[.agg #[.int .i64 a0, .slice A1 l1.length c1, .int .i64 a2, .int .i64 a3, .slice A4 l4.length c4, .int .i64 a5, .string a6, .string a7], .slice A pos.length c, .bool after] w fun e w' => ∃ v0_ : Value, e = .returned (v0_) ∧ Kd.R (Kd.int .i64) 3 w' w.heap.size (fun _ => True) v0_ r ∧ Below w.heap.size w w' := by
 have hu := Try.underlying27
 have hu2 := Try.underlying65
 have e1 : (a0 == 1) = false := by simpa using k1
 have e2 : (a0 == 2) = false := by simpa using k2
 have e3 : (a0 == 3) = false := by simpa using k3
 have e4 : (a0 == 4) = false := by simpa using k4
 have HC := Lib.hid (fun o => map_cut a0 A1 c1 l1 a2 a3 A4 c4 l4 a5 a6 a7 A c pos (w.alloc o) (Kd.C_below hr1 (zad (Below.refl _ _) o)) hc1 (Kd.C_below hr4 (zad (Below.refl _ _) o)) hc4 (Kd.C_below hr (zad (Below.refl _ _) o)) hc hb hm hm1 s hs rest hre)
 have H1 := Lib.hid hr1
 have H4 := Lib.hid hr4
 have HP := Lib.hid hr
 have HH := Lib.hid h
 have HBA := Lib.hid (fun o => zad (Below.refl w.heap.size w) o)
 clear hr1 hr4 hr h hb hs hre k1 k2 k3 k4
 go_enter Try.func14, Try.ntmps14
 go_wp2_with fail
 refine (HC.out _).mono ?_
 rintro e w1 ⟨B, d, rfl, hl, hx_, hb1_⟩
 have HX := Lib.hid hx_
 have HB1 := Lib.hid hb1_
 obtain ⟨hc1_, hf1_⟩ := bcell hb1_
 have hz_ : w.heap.size + 1 ≤ w1.heap.size := by
  have h_ := hb1_.size
  simp at h_
  omega
 have hk0 : ∀ o, (w1.alloc o).cell? ⟨w.heap.size, 0, none⟩ = some (.int .i64 a0) := fun o => zat (zad (Below.refl _ _) o) (zat hb1_ (by simp))
 clear hx_ hb1_
 go_wp2_with fail
 refine (slices_Clone_int_int.calls A c pos r _ (Kd.C_below (Kd.C_below (Kd.C_below HP.out (HBA.out _)) HB1.out) (zad (Below.refl _ _) _)) hc HH.out).mono ?_
 rintro e w2 ⟨v0, rfl, hv_, hb2_⟩
 have HV := Lib.hid hv_
 have HB2 := Lib.hid hb2_
 clear hv_ hb2_
 go_wp2_with fail
 go_ret
 exact ⟨v0, rfl, Kd.R_lower HV.out (by have := HB1.out.size; simp at this ⊢; omega), (HBA.out _).trans ((HB1.out.trans ((zad (Below.refl _ _) _).trans (HB2.out.mono (by simp)) |>.mono HB1.out.size)).mono (by simp))⟩

set_option maxRecDepth 100000 in
set_option maxHeartbeats 4000000 in
theorem map_no (a0 : Int) (A1 : Option Addr) (c1 : Nat) (l1 : List Int) (a2 a3 : Int) (A4 : Option Addr) (c4 : Nat) (l4 : List S24) (a5 : Int) (a6 a7 : ByteArray) (A : Option Addr) (c : Nat) (pos : List Int) (after : Bool) (r : List Int) (w : World) (hr1 : (Kd.int .i64).C w A1 l1.length l1) (hc1 : l1.length ≤ c1) (hr4 : Kd.C k24 w A4 l4.length l4) (hc4 : l4.length ≤ c4) (hr : (Kd.int .i64).C w A pos.length pos) (hc : pos.length ≤ c) (hb : cutB l1 pos = false) (hm : pos.length ≤ 4611686018427387904) (hm1 : l1.length ≤ 4611686018427387904) (h : slices_Clone_int_int.f pos = some r) :
  Calls Try.prog 14 #[.agg #[.int .i64 a0, .slice A1 l1.length c1, .int .i64 a2, .int .i64 a3, .slice A4 l4.length c4, .int .i64 a5, .string a6, .string a7], .slice A pos.length c, .bool after] w fun e w' => ∃ v0_ : Value, e = .returned (v0_) ∧ Kd.R (Kd.int .i64) 3 w' w.heap.size (fun _ => True) v0_ r ∧ Below w.heap.size w w' := by
 have hu := Try.underlying27
 have hu2 := Try.underlying65
 have HC := Lib.hid (fun o => cut_no a0 A1 c1 l1 a2 a3 A4 c4 l4 a5 a6 a7 A c pos (w.alloc o) hc1 (Kd.C_below hr1 (zad (Below.refl _ _) o)) (Kd.C_below hr (zad (Below.refl _ _) o)) hc hb hm hm1)
 have HP := Lib.hid hr
 have HH := Lib.hid h
 have HBA := Lib.hid (fun o => zad (Below.refl w.heap.size w) o)
 clear hr1 hr4 hr h hb
 go_enter Try.func14, Try.ntmps14
 go_wp2_with fail
 refine (HC.out _).mono ?_
 rintro e w1 ⟨rfl, hb1_⟩
 have HB1 := Lib.hid hb1_
 obtain ⟨hc1_, hf1_⟩ := bcell hb1_
 clear hb1_
 go_wp2_with fail
 refine (slices_Clone_int_int.calls A c pos r _ (Kd.C_below (Kd.C_below (Kd.C_below HP.out (HBA.out _)) HB1.out) (zad (Below.refl _ _) _)) hc HH.out).mono ?_
 rintro e w2 ⟨v0, rfl, hv_, hb2_⟩
 have HV := Lib.hid hv_
 have HB2 := Lib.hid hb2_
 clear hv_ hb2_
 go_wp2_with fail
 go_ret
 exact ⟨v0, rfl, Kd.R_lower HV.out (by have := HB1.out.size; simp at this ⊢; omega), (HBA.out _).trans ((HB1.out.trans ((zad (Below.refl _ _) _).trans (HB2.out.mono (by simp)) |>.mono HB1.out.size)).mono (by simp))⟩

def posmap_Map.f (k : Nat) (a0_0 : Int) (l0_1 : List Int) (a0_2 : Int) (a0_3 : Int) (l0_4 : List (S24)) (a0_5 : Int) (a0_6 : ByteArray) (a0_7 : ByteArray) (l1 : List Int) (a2 : Bool) : Option (List Int) := (posmap_cut.f a0_0 l0_1 a0_2 a0_3 l0_4 a0_5 a0_6 a0_7 l1).bind fun bt => (if bt.2.2.2.2.2.2.2.2.2.2.2 = true then (if a0_0 = 1 then ((posmap_place_insert.f k bt.1 bt.2.1 bt.2.2.1 bt.2.2.2.1 bt.2.2.2.2.1 bt.2.2.2.2.2.1 bt.2.2.2.2.2.2.1 bt.2.2.2.2.2.2.2.1 bt.2.2.2.2.2.2.2.2.1 bt.2.2.2.2.2.2.2.2.2.1 bt.2.2.2.2.2.2.2.2.2.2.1 a2).bind fun t => (some t)) else (if a0_0 = 2 then ((posmap_place_remove.f k bt.1 bt.2.1 bt.2.2.1 bt.2.2.2.1 bt.2.2.2.2.1 bt.2.2.2.2.2.1 bt.2.2.2.2.2.2.1 bt.2.2.2.2.2.2.2.1 bt.2.2.2.2.2.2.2.2.1 bt.2.2.2.2.2.2.2.2.2.1 bt.2.2.2.2.2.2.2.2.2.2.1).bind fun t => (some t)) else (if a0_0 = 3 then ((posmap_place_wrap.f k bt.1 bt.2.1 bt.2.2.1 bt.2.2.2.1 bt.2.2.2.2.1 bt.2.2.2.2.2.1 bt.2.2.2.2.2.2.1 bt.2.2.2.2.2.2.2.1 bt.2.2.2.2.2.2.2.2.1 bt.2.2.2.2.2.2.2.2.2.1 bt.2.2.2.2.2.2.2.2.2.2.1 a2).bind fun t => (some t)) else (if a0_0 = 4 then ((posmap_place_unwrap.f k bt.1 bt.2.1 bt.2.2.1 bt.2.2.2.1 bt.2.2.2.2.1 bt.2.2.2.2.2.1 bt.2.2.2.2.2.2.1 bt.2.2.2.2.2.2.2.1 bt.2.2.2.2.2.2.2.2.1 bt.2.2.2.2.2.2.2.2.2.1 bt.2.2.2.2.2.2.2.2.2.2.1).bind fun t => (some t)) else ((slices_Clone_int_int.f l1).bind fun t => (some t)))))) else ((slices_Clone_int_int.f l1).bind fun t => (some t)))
theorem posmap_Map.mono : ∀ a0 a1 a2 a3 a4 a5 a6 a7 a8 a9 k, LeO (posmap_Map.f k a0 a1 a2 a3 a4 a5 a6 a7 a8 a9) (posmap_Map.f (k + 1) a0 a1 a2 a3 a4 a5 a6 a7 a8 a9) := by
 intro a0 a1 a2 a3 a4 a5 a6 a7 a8 a9 k
 unfold posmap_Map.f
 repeat' first
   | (with_reducible exact posmap_place_insert.mono _ _ _ _ _ _ _ _ _ _ _ _ _)
   | (with_reducible exact posmap_place_remove.mono _ _ _ _ _ _ _ _ _ _ _ _)
   | (with_reducible exact posmap_place_unwrap.mono _ _ _ _ _ _ _ _ _ _ _ _)
   | (with_reducible exact posmap_place_wrap.mono _ _ _ _ _ _ _ _ _ _ _ _ _)
   | (with_reducible exact LeO.refl _)
   | (with_reducible exact LeO.none _)
   | (with_reducible refine LeO.ite ?_ ?_)
   | (with_reducible refine LeO.bind ?_ (fun _ => ?_))
theorem posmap_Map.calls (k : Nat) (a0_0 : Int) (A0_1 : Option Addr) (c0_1 : Nat) (l0_1 : List Int) (a0_2 : Int) (a0_3 : Int) (A0_4 : Option Addr) (c0_4 : Nat) (l0_4 : List (S24)) (a0_5 : Int) (a0_6 : ByteArray) (a0_7 : ByteArray) (A1 : Option Addr) (c1 : Nat) (l1 : List Int) (a2 : Bool) (r : List Int) (w : World) (hr0_1 : Kd.C (Kd.int .i64) w A0_1 l0_1.length l0_1) (hc0_1 : l0_1.length ≤ c0_1) (hr0_4 : Kd.C k24 w A0_4 l0_4.length l0_4) (hc0_4 : l0_4.length ≤ c0_4) (hr1 : Kd.C (Kd.int .i64) w A1 l1.length l1) (hc1 : l1.length ≤ c1) (h : posmap_Map.f k a0_0 l0_1 a0_2 a0_3 l0_4 a0_5 a0_6 a0_7 l1 a2 = some r) :
  Calls Try.prog 14 #[.agg #[.int .i64 a0_0, .slice A0_1 l0_1.length c0_1, .int .i64 a0_2, .int .i64 a0_3, .slice A0_4 l0_4.length c0_4, .int .i64 a0_5, .string a0_6, .string a0_7], .slice A1 l1.length c1, .bool a2] w fun e w' => ∃ v0_ : Value, e = .returned (v0_) ∧ Kd.R (Kd.int .i64) 3 w' w.heap.size (fun _ => True) v0_ r ∧ Below w.heap.size w w' := by
 unfold posmap_Map.f posmap_cut.f at h
 by_cases hl : l1.length ≤ 4611686018427387904 ∧ l0_1.length ≤ 4611686018427387904
 ·rw [if_pos hl, Option.bind_some] at h
  by_cases hb : cutB l0_1 l1 = true
  ·rw [if_pos hb] at h
   dsimp only at h
   rw [if_pos rfl] at h
   by_cases k1 : a0_0 = 1
   ·rw [if_pos k1] at h
    obtain ⟨t, ht, h⟩ := Option.bind_eq_some_iff.1 h
    obtain rfl := Option.some.inj h
    exact map_1 k a0_0 A0_1 c0_1 l0_1 a0_2 a0_3 A0_4 c0_4 l0_4 a0_5 a0_6 a0_7 A1 c1 l1 a2 t w hr0_1 hc0_1 hr0_4 hc0_4 hr1 hc1 hb hl.1 hl.2 _ rfl _ rfl k1 ht
   ·rw [if_neg k1] at h
    by_cases k2 : a0_0 = 2
    ·rw [if_pos k2] at h
     obtain ⟨t, ht, h⟩ := Option.bind_eq_some_iff.1 h
     obtain rfl := Option.some.inj h
     exact map_2 k a0_0 A0_1 c0_1 l0_1 a0_2 a0_3 A0_4 c0_4 l0_4 a0_5 a0_6 a0_7 A1 c1 l1 a2 t w hr0_1 hc0_1 hr0_4 hc0_4 hr1 hc1 hb hl.1 hl.2 _ rfl _ rfl k1 k2 ht
    ·rw [if_neg k2] at h
     by_cases k3 : a0_0 = 3
     ·rw [if_pos k3] at h
      obtain ⟨t, ht, h⟩ := Option.bind_eq_some_iff.1 h
      obtain rfl := Option.some.inj h
      exact map_3 k a0_0 A0_1 c0_1 l0_1 a0_2 a0_3 A0_4 c0_4 l0_4 a0_5 a0_6 a0_7 A1 c1 l1 a2 t w hr0_1 hc0_1 hr0_4 hc0_4 hr1 hc1 hb hl.1 hl.2 _ rfl _ rfl k1 k2 k3 ht
     ·rw [if_neg k3] at h
      by_cases k4 : a0_0 = 4
      ·rw [if_pos k4] at h
       obtain ⟨t, ht, h⟩ := Option.bind_eq_some_iff.1 h
       obtain rfl := Option.some.inj h
       exact map_4 k a0_0 A0_1 c0_1 l0_1 a0_2 a0_3 A0_4 c0_4 l0_4 a0_5 a0_6 a0_7 A1 c1 l1 a2 t w hr0_1 hc0_1 hr0_4 hc0_4 hr1 hc1 hb hl.1 hl.2 _ rfl _ rfl k1 k2 k3 k4 ht
      ·rw [if_neg k4] at h
       obtain ⟨t, ht, h⟩ := Option.bind_eq_some_iff.1 h
       obtain rfl := Option.some.inj h
       exact map_5 k a0_0 A0_1 c0_1 l0_1 a0_2 a0_3 A0_4 c0_4 l0_4 a0_5 a0_6 a0_7 A1 c1 l1 a2 t w hr0_1 hc0_1 hr0_4 hc0_4 hr1 hc1 hb hl.1 hl.2 _ rfl _ rfl k1 k2 k3 k4 ht
  ·rw [if_neg hb, if_neg (by simp)] at h
   obtain ⟨t, ht, h⟩ := Option.bind_eq_some_iff.1 h
   obtain rfl := Option.some.inj h
   exact map_no a0_0 A0_1 c0_1 l0_1 a0_2 a0_3 A0_4 c0_4 l0_4 a0_5 a0_6 a0_7 A1 c1 l1 a2 t w hr0_1 hc0_1 hr0_4 hc0_4 hr1 hc1 (Bool.eq_false_iff.2 hb) hl.1 hl.2 ht
 ·rw [if_neg hl] at h
  cases h

end Go.Proofs.Ytikgflpobacndaa.P
