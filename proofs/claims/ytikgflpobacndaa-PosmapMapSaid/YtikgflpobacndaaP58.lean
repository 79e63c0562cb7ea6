--m
/- Written by wip/tool/hprint.py (the kit's print.py with hand-proved contracts set in): contracts of the functions that the statements of this seat reach, without conditions beyond those named in each theorem. -/
import Derived.Test.YtikgflpobacndaaP0
import Derived.Test.YtikgflpobacndaaP1
import Derived.Test.YtikgflpobacndaaP3
import Derived.Test.YtikgflpobacndaaP5
import Derived.Test.YtikgflpobacndaaP12
import Derived.Lib.Hide
namespace Go.Proofs.Ytikgflpobacndaa.P
open Go.RowKit Go.Proofs.YtikgflpobacndaaW.PrintWords Go.Proofs.YtikgflpobacndaaW.PrintLast Go.Proofs.YtikgflpobacndaaW.PrintMore
attribute [local go_sem] zaz zaA zaB zaC zaD zaE zaF zaG   -- for this text's walks alone
set_option linter.unusedVariables false
set_option linter.unusedSimpArgs false

-- IMPORTS: Derived.Lib.Hide

set_option maxRecDepth 100000 in
set_option maxHeartbeats 4000000 in
theorem lost_2a (a0 : Int) (A1 : Option Addr) (c1 : Nat) (l1 : List Int) (a2 a3 : Int) (A4 : Option Addr) (c4 : Nat) (l4 : List S24) (a5 : Int) (a6 a7 : ByteArray) (A : Option Addr) (c : Nat) (pos : List Int) (w : World) (hr1 : (Kd.int .i64).C w A1 l1.length l1) (hc1 : l1.length ≤ c1) (hr4 : Kd.C k24 w A4 l4.length l4) (hc4 : l4.length ≤ c4) (hr : (Kd.int .i64).C w A pos.length pos) (hc : pos.length ≤ c) (hb : cutB l1 pos = true) (hm : pos.length ≤ 4611686018427387904) (hm1 : l1.length ≤ 4611686018427387904) (s : Int) (hs : s = if pos.length = l1.length + 1 then 0 else rd pos ((l1.length : Int) + 1)) (rest : List Int) (hre : rest = pos.drop (l1.length + 2)) (i : Int) (hi : i = rd pos (l1.length : Int)) (k2 : a0 = 2) (g1 : ¬ i ≥ a2) :
  Calls Try.prog 24 #[.agg #[.int .i64 a0, .slice A1 l1.length c1, .int .i64 a2, .int .i64 a3, .slice A4 l4.length c4, .int .i64 a5, .string a6, .string a7], .slice A pos.length c] w fun e w' => e = .returned (.bool false) ∧ Below w.heap.size w w' := by
 have hu := Try.underlying27
 have hu2 := Try.underlying65
 have z1 : (a0 == 2) = true := by simpa using k2
 have d1 : decide (a2 ≤ i) = false := decide_eq_false g1
 clear k2 g1
 have HC := Lib.hid (fun o => map_cut a0 A1 c1 l1 a2 a3 A4 c4 l4 a5 a6 a7 A c pos (w.alloc o) (Kd.C_below hr1 (zad (Below.refl _ _) o)) hc1 (Kd.C_below hr4 (zad (Below.refl _ _) o)) hc4 (Kd.C_below hr (zad (Below.refl _ _) o)) hc hb hm hm1 s hs rest hre)
 rw [← hi] at HC
 have H1 := Lib.hid hr1
 have H4 := Lib.hid hr4
 have HBA := Lib.hid (fun o => zad (Below.refl w.heap.size w) o)
 clear hr1 hr4 hr hb hs hre hi
 go_enter Try.func24, Try.ntmps24
 go_wp2_with fail
 refine (HC.out _).mono ?_
 rintro e w1 ⟨B, d, rfl, hl, hx_, hb1_⟩
 have HX := Lib.hid hx_
 have HB1 := Lib.hid hb1_
 obtain ⟨hc1_, hf1_⟩ := bcell hb1_
 have hz_ : w.heap.size + 1 ≤ w1.heap.size := by
  have h_ := hb1_.size
  simp at h_
  omega
 have hk0 : ∀ o, (w1.alloc o).cell? ⟨w.heap.size, 0, none⟩ = some (.int .i64 a0) := fun o => zat (zad (Below.refl _ _) o) (zat hb1_ (by simp))
 have hk2 : ∀ o, (w1.alloc o).cell? ⟨w.heap.size, 2, none⟩ = some (.int .i64 a2) := fun o => zat (zad (Below.refl _ _) o) (zat hb1_ (by simp))
 have hk4 : ∀ o, (w1.alloc o).cell? ⟨w.heap.size, 4, none⟩ = some (.slice A4 l4.length c4) := fun o => zat (zad (Below.refl _ _) o) (zat hb1_ (by simp))
 have hk5 : ∀ o, (w1.alloc o).cell? ⟨w.heap.size, 5, none⟩ = some (.int .i64 a5) := fun o => zat (zad (Below.refl _ _) o) (zat hb1_ (by simp))
 clear hx_ hb1_
 go_wp2
 go_ret
 exact ⟨by first | rfl | simp [*], (HBA.out _).trans ((HB1.out.trans ((zad (Below.refl _ _) _) |>.mono HB1.out.size)).mono (by simp))⟩
set_option maxRecDepth 100000 in
set_option maxHeartbeats 4000000 in
theorem lost_2b (a0 : Int) (A1 : Option Addr) (c1 : Nat) (l1 : List Int) (a2 a3 : Int) (A4 : Option Addr) (c4 : Nat) (l4 : List S24) (a5 : Int) (a6 a7 : ByteArray) (A : Option Addr) (c : Nat) (pos : List Int) (w : World) (hr1 : (Kd.int .i64).C w A1 l1.length l1) (hc1 : l1.length ≤ c1) (hr4 : Kd.C k24 w A4 l4.length l4) (hc4 : l4.length ≤ c4) (hr : (Kd.int .i64).C w A pos.length pos) (hc : pos.length ≤ c) (hb : cutB l1 pos = true) (hm : pos.length ≤ 4611686018427387904) (hm1 : l1.length ≤ 4611686018427387904) (s : Int) (hs : s = if pos.length = l1.length + 1 then 0 else rd pos ((l1.length : Int) + 1)) (rest : List Int) (hre : rest = pos.drop (l1.length + 2)) (i : Int) (hi : i = rd pos (l1.length : Int)) (k2 : a0 = 2) (g1 : i ≥ a2) (g2 : ¬ i < wrap64 (a2 + (l4.length : Int))) :
  Calls Try.prog 24 #[.agg #[.int .i64 a0, .slice A1 l1.length c1, .int .i64 a2, .int .i64 a3, .slice A4 l4.length c4, .int .i64 a5, .string a6, .string a7], .slice A pos.length c] w fun e w' => e = .returned (.bool false) ∧ Below w.heap.size w w' := by
 have hu := Try.underlying27
 have hu2 := Try.underlying65
 have z1 : (a0 == 2) = true := by simpa using k2
 have d1 : decide (a2 ≤ i) = true := decide_eq_true g1
 have d2 : decide (i < wrap64 (a2 + (l4.length : Int))) = false := decide_eq_false g2
 clear k2 g1 g2
 have HC := Lib.hid (fun o => map_cut a0 A1 c1 l1 a2 a3 A4 c4 l4 a5 a6 a7 A c pos (w.alloc o) (Kd.C_below hr1 (zad (Below.refl _ _) o)) hc1 (Kd.C_below hr4 (zad (Below.refl _ _) o)) hc4 (Kd.C_below hr (zad (Below.refl _ _) o)) hc hb hm hm1 s hs rest hre)
 rw [← hi] at HC
 have H1 := Lib.hid hr1
 have H4 := Lib.hid hr4
 have HBA := Lib.hid (fun o => zad (Below.refl w.heap.size w) o)
 clear hr1 hr4 hr hb hs hre hi
 go_enter Try.func24, Try.ntmps24
 go_wp2_with fail
 refine (HC.out _).mono ?_
 rintro e w1 ⟨B, d, rfl, hl, hx_, hb1_⟩
 have HX := Lib.hid hx_
 have HB1 := Lib.hid hb1_
 obtain ⟨hc1_, hf1_⟩ := bcell hb1_
 have hz_ : w.heap.size + 1 ≤ w1.heap.size := by
  have h_ := hb1_.size
  simp at h_
  omega
 have hk0 : ∀ o, (w1.alloc o).cell? ⟨w.heap.size, 0, none⟩ = some (.int .i64 a0) := fun o => zat (zad (Below.refl _ _) o) (zat hb1_ (by simp))
 have hk2 : ∀ o, (w1.alloc o).cell? ⟨w.heap.size, 2, none⟩ = some (.int .i64 a2) := fun o => zat (zad (Below.refl _ _) o) (zat hb1_ (by simp))
 have hk4 : ∀ o, (w1.alloc o).cell? ⟨w.heap.size, 4, none⟩ = some (.slice A4 l4.length c4) := fun o => zat (zad (Below.refl _ _) o) (zat hb1_ (by simp))
 have hk5 : ∀ o, (w1.alloc o).cell? ⟨w.heap.size, 5, none⟩ = some (.int .i64 a5) := fun o => zat (zad (Below.refl _ _) o) (zat hb1_ (by simp))
 clear hx_ hb1_
 go_wp2
 go_ret
 exact ⟨by first | rfl | simp [*], (HBA.out _).trans ((HB1.out.trans ((zad (Below.refl _ _) _) |>.mono HB1.out.size)).mono (by simp))⟩
set_option maxRecDepth 100000 in
set_option maxHeartbeats 4000000 in
theorem lost_2t (a0 : Int) (A1 : Option Addr) (c1 : Nat) (l1 : List Int) (a2 a3 : Int) (A4 : Option Addr) (c4 : Nat) (l4 : List S24) (a5 : Int) (a6 a7 : ByteArray) (A : Option Addr) (c : Nat) (pos : List Int) (w : World) (hr1 : (Kd.int .i64).C w A1 l1.length l1) (hc1 : l1.length ≤ c1) (hr4 : Kd.C k24 w A4 l4.length l4) (hc4 : l4.length ≤ c4) (hr : (Kd.int .i64).C w A pos.length pos) (hc : pos.length ≤ c) (hb : cutB l1 pos = true) (hm : pos.length ≤ 4611686018427387904) (hm1 : l1.length ≤ 4611686018427387904) (s : Int) (hs : s = if pos.length = l1.length + 1 then 0 else rd pos ((l1.length : Int) + 1)) (rest : List Int) (hre : rest = pos.drop (l1.length + 2)) (i : Int) (hi : i = rd pos (l1.length : Int)) (k2 : a0 = 2) (g1 : i ≥ a2) (g2 : i < wrap64 (a2 + (l4.length : Int))) (g3 : rest.length = 0) :
  Calls Try.prog 24 #[.agg #[.int .i64 a0, .slice A1 l1.length c1, .int .i64 a2, .int .i64 a3, .slice A4 l4.length c4, .int .i64 a5, .string a6, .string a7], .slice A pos.length c] w fun e w' => e = .returned (.bool (decide (i > a2))) ∧ Below w.heap.size w w' := by
 have hu := Try.underlying27
 have hu2 := Try.underlying65
 have z1 : (a0 == 2) = true := by simpa using k2
 have d1 : decide (a2 ≤ i) = true := decide_eq_true g1
 have d2 : decide (i < wrap64 (a2 + (l4.length : Int))) = true := decide_eq_true g2
 clear k2 g1 g2
 have d3 : ((rest.length : Int) == 0) = true := by simpa using g3
 clear g3
 have HC := Lib.hid (fun o => map_cut a0 A1 c1 l1 a2 a3 A4 c4 l4 a5 a6 a7 A c pos (w.alloc o) (Kd.C_below hr1 (zad (Below.refl _ _) o)) hc1 (Kd.C_below hr4 (zad (Below.refl _ _) o)) hc4 (Kd.C_below hr (zad (Below.refl _ _) o)) hc hb hm hm1 s hs rest hre)
 rw [← hi] at HC
 have H1 := Lib.hid hr1
 have H4 := Lib.hid hr4
 have HBA := Lib.hid (fun o => zad (Below.refl w.heap.size w) o)
 clear hr1 hr4 hr hb hs hre hi
 go_enter Try.func24, Try.ntmps24
 go_wp2_with fail
 refine (HC.out _).mono ?_
 rintro e w1 ⟨B, d, rfl, hl, hx_, hb1_⟩
 have HX := Lib.hid hx_
 have HB1 := Lib.hid hb1_
 obtain ⟨hc1_, hf1_⟩ := bcell hb1_
 have hz_ : w.heap.size + 1 ≤ w1.heap.size := by
  have h_ := hb1_.size
  simp at h_
  omega
 have hk0 : ∀ o, (w1.alloc o).cell? ⟨w.heap.size, 0, none⟩ = some (.int .i64 a0) := fun o => zat (zad (Below.refl _ _) o) (zat hb1_ (by simp))
 have hk2 : ∀ o, (w1.alloc o).cell? ⟨w.heap.size, 2, none⟩ = some (.int .i64 a2) := fun o => zat (zad (Below.refl _ _) o) (zat hb1_ (by simp))
 have hk4 : ∀ o, (w1.alloc o).cell? ⟨w.heap.size, 4, none⟩ = some (.slice A4 l4.length c4) := fun o => zat (zad (Below.refl _ _) o) (zat hb1_ (by simp))
 have hk5 : ∀ o, (w1.alloc o).cell? ⟨w.heap.size, 5, none⟩ = some (.int .i64 a5) := fun o => zat (zad (Below.refl _ _) o) (zat hb1_ (by simp))
 clear hx_ hb1_
 go_wp2_with fail
 refine (posmap_place_offset.calls a0 A1 c1 l1 a2 a3 A4 c4 l4 a5 a6 a7 i s B d rest ((rest.length : Int) == 0) _ (Kd.C_below (Kd.C_below (Kd.C_below H1.out (HBA.out _)) HB1.out) (zad (Below.refl _ _) _)) hc1 (Kd.C_below (Kd.C_below (Kd.C_below H4.out (HBA.out _)) HB1.out) (zad (Below.refl _ _) _)) hc4 (Kd.C_below HX.out (zad (Below.refl _ _) _)) hl (rfl)).mono ?_
 rintro e w2 ⟨rfl, hb2_⟩
 have HB2 := Lib.hid hb2_
 have hm0 : w2.cell? ⟨w.heap.size, 0, none⟩ = some (.int .i64 a0) := zat hb2_ (hk0 _)
 have hm2 : w2.cell? ⟨w.heap.size, 2, none⟩ = some (.int .i64 a2) := zat hb2_ (hk2 _)
 have hm4 : w2.cell? ⟨w.heap.size, 4, none⟩ = some (.slice A4 l4.length c4) := zat hb2_ (hk4 _)
 have hm5 : w2.cell? ⟨w.heap.size, 5, none⟩ = some (.int .i64 a5) := zat hb2_ (hk5 _)
 have hp8 : w2.cell? ⟨w1.heap.size, 8, none⟩ = some (.int .i64 i) := zat hb2_ (by simp)
 have hp9 : w2.cell? ⟨w1.heap.size, 9, none⟩ = some (.int .i64 s) := zat hb2_ (by simp)
 clear hb2_
 go_wp2
 go_ret
 exact ⟨by first | rfl | simp [*], (HBA.out _).trans ((HB1.out.trans ((zad (Below.refl _ _) _).trans (HB2.out.mono (by simp)) |>.mono HB1.out.size)).mono (by simp))⟩
set_option maxRecDepth 100000 in
set_option maxHeartbeats 4000000 in
theorem lost_2f (a0 : Int) (A1 : Option Addr) (c1 : Nat) (l1 : List Int) (a2 a3 : Int) (A4 : Option Addr) (c4 : Nat) (l4 : List S24) (a5 : Int) (a6 a7 : ByteArray) (A : Option Addr) (c : Nat) (pos : List Int) (w : World) (hr1 : (Kd.int .i64).C w A1 l1.length l1) (hc1 : l1.length ≤ c1) (hr4 : Kd.C k24 w A4 l4.length l4) (hc4 : l4.length ≤ c4) (hr : (Kd.int .i64).C w A pos.length pos) (hc : pos.length ≤ c) (hb : cutB l1 pos = true) (hm : pos.length ≤ 4611686018427387904) (hm1 : l1.length ≤ 4611686018427387904) (s : Int) (hs : s = if pos.length = l1.length + 1 then 0 else rd pos ((l1.length : Int) + 1)) (rest : List Int) (hre : rest = pos.drop (l1.length + 2)) (i : Int) (hi : i = rd pos (l1.length : Int)) (k2 : a0 = 2) (g1 : i ≥ a2) (g2 : i < wrap64 (a2 + (l4.length : Int))) (g3 : ¬ rest.length = 0) :
  Calls Try.prog 24 #[.agg #[.int .i64 a0, .slice A1 l1.length c1, .int .i64 a2, .int .i64 a3, .slice A4 l4.length c4, .int .i64 a5, .string a6, .string a7], .slice A pos.length c] w fun e w' => e = .returned (.bool true) ∧ Below w.heap.size w w' := by
 have hu := Try.underlying27
 have hu2 := Try.underlying65
 have z1 : (a0 == 2) = true := by simpa using k2
 have d1 : decide (a2 ≤ i) = true := decide_eq_true g1
 have d2 : decide (i < wrap64 (a2 + (l4.length : Int))) = true := decide_eq_true g2
 clear k2 g1 g2
 have d3 : ((rest.length : Int) == 0) = false := by simpa using g3
 clear g3
 have HC := Lib.hid (fun o => map_cut a0 A1 c1 l1 a2 a3 A4 c4 l4 a5 a6 a7 A c pos (w.alloc o) (Kd.C_below hr1 (zad (Below.refl _ _) o)) hc1 (Kd.C_below hr4 (zad (Below.refl _ _) o)) hc4 (Kd.C_below hr (zad (Below.refl _ _) o)) hc hb hm hm1 s hs rest hre)
 rw [← hi] at HC
 have H1 := Lib.hid hr1
 have H4 := Lib.hid hr4
 have HBA := Lib.hid (fun o => zad (Below.refl w.heap.size w) o)
 clear hr1 hr4 hr hb hs hre hi
 go_enter Try.func24, Try.ntmps24
 go_wp2_with fail
 refine (HC.out _).mono ?_
 rintro e w1 ⟨B, d, rfl, hl, hx_, hb1_⟩
 have HX := Lib.hid hx_
 have HB1 := Lib.hid hb1_
 obtain ⟨hc1_, hf1_⟩ := bcell hb1_
 have hz_ : w.heap.size + 1 ≤ w1.heap.size := by
  have h_ := hb1_.size
  simp at h_
  omega
 have hk0 : ∀ o, (w1.alloc o).cell? ⟨w.heap.size, 0, none⟩ = some (.int .i64 a0) := fun o => zat (zad (Below.refl _ _) o) (zat hb1_ (by simp))
 have hk2 : ∀ o, (w1.alloc o).cell? ⟨w.heap.size, 2, none⟩ = some (.int .i64 a2) := fun o => zat (zad (Below.refl _ _) o) (zat hb1_ (by simp))
 have hk4 : ∀ o, (w1.alloc o).cell? ⟨w.heap.size, 4, none⟩ = some (.slice A4 l4.length c4) := fun o => zat (zad (Below.refl _ _) o) (zat hb1_ (by simp))
 have hk5 : ∀ o, (w1.alloc o).cell? ⟨w.heap.size, 5, none⟩ = some (.int .i64 a5) := fun o => zat (zad (Below.refl _ _) o) (zat hb1_ (by simp))
 clear hx_ hb1_
 go_wp2_with fail
 refine (posmap_place_offset.calls a0 A1 c1 l1 a2 a3 A4 c4 l4 a5 a6 a7 i s B d rest ((rest.length : Int) == 0) _ (Kd.C_below (Kd.C_below (Kd.C_below H1.out (HBA.out _)) HB1.out) (zad (Below.refl _ _) _)) hc1 (Kd.C_below (Kd.C_below (Kd.C_below H4.out (HBA.out _)) HB1.out) (zad (Below.refl _ _) _)) hc4 (Kd.C_below HX.out (zad (Below.refl _ _) _)) hl (rfl)).mono ?_
 rintro e w2 ⟨rfl, hb2_⟩
 have HB2 := Lib.hid hb2_
 have hm0 : w2.cell? ⟨w.heap.size, 0, none⟩ = some (.int .i64 a0) := zat hb2_ (hk0 _)
 have hm2 : w2.cell? ⟨w.heap.size, 2, none⟩ = some (.int .i64 a2) := zat hb2_ (hk2 _)
 have hm4 : w2.cell? ⟨w.heap.size, 4, none⟩ = some (.slice A4 l4.length c4) := zat hb2_ (hk4 _)
 have hm5 : w2.cell? ⟨w.heap.size, 5, none⟩ = some (.int .i64 a5) := zat hb2_ (hk5 _)
 have hp8 : w2.cell? ⟨w1.heap.size, 8, none⟩ = some (.int .i64 i) := zat hb2_ (by simp)
 have hp9 : w2.cell? ⟨w1.heap.size, 9, none⟩ = some (.int .i64 s) := zat hb2_ (by simp)
 clear hb2_
 go_wp2
 go_ret
 exact ⟨by first | rfl | simp [*], (HBA.out _).trans ((HB1.out.trans ((zad (Below.refl _ _) _).trans (HB2.out.mono (by simp)) |>.mono HB1.out.size)).mono (by simp))⟩
set_option maxRecDepth 100000 in
set_option maxHeartbeats 4000000 in
theorem lost_4t (a0 : Int) (A1 : Option Addr) (c1 : Nat) (l1 : List Int) (a2 a3 : Int) (A4 : Option Addr) (c4 : Nat) (l4 : List S24) (a5 : Int) (a6 a7 : ByteArray) (A : Option Addr) (c : Nat) (pos : List Int) (w : World) (hr1 : (Kd.int .i64).C w A1 l1.length l1) (hc1 : l1.length ≤ c1) (hr4 : Kd.C k24 w A4 l4.length l4) (hc4 : l4.length ≤ c4) (hr : (Kd.int .i64).C w A pos.length pos) (hc : pos.length ≤ c) (hb : cutB l1 pos = true) (hm : pos.length ≤ 4611686018427387904) (hm1 : l1.length ≤ 4611686018427387904) (s : Int) (hs : s = if pos.length = l1.length + 1 then 0 else rd pos ((l1.length : Int) + 1)) (rest : List Int) (hre : rest = pos.drop (l1.length + 2)) (i : Int) (hi : i = rd pos (l1.length : Int)) (k4 : a0 = 4) (g3 : rest.length = 0) :
  Calls Try.prog 24 #[.agg #[.int .i64 a0, .slice A1 l1.length c1, .int .i64 a2, .int .i64 a3, .slice A4 l4.length c4, .int .i64 a5, .string a6, .string a7], .slice A pos.length c] w fun e w' => e = .returned (.bool false) ∧ Below w.heap.size w w' := by
 have hu := Try.underlying27
 have hu2 := Try.underlying65
 have z1 : (a0 == 2) = false := by simpa using (by omega : ¬ a0 = 2)
 have z2 : (a0 == 4) = true := by simpa using k4
 clear k4
 have d3 : ((rest.length : Int) == 0) = true := by simpa using g3
 clear g3
 have HC := Lib.hid (fun o => map_cut a0 A1 c1 l1 a2 a3 A4 c4 l4 a5 a6 a7 A c pos (w.alloc o) (Kd.C_below hr1 (zad (Below.refl _ _) o)) hc1 (Kd.C_below hr4 (zad (Below.refl _ _) o)) hc4 (Kd.C_below hr (zad (Below.refl _ _) o)) hc hb hm hm1 s hs rest hre)
 rw [← hi] at HC
 have H1 := Lib.hid hr1
 have H4 := Lib.hid hr4
 have HBA := Lib.hid (fun o => zad (Below.refl w.heap.size w) o)
 clear hr1 hr4 hr hb hs hre hi
 go_enter Try.func24, Try.ntmps24
 go_wp2_with fail
 refine (HC.out _).mono ?_
 rintro e w1 ⟨B, d, rfl, hl, hx_, hb1_⟩
 have HX := Lib.hid hx_
 have HB1 := Lib.hid hb1_
 obtain ⟨hc1_, hf1_⟩ := bcell hb1_
 have hz_ : w.heap.size + 1 ≤ w1.heap.size := by
  have h_ := hb1_.size
  simp at h_
  omega
 have hk0 : ∀ o, (w1.alloc o).cell? ⟨w.heap.size, 0, none⟩ = some (.int .i64 a0) := fun o => zat (zad (Below.refl _ _) o) (zat hb1_ (by simp))
 have hk2 : ∀ o, (w1.alloc o).cell? ⟨w.heap.size, 2, none⟩ = some (.int .i64 a2) := fun o => zat (zad (Below.refl _ _) o) (zat hb1_ (by simp))
 have hk4 : ∀ o, (w1.alloc o).cell? ⟨w.heap.size, 4, none⟩ = some (.slice A4 l4.length c4) := fun o => zat (zad (Below.refl _ _) o) (zat hb1_ (by simp))
 have hk5 : ∀ o, (w1.alloc o).cell? ⟨w.heap.size, 5, none⟩ = some (.int .i64 a5) := fun o => zat (zad (Below.refl _ _) o) (zat hb1_ (by simp))
 clear hx_ hb1_
 go_wp2_with fail
 refine (posmap_place_offset.calls a0 A1 c1 l1 a2 a3 A4 c4 l4 a5 a6 a7 i s B d rest ((rest.length : Int) == 0) _ (Kd.C_below (Kd.C_below (Kd.C_below H1.out (HBA.out _)) HB1.out) (zad (Below.refl _ _) _)) hc1 (Kd.C_below (Kd.C_below (Kd.C_below H4.out (HBA.out _)) HB1.out) (zad (Below.refl _ _) _)) hc4 (Kd.C_below HX.out (zad (Below.refl _ _) _)) hl (rfl)).mono ?_
 rintro e w2 ⟨rfl, hb2_⟩
 have HB2 := Lib.hid hb2_
 have hm0 : w2.cell? ⟨w.heap.size, 0, none⟩ = some (.int .i64 a0) := zat hb2_ (hk0 _)
 have hm2 : w2.cell? ⟨w.heap.size, 2, none⟩ = some (.int .i64 a2) := zat hb2_ (hk2 _)
 have hm4 : w2.cell? ⟨w.heap.size, 4, none⟩ = some (.slice A4 l4.length c4) := zat hb2_ (hk4 _)
 have hm5 : w2.cell? ⟨w.heap.size, 5, none⟩ = some (.int .i64 a5) := zat hb2_ (hk5 _)
 have hp8 : w2.cell? ⟨w1.heap.size, 8, none⟩ = some (.int .i64 i) := zat hb2_ (by simp)
 have hp9 : w2.cell? ⟨w1.heap.size, 9, none⟩ = some (.int .i64 s) := zat hb2_ (by simp)
 clear hb2_
 go_wp2
 go_ret
 exact ⟨by first | rfl | simp [*], (HBA.out _).trans ((HB1.out.trans ((zad (Below.refl _ _) _).trans (HB2.out.mono (by simp)) |>.mono HB1.out.size)).mono (by simp))⟩
set_option maxRecDepth 100000 in
set_option maxHeartbeats 4000000 in
theorem lost_4f (a0 : Int) (A1 : Option Addr) (c1 : Nat) (l1 : List Int) (a2 a3 : Int) (A4 : Option Addr) (c4 : Nat) (l4 : List S24) (a5 : Int) (a6 a7 : ByteArray) (A : Option Addr) (c : Nat) (pos : List Int) (w : World) (hr1 : (Kd.int .i64).C w A1 l1.length l1) (hc1 : l1.length ≤ c1) (hr4 : Kd.C k24 w A4 l4.length l4) (hc4 : l4.length ≤ c4) (hr : (Kd.int .i64).C w A pos.length pos) (hc : pos.length ≤ c) (hb : cutB l1 pos = true) (hm : pos.length ≤ 4611686018427387904) (hm1 : l1.length ≤ 4611686018427387904) (s : Int) (hs : s = if pos.length = l1.length + 1 then 0 else rd pos ((l1.length : Int) + 1)) (rest : List Int) (hre : rest = pos.drop (l1.length + 2)) (i : Int) (hi : i = rd pos (l1.length : Int)) (k4 : a0 = 4) (g3 : ¬ rest.length = 0) (g4 : ¬ i = a2) :
  Calls Try.prog 24 #[.agg #[.int .i64 a0, .slice A1 l1.length c1, .int .i64 a2, .int .i64 a3, .slice A4 l4.length c4, .int .i64 a5, .string a6, .string a7], .slice A pos.length c] w fun e w' => e = .returned (.bool false) ∧ Below w.heap.size w w' := by
 have hu := Try.underlying27
 have hu2 := Try.underlying65
 have z1 : (a0 == 2) = false := by simpa using (by omega : ¬ a0 = 2)
 have z2 : (a0 == 4) = true := by simpa using k4
 clear k4
 have d3 : ((rest.length : Int) == 0) = false := by simpa using g3
 have d4 : (i == a2) = false := by simpa using g4
 clear g3 g4
 have HC := Lib.hid (fun o => map_cut a0 A1 c1 l1 a2 a3 A4 c4 l4 a5 a6 a7 A c pos (w.alloc o) (Kd.C_below hr1 (zad (Below.refl _ _) o)) hc1 (Kd.C_below hr4 (zad (Below.refl _ _) o)) hc4 (Kd.C_below hr (zad (Below.refl _ _) o)) hc hb hm hm1 s hs rest hre)
 rw [← hi] at HC
 have H1 := Lib.hid hr1
 have H4 := Lib.hid hr4
 have HBA := Lib.hid (fun o => zad (Below.refl w.heap.size w) o)
 clear hr1 hr4 hr hb hs hre hi
 go_enter Try.func24, Try.ntmps24
 go_wp2_with fail
 refine (HC.out _).mono ?_
 rintro e w1 ⟨B, d, rfl, hl, hx_, hb1_⟩
 have HX := Lib.hid hx_
 have HB1 := Lib.hid hb1_
 obtain ⟨hc1_, hf1_⟩ := bcell hb1_
 have hz_ : w.heap.size + 1 ≤ w1.heap.size := by
  have h_ := hb1_.size
  simp at h_
  omega
 have hk0 : ∀ o, (w1.alloc o).cell? ⟨w.heap.size, 0, none⟩ = some (.int .i64 a0) := fun o => zat (zad (Below.refl _ _) o) (zat hb1_ (by simp))
 have hk2 : ∀ o, (w1.alloc o).cell? ⟨w.heap.size, 2, none⟩ = some (.int .i64 a2) := fun o => zat (zad (Below.refl _ _) o) (zat hb1_ (by simp))
 have hk4 : ∀ o, (w1.alloc o).cell? ⟨w.heap.size, 4, none⟩ = some (.slice A4 l4.length c4) := fun o => zat (zad (Below.refl _ _) o) (zat hb1_ (by simp))
 have hk5 : ∀ o, (w1.alloc o).cell? ⟨w.heap.size, 5, none⟩ = some (.int .i64 a5) := fun o => zat (zad (Below.refl _ _) o) (zat hb1_ (by simp))
 clear hx_ hb1_
 go_wp2_with fail
 refine (posmap_place_offset.calls a0 A1 c1 l1 a2 a3 A4 c4 l4 a5 a6 a7 i s B d rest ((rest.length : Int) == 0) _ (Kd.C_below (Kd.C_below (Kd.C_below H1.out (HBA.out _)) HB1.out) (zad (Below.refl _ _) _)) hc1 (Kd.C_below (Kd.C_below (Kd.C_below H4.out (HBA.out _)) HB1.out) (zad (Below.refl _ _) _)) hc4 (Kd.C_below HX.out (zad (Below.refl _ _) _)) hl (rfl)).mono ?_
 rintro e w2 ⟨rfl, hb2_⟩
 have HB2 := Lib.hid hb2_
 have hm0 : w2.cell? ⟨w.heap.size, 0, none⟩ = some (.int .i64 a0) := zat hb2_ (hk0 _)
 have hm2 : w2.cell? ⟨w.heap.size, 2, none⟩ = some (.int .i64 a2) := zat hb2_ (hk2 _)
 have hm4 : w2.cell? ⟨w.heap.size, 4, none⟩ = some (.slice A4 l4.length c4) := zat hb2_ (hk4 _)
 have hm5 : w2.cell? ⟨w.heap.size, 5, none⟩ = some (.int .i64 a5) := zat hb2_ (hk5 _)
 have hp8 : w2.cell? ⟨w1.heap.size, 8, none⟩ = some (.int .i64 i) := zat hb2_ (by simp)
 have hp9 : w2.cell? ⟨w1.heap.size, 9, none⟩ = some (.int .i64 s) := zat hb2_ (by simp)
 clear hb2_
 go_wp2
 go_ret
 exact ⟨by first | rfl | simp [*], (HBA.out _).trans ((HB1.out.trans ((zad (Below.refl _ _) _).trans (HB2.out.mono (by simp)) |>.mono HB1.out.size)).mono (by simp))⟩
set_option maxRecDepth 100000 in
set_option maxHeartbeats 4000000 in
theorem lost_4g (a0 : Int) (A1 : Option Addr) (c1 : Nat) (l1 : List Int) (a2 a3 : Int) (A4 : Option Addr) (c4 : Nat) (l4 : List S24) (a5 : Int) (a6 a7 : ByteArray) (A : Option Addr) (c : Nat) (pos : List Int) (w : World) (hr1 : (Kd.int .i64).C w A1 l1.length l1) (hc1 : l1.length ≤ c1) (hr4 : Kd.C k24 w A4 l4.length l4) (hc4 : l4.length ≤ c4) (hr : (Kd.int .i64).C w A pos.length pos) (hc : pos.length ≤ c) (hb : cutB l1 pos = true) (hm : pos.length ≤ 4611686018427387904) (hm1 : l1.length ≤ 4611686018427387904) (s : Int) (hs : s = if pos.length = l1.length + 1 then 0 else rd pos ((l1.length : Int) + 1)) (rest : List Int) (hre : rest = pos.drop (l1.length + 2)) (i : Int) (hi : i = rd pos (l1.length : Int)) (k4 : a0 = 4) (g3 : ¬ rest.length = 0) (g4 : i = a2) :
  Calls Try.prog 24 #[.agg #[.int .i64 a0, .slice A1 l1.length c1, .int .i64 a2, .int .i64 a3, .slice A4 l4.length c4, .int .i64 a5, .string a6, .string a7], .slice A pos.length c] w fun e w' => e = .returned (.bool (s != a5)) ∧ Below w.heap.size w w' := by
 have hu := Try.underlying27
 have hu2 := Try.underlying65
 have z1 : (a0 == 2) = false := by simpa using (by omega : ¬ a0 = 2)
 have z2 : (a0 == 4) = true := by simpa using k4
 clear k4
 have d3 : ((rest.length : Int) == 0) = false := by simpa using g3
 have d4 : (i == a2) = true := by simpa using g4
 clear g3 g4
 have HC := Lib.hid (fun o => map_cut a0 A1 c1 l1 a2 a3 A4 c4 l4 a5 a6 a7 A c pos (w.alloc o) (Kd.C_below hr1 (zad (Below.refl _ _) o)) hc1 (Kd.C_below hr4 (zad (Below.refl _ _) o)) hc4 (Kd.C_below hr (zad (Below.refl _ _) o)) hc hb hm hm1 s hs rest hre)
 rw [← hi] at HC
 have H1 := Lib.hid hr1
 have H4 := Lib.hid hr4
 have HBA := Lib.hid (fun o => zad (Below.refl w.heap.size w) o)
 clear hr1 hr4 hr hb hs hre hi
 go_enter Try.func24, Try.ntmps24
 go_wp2_with fail
 refine (HC.out _).mono ?_
 rintro e w1 ⟨B, d, rfl, hl, hx_, hb1_⟩
 have HX := Lib.hid hx_
 have HB1 := Lib.hid hb1_
 obtain ⟨hc1_, hf1_⟩ := bcell hb1_
 have hz_ : w.heap.size + 1 ≤ w1.heap.size := by
  have h_ := hb1_.size
  simp at h_
  omega
 have hk0 : ∀ o, (w1.alloc o).cell? ⟨w.heap.size, 0, none⟩ = some (.int .i64 a0) := fun o => zat (zad (Below.refl _ _) o) (zat hb1_ (by simp))
 have hk2 : ∀ o, (w1.alloc o).cell? ⟨w.heap.size, 2, none⟩ = some (.int .i64 a2) := fun o => zat (zad (Below.refl _ _) o) (zat hb1_ (by simp))
 have hk4 : ∀ o, (w1.alloc o).cell? ⟨w.heap.size, 4, none⟩ = some (.slice A4 l4.length c4) := fun o => zat (zad (Below.refl _ _) o) (zat hb1_ (by simp))
 have hk5 : ∀ o, (w1.alloc o).cell? ⟨w.heap.size, 5, none⟩ = some (.int .i64 a5) := fun o => zat (zad (Below.refl _ _) o) (zat hb1_ (by simp))
 clear hx_ hb1_
 go_wp2_with fail
 refine (posmap_place_offset.calls a0 A1 c1 l1 a2 a3 A4 c4 l4 a5 a6 a7 i s B d rest ((rest.length : Int) == 0) _ (Kd.C_below (Kd.C_below (Kd.C_below H1.out (HBA.out _)) HB1.out) (zad (Below.refl _ _) _)) hc1 (Kd.C_below (Kd.C_below (Kd.C_below H4.out (HBA.out _)) HB1.out) (zad (Below.refl _ _) _)) hc4 (Kd.C_below HX.out (zad (Below.refl _ _) _)) hl (rfl)).mono ?_
 rintro e w2 ⟨rfl, hb2_⟩
 have HB2 := Lib.hid hb2_
 have hm0 : w2.cell? ⟨w.heap.size, 0, none⟩ = some (.int .i64 a0) := zat hb2_ (hk0 _)
 have hm2 : w2.cell? ⟨w.heap.size, 2, none⟩ = some (.int .i64 a2) := zat hb2_ (hk2 _)
 have hm4 : w2.cell? ⟨w.heap.size, 4, none⟩ = some (.slice A4 l4.length c4) := zat hb2_ (hk4 _)
 have hm5 : w2.cell? ⟨w.heap.size, 5, none⟩ = some (.int .i64 a5) := zat hb2_ (hk5 _)
 have hp8 : w2.cell? ⟨w1.heap.size, 8, none⟩ = some (.int .i64 i) := zat hb2_ (by simp)
 have hp9 : w2.cell? ⟨w1.heap.size, 9, none⟩ = some (.int .i64 s) := zat hb2_ (by simp)
 clear hb2_
 go_wp2
 go_ret
 exact ⟨by first | rfl | simp [*], (HBA.out _).trans ((HB1.out.trans ((zad (Below.refl _ _) _).trans (HB2.out.mono (by simp)) |>.mono HB1.out.size)).mono (by simp))⟩
set_option maxRecDepth 100000 in
set_option maxHeartbeats 4000000 in
theorem lost_x (a0 : Int) (A1 : Option Addr) (c1 : Nat) (l1 : List Int) (a2 a3 : Int) (A4 : Option Addr) (c4 : Nat) (l4 : List S24) (a5 : Int) (a6 a7 : ByteArray) (A : Option Addr) (c : Nat) (pos : List Int) (w : World) (hr1 : (Kd.int .i64).C w A1 l1.length l1) (hc1 : l1.length ≤ c1) (hr4 : Kd.C k24 w A4 l4.length l4) (hc4 : l4.length ≤ c4) (hr : (Kd.int .i64).C w A pos.length pos) (hc : pos.length ≤ c) (hb : cutB l1 pos = true) (hm : pos.length ≤ 4611686018427387904) (hm1 : l1.length ≤ 4611686018427387904) (s : Int) (hs : s = if pos.length = l1.length + 1 then 0 else rd pos ((l1.length : Int) + 1)) (rest : List Int) (hre : rest = pos.drop (l1.length + 2)) (i : Int) (hi : i = rd pos (l1.length : Int)) (k2 : ¬ a0 = 2) (k4 : ¬ a0 = 4) :
  Calls Try.prog 24 #[.agg #[.int .i64 a0, .slice A1 l1.length c1, .int .i64 a2, .int .i64 a3, .slice A4 l4.length c4, .int .i64 a5, .string a6, .string a7], .slice A pos.length c] w fun e w' => e = .returned (.bool false) ∧ Below w.heap.size w w' := by
 have hu := Try.underlying27
 have hu2 := Try.underlying65
 have z1 : (a0 == 2) = false := by simpa using k2
 have z2 : (a0 == 4) = false := by simpa using k4
 clear k2 k4
 have HC := Lib.hid (fun o => map_cut a0 A1 c1 l1 a2 a3 A4 c4 l4 a5 a6 a7 A c pos (w.alloc o) (Kd.C_below hr1 (zad (Below.refl _ _) o)) hc1 (Kd.C_below hr4 (zad (Below.refl _ _) o)) hc4 (Kd.C_below hr (zad (Below.refl _ _) o)) hc hb hm hm1 s hs rest hre)
 rw [← hi] at HC
 have H1 := Lib.hid hr1
 have H4 := Lib.hid hr4
 have HBA := Lib.hid (fun o => zad (Below.refl w.heap.size w) o)
 clear hr1 hr4 hr hb hs hre hi
 go_enter Try.func24, Try.ntmps24
 go_wp2_with fail
 refine (HC.out _).mono ?_
 rintro e w1 ⟨B, d, rfl, hl, hx_, hb1_⟩
 have HX := Lib.hid hx_
 have HB1 := Lib.hid hb1_
 obtain ⟨hc1_, hf1_⟩ := bcell hb1_
 have hz_ : w.heap.size + 1 ≤ w1.heap.size := by
  have h_ := hb1_.size
  simp at h_
  omega
 have hk0 : ∀ o, (w1.alloc o).cell? ⟨w.heap.size, 0, none⟩ = some (.int .i64 a0) := fun o => zat (zad (Below.refl _ _) o) (zat hb1_ (by simp))
 have hk2 : ∀ o, (w1.alloc o).cell? ⟨w.heap.size, 2, none⟩ = some (.int .i64 a2) := fun o => zat (zad (Below.refl _ _) o) (zat hb1_ (by simp))
 have hk4 : ∀ o, (w1.alloc o).cell? ⟨w.heap.size, 4, none⟩ = some (.slice A4 l4.length c4) := fun o => zat (zad (Below.refl _ _) o) (zat hb1_ (by simp))
 have hk5 : ∀ o, (w1.alloc o).cell? ⟨w.heap.size, 5, none⟩ = some (.int .i64 a5) := fun o => zat (zad (Below.refl _ _) o) (zat hb1_ (by simp))
 clear hx_ hb1_
 go_wp2
 go_ret
 exact ⟨by first | rfl | simp [*], (HBA.out _).trans ((HB1.out.trans ((zad (Below.refl _ _) _) |>.mono HB1.out.size)).mono (by simp))⟩
set_option maxRecDepth 100000 in
set_option maxHeartbeats 4000000 in
theorem lost_no (a0 : Int) (A1 : Option Addr) (c1 : Nat) (l1 : List Int) (a2 a3 : Int) (A4 : Option Addr) (c4 : Nat) (l4 : List S24) (a5 : Int) (a6 a7 : ByteArray) (A : Option Addr) (c : Nat) (pos : List Int) (w : World) (hr1 : (Kd.int .i64).C w A1 l1.length l1) (hc1 : l1.length ≤ c1) (hr4 : Kd.C k24 w A4 l4.length l4) (hc4 : l4.length ≤ c4) (hr : (Kd.int .i64).C w A pos.length pos) (hc : pos.length ≤ c) (hb : cutB l1 pos = false) (hm : pos.length ≤ 4611686018427387904) (hm1 : l1.length ≤ 4611686018427387904) :
  Calls Try.prog 24 #[.agg #[.int .i64 a0, .slice A1 l1.length c1, .int .i64 a2, .int .i64 a3, .slice A4 l4.length c4, .int .i64 a5, .string a6, .string a7], .slice A pos.length c] w fun e w' => e = .returned (.bool false) ∧ Below w.heap.size w w' := by
 have hu := Try.underlying27
 have hu2 := Try.underlying65
 have HC := Lib.hid (fun o => cut_no a0 A1 c1 l1 a2 a3 A4 c4 l4 a5 a6 a7 A c pos (w.alloc o) hc1 (Kd.C_below hr1 (zad (Below.refl _ _) o)) (Kd.C_below hr (zad (Below.refl _ _) o)) hc hb hm hm1)
 have HBA := Lib.hid (fun o => zad (Below.refl w.heap.size w) o)
 clear hr1 hr4 hr hb
 go_enter Try.func24, Try.ntmps24
 go_wp2_with fail
 refine (HC.out _).mono ?_
 rintro e w1 ⟨rfl, hb1_⟩
 have HB1 := Lib.hid hb1_
 obtain ⟨hc1_, hf1_⟩ := bcell hb1_
 clear hb1_
 go_wp2
 go_ret
 exact ⟨rfl, (HBA.out _).trans ((HB1.out.trans ((zad (Below.refl _ _) _) |>.mono HB1.out.size)).mono (by simp))⟩
def posmap_Lost.f (a0_0 : Int) (l0_1 : List Int) (a0_2 : Int) (a0_3 : Int) (l0_4 : List (S24)) (a0_5 : Int) (a0_6 : ByteArray) (a0_7 : ByteArray) (l1 : List Int) : Option (Bool) := (posmap_cut.f a0_0 l0_1 a0_2 a0_3 l0_4 a0_5 a0_6 a0_7 l1).bind fun bt => (if bt.2.2.2.2.2.2.2.2.2.2.2 = true then (if a0_0 = 2 then (if bt.2.2.2.2.2.2.2.2.1 ≥ a0_2 then (if bt.2.2.2.2.2.2.2.2.1 < (wrap64 (a0_2 + (l0_4.length : Int))) then ((posmap_place_offset.f bt.1 bt.2.1 bt.2.2.1 bt.2.2.2.1 bt.2.2.2.2.1 bt.2.2.2.2.2.1 bt.2.2.2.2.2.2.1 bt.2.2.2.2.2.2.2.1 bt.2.2.2.2.2.2.2.2.1 bt.2.2.2.2.2.2.2.2.2.1 bt.2.2.2.2.2.2.2.2.2.2.1).bind fun t => (if t = true then (some (decide (bt.2.2.2.2.2.2.2.2.1 > a0_2))) else (some true))) else (some false)) else (some false)) else (if a0_0 = 4 then ((posmap_place_offset.f bt.1 bt.2.1 bt.2.2.1 bt.2.2.2.1 bt.2.2.2.2.1 bt.2.2.2.2.2.1 bt.2.2.2.2.2.2.1 bt.2.2.2.2.2.2.2.1 bt.2.2.2.2.2.2.2.2.1 bt.2.2.2.2.2.2.2.2.2.1 bt.2.2.2.2.2.2.2.2.2.2.1).bind fun t => (if t = true then (some false) else (if bt.2.2.2.2.2.2.2.2.1 = a0_2 then (some (bt.2.2.2.2.2.2.2.2.2.1 != a0_5)) else (some false)))) else (some false))) else (some false))
theorem posmap_Lost.calls (a0_0 : Int) (A0_1 : Option Addr) (c0_1 : Nat) (l0_1 : List Int) (a0_2 : Int) (a0_3 : Int) (A0_4 : Option Addr) (c0_4 : Nat) (l0_4 : List (S24)) (a0_5 : Int) (a0_6 : ByteArray) (a0_7 : ByteArray) (A1 : Option Addr) (c1 : Nat) (l1 : List Int) (r : Bool) (w : World) (hr0_1 : Kd.C (Kd.int .i64) w A0_1 l0_1.length l0_1) (hc0_1 : l0_1.length ≤ c0_1) (hr0_4 : Kd.C k24 w A0_4 l0_4.length l0_4) (hc0_4 : l0_4.length ≤ c0_4) (hr1 : Kd.C (Kd.int .i64) w A1 l1.length l1) (hc1 : l1.length ≤ c1) (h : posmap_Lost.f a0_0 l0_1 a0_2 a0_3 l0_4 a0_5 a0_6 a0_7 l1 = some r) :
  Calls Try.prog 24 #[.agg #[.int .i64 a0_0, .slice A0_1 l0_1.length c0_1, .int .i64 a0_2, .int .i64 a0_3, .slice A0_4 l0_4.length c0_4, .int .i64 a0_5, .string a0_6, .string a0_7], .slice A1 l1.length c1] w fun e w' => e = .returned (.bool r) ∧ Below w.heap.size w w' := by
 unfold posmap_Lost.f posmap_cut.f at h
 by_cases hl : l1.length ≤ 4611686018427387904 ∧ l0_1.length ≤ 4611686018427387904
 ·rw [if_pos hl, Option.bind_some] at h
  by_cases hb : cutB l0_1 l1 = true
  ·rw [if_pos hb] at h
   simp only [posmap_place_offset.f, Option.bind_some] at h
   rw [if_pos trivial] at h
   by_cases k2 : a0_0 = 2
   ·rw [if_pos k2] at h
    split at h
    ·rename_i g1
     split at h
     ·rename_i g2
      by_cases g3 : (l1.drop (l0_1.length + 2)).length = 0
      ·rw [if_pos (by simpa using g3)] at h
       obtain rfl := Option.some.inj h
       exact lost_2t a0_0 A0_1 c0_1 l0_1 a0_2 a0_3 A0_4 c0_4 l0_4 a0_5 a0_6 a0_7 A1 c1 l1 w hr0_1 hc0_1 hr0_4 hc0_4 hr1 hc1 hb hl.1 hl.2 _ rfl _ rfl _ rfl k2 g1 g2 g3
      ·rw [if_neg (by simpa using g3)] at h
       obtain rfl := Option.some.inj h
       exact lost_2f a0_0 A0_1 c0_1 l0_1 a0_2 a0_3 A0_4 c0_4 l0_4 a0_5 a0_6 a0_7 A1 c1 l1 w hr0_1 hc0_1 hr0_4 hc0_4 hr1 hc1 hb hl.1 hl.2 _ rfl _ rfl _ rfl k2 g1 g2 g3
     ·rename_i g2
      obtain rfl := Option.some.inj h
      exact lost_2b a0_0 A0_1 c0_1 l0_1 a0_2 a0_3 A0_4 c0_4 l0_4 a0_5 a0_6 a0_7 A1 c1 l1 w hr0_1 hc0_1 hr0_4 hc0_4 hr1 hc1 hb hl.1 hl.2 _ rfl _ rfl _ rfl k2 g1 g2
    ·rename_i g1
     obtain rfl := Option.some.inj h
     exact lost_2a a0_0 A0_1 c0_1 l0_1 a0_2 a0_3 A0_4 c0_4 l0_4 a0_5 a0_6 a0_7 A1 c1 l1 w hr0_1 hc0_1 hr0_4 hc0_4 hr1 hc1 hb hl.1 hl.2 _ rfl _ rfl _ rfl k2 g1
   ·rw [if_neg k2] at h
    by_cases k4 : a0_0 = 4
    ·rw [if_pos k4] at h
     by_cases g3 : (l1.drop (l0_1.length + 2)).length = 0
     ·rw [if_pos (by simpa using g3)] at h
      obtain rfl := Option.some.inj h
      exact lost_4t a0_0 A0_1 c0_1 l0_1 a0_2 a0_3 A0_4 c0_4 l0_4 a0_5 a0_6 a0_7 A1 c1 l1 w hr0_1 hc0_1 hr0_4 hc0_4 hr1 hc1 hb hl.1 hl.2 _ rfl _ rfl _ rfl k4 g3
     ·rw [if_neg (by simpa using g3)] at h
      split at h
      ·rename_i g4
       obtain rfl := Option.some.inj h
       exact lost_4g a0_0 A0_1 c0_1 l0_1 a0_2 a0_3 A0_4 c0_4 l0_4 a0_5 a0_6 a0_7 A1 c1 l1 w hr0_1 hc0_1 hr0_4 hc0_4 hr1 hc1 hb hl.1 hl.2 _ rfl _ rfl _ rfl k4 g3 g4
      ·rename_i g4
       obtain rfl := Option.some.inj h
       exact lost_4f a0_0 A0_1 c0_1 l0_1 a0_2 a0_3 A0_4 c0_4 l0_4 a0_5 a0_6 a0_7 A1 c1 l1 w hr0_1 hc0_1 hr0_4 hc0_4 hr1 hc1 hb hl.1 hl.2 _ rfl _ rfl _ rfl k4 g3 g4
    ·rw [if_neg k4] at h
     obtain rfl := Option.some.inj h
     exact lost_x a0_0 A0_1 c0_1 l0_1 a0_2 a0_3 A0_4 c0_4 l0_4 a0_5 a0_6 a0_7 A1 c1 l1 w hr0_1 hc0_1 hr0_4 hc0_4 hr1 hc1 hb hl.1 hl.2 _ rfl _ rfl _ rfl k2 k4
  ·rw [if_neg hb, if_neg (by simp)] at h
   obtain rfl := Option.some.inj h
   exact lost_no a0_0 A0_1 c0_1 l0_1 a0_2 a0_3 A0_4 c0_4 l0_4 a0_5 a0_6 a0_7 A1 c1 l1 w hr0_1 hc0_1 hr0_4 hc0_4 hr1 hc1 (Bool.eq_false_iff.2 hb) hl.1 hl.2
 ·rw [if_neg hl] at h
  cases h

end Go.Proofs.Ytikgflpobacndaa.P
