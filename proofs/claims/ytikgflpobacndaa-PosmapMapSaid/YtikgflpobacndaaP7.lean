--m
/- Written by wip/tool/hprint.py (the kit's print.py with hand-proved contracts set in): contracts of the functions that the statements of this seat reach, without conditions beyond those named in each theorem. -/
import Derived.Test.YtikgflpobacndaaP0
import Derived.Test.YtikgflpobacndaaP5
import Derived.Test.YtikgflpobacndaaP6
namespace Go.Proofs.Ytikgflpobacndaa.P
open Go.RowKit Go.Proofs.YtikgflpobacndaaW.PrintWords Go.Proofs.YtikgflpobacndaaW.PrintLast Go.Proofs.YtikgflpobacndaaW.PrintMore
attribute [local go_sem] zaz zaA zaB zaC zaD zaE zaF zaG   -- for this text's walks alone
set_option linter.unusedVariables false
set_option linter.unusedSimpArgs false

/-! ### posmap_place_insert: function 39 -/
def posmap_place_insert.j0 : Nat → Int → Bool → Int → List Int → Int → Int → List (S24) → Int → ByteArray → ByteArray → Int → Int → List Int → Option (List Int)
 | 0, _, _, _, _, _, _, _, _, _, _, _, _, _ => none
 | k + 1, x5, x31, x129000, x129001, x129002, x129003, x129004, x129005, x129006, x129007, x129008, x129009, x129010 => if x31 = true then ((posmap_place_moved.f x129000 x129001 x129002 x129003 x129004 x129005 x129006 x129007 x129008 x129009 x129010 0).bind fun t130 => (some t130)) else ((posmap_place_moved.f x129000 x129001 x129002 x129003 x129004 x129005 x129006 x129007 x129008 x129009 x129010 x5).bind fun t133 => (some t133))
def posmap_place_insert.f (k : Nat) (a0_0 : Int) (l0_1 : List Int) (a0_2 : Int) (a0_3 : Int) (l0_4 : List (S24)) (a0_5 : Int) (a0_6 : ByteArray) (a0_7 : ByteArray) (a0_8 : Int) (a0_9 : Int) (l0_10 : List Int) (a1 : Bool) : Option (List Int) := if a0_8 < a0_2 then (posmap_place_insert.j0 k (l0_4.length : Int) true a0_0 l0_1 a0_2 a0_3 l0_4 a0_5 a0_6 a0_7 a0_8 a0_9 l0_10) else ((posmap_place_offset.f a0_0 l0_1 a0_2 a0_3 l0_4 a0_5 a0_6 a0_7 a0_8 a0_9 l0_10).bind fun t129 => (if t129 = true then (if a0_8 = a0_2 then (posmap_place_insert.j0 k (l0_4.length : Int) (!a1) a0_0 l0_1 a0_2 a0_3 l0_4 a0_5 a0_6 a0_7 a0_8 a0_9 l0_10) else (posmap_place_insert.j0 k (l0_4.length : Int) false a0_0 l0_1 a0_2 a0_3 l0_4 a0_5 a0_6 a0_7 a0_8 a0_9 l0_10)) else (posmap_place_insert.j0 k (l0_4.length : Int) false a0_0 l0_1 a0_2 a0_3 l0_4 a0_5 a0_6 a0_7 a0_8 a0_9 l0_10)))
theorem posmap_place_insert.mono_l : ∀ k, (∀ y0 y1 y2 y3 y4 y5 y6 y7 y8 y9 y10 y11 y12, LeO (posmap_place_insert.j0 k y0 y1 y2 y3 y4 y5 y6 y7 y8 y9 y10 y11 y12) (posmap_place_insert.j0 (k + 1) y0 y1 y2 y3 y4 y5 y6 y7 y8 y9 y10 y11 y12))
 | 0 => fun _ _ _ _ _ _ _ _ _ _ _ _ _ r h => by simp [posmap_place_insert.j0] at h
 | k + 1 => by
  have ih0 := posmap_place_insert.mono_l k
  ·intro y0 y1 y2 y3 y4 y5 y6 y7 y8 y9 y10 y11 y12
   unfold posmap_place_insert.j0
   repeat' first
   | (with_reducible exact ih0 _ _ _ _ _ _ _ _ _ _ _ _ _)
   | (with_reducible exact LeO.refl _)
   | (with_reducible exact LeO.none _)
   | (with_reducible refine LeO.ite ?_ ?_)
   | (with_reducible refine LeO.bind ?_ (fun _ => ?_))
   | exact ih0 _ _ _ _ _ _ _ _ _ _ _ _ _
   | exact LeO.none _
   | refine LeO.ite ?_ ?_
   | refine LeO.bind ?_ (fun _ => ?_)
theorem posmap_place_insert.mono : ∀ a0 a1 a2 a3 a4 a5 a6 a7 a8 a9 a10 a11 k, LeO (posmap_place_insert.f k a0 a1 a2 a3 a4 a5 a6 a7 a8 a9 a10 a11) (posmap_place_insert.f (k + 1) a0 a1 a2 a3 a4 a5 a6 a7 a8 a9 a10 a11) := by
 intro a0 a1 a2 a3 a4 a5 a6 a7 a8 a9 a10 a11 k
 have ih0 := posmap_place_insert.mono_l k
 unfold posmap_place_insert.f
 repeat' first
   | (with_reducible exact ih0 _ _ _ _ _ _ _ _ _ _ _ _ _)
   | (with_reducible exact LeO.refl _)
   | (with_reducible exact LeO.none _)
   | (with_reducible refine LeO.ite ?_ ?_)
   | (with_reducible refine LeO.bind ?_ (fun _ => ?_))
   | exact ih0 _ _ _ _ _ _ _ _ _ _ _ _ _
   | exact LeO.none _
   | refine LeO.ite ?_ ?_
   | refine LeO.bind ?_ (fun _ => ?_)
set_option maxHeartbeats 8000000 in
set_option maxRecDepth 100000 in
theorem posmap_place_insert.calls (k : Nat) (a0_0 : Int) (A0_1 : Option Addr) (c0_1 : Nat) (l0_1 : List Int) (a0_2 : Int) (a0_3 : Int) (A0_4 : Option Addr) (c0_4 : Nat) (l0_4 : List (S24)) (a0_5 : Int) (a0_6 : ByteArray) (a0_7 : ByteArray) (a0_8 : Int) (a0_9 : Int) (A0_10 : Option Addr) (c0_10 : Nat) (l0_10 : List Int) (a1 : Bool) (r : List Int) (w : World) (hr0_1 : Kd.C (Kd.int .i64) w A0_1 l0_1.length l0_1) (hc0_1 : l0_1.length ≤ c0_1) (hr0_4 : Kd.C k24 w A0_4 l0_4.length l0_4) (hc0_4 : l0_4.length ≤ c0_4) (hr0_10 : Kd.C (Kd.int .i64) w A0_10 l0_10.length l0_10) (hc0_10 : l0_10.length ≤ c0_10) (h : posmap_place_insert.f k a0_0 l0_1 a0_2 a0_3 l0_4 a0_5 a0_6 a0_7 a0_8 a0_9 l0_10 a1 = some r) :
  Calls Try.prog 39 #[.agg #[.int .i64 a0_0, .slice A0_1 l0_1.length c0_1, .int .i64 a0_2, .int .i64 a0_3, .slice A0_4 l0_4.length c0_4, .int .i64 a0_5, .string a0_6, .string a0_7, .int .i64 a0_8, .int .i64 a0_9, .slice A0_10 l0_10.length c0_10], .bool a1] w fun e w' => ∃ v0_ : Value, e = .returned (v0_) ∧ Kd.R (Kd.int .i64) 3 w' w.heap.size (fun _ => True) v0_ r ∧ Below w.heap.size w w' := by
 have hu65 := Try.underlying65
 have HR0_1 := zab.mk hr0_1
 have HC0_1 := zab.mk hc0_1
 clear hr0_1 hc0_1
 have HR0_4 := zab.mk hr0_4
 have HC0_4 := zab.mk hc0_4
 clear hr0_4 hc0_4
 have HR0_10 := zab.mk hr0_10
 have HC0_10 := zab.mk hc0_10
 clear hr0_10 hc0_10
 have HB := zab.mk (Below.refl w.heap.size w)
 have H : (if a0_8 < a0_2 then (posmap_place_insert.j0 k (l0_4.length : Int) true a0_0 l0_1 a0_2 a0_3 l0_4 a0_5 a0_6 a0_7 a0_8 a0_9 l0_10) else ((posmap_place_offset.f a0_0 l0_1 a0_2 a0_3 l0_4 a0_5 a0_6 a0_7 a0_8 a0_9 l0_10).bind fun t129 => (if t129 = true then (if a0_8 = a0_2 then (posmap_place_insert.j0 k (l0_4.length : Int) (!a1) a0_0 l0_1 a0_2 a0_3 l0_4 a0_5 a0_6 a0_7 a0_8 a0_9 l0_10) else (posmap_place_insert.j0 k (l0_4.length : Int) false a0_0 l0_1 a0_2 a0_3 l0_4 a0_5 a0_6 a0_7 a0_8 a0_9 l0_10)) else (posmap_place_insert.j0 k (l0_4.length : Int) false a0_0 l0_1 a0_2 a0_3 l0_4 a0_5 a0_6 a0_7 a0_8 a0_9 l0_10)))) = some r := h
 clear h
 have HC3 := zab.mk H
 clear H
 go_enter Try.func39, Try.ntmps39
 go_upto_region 2 with (first | ((with_reducible refine zaq (N := 2) rfl ?_); refine zas ?hg (N := 2) ?hd (cs := #[.int .i64 a0_0, .slice A0_1 l0_1.length c0_1, .int .i64 a0_2, .int .i64 a0_3, .slice A0_4 l0_4.length c0_4, .int .i64 a0_5, .string a0_6, .string a0_7, .int .i64 a0_8, .int .i64 a0_9, .slice A0_10 l0_10.length c0_10]) (t := 65) ?hr ?_; (case hd => rfl); (case hg => rfl); (case hr => first | (go_simp; done) | (go_simp; rfl)); intro gb128 hg w4 hbox hb; have n0_ := zab.mk (zal (by repeat (first | (with_reducible first | exact HB.o | apply zad | apply zaf | apply zae) | exact HB.o)) hb); have n1_ := zab.mk (hbox); have n2_ := zab.mk ((by rw [hg]; exact (zak (by repeat (first | (with_reducible first | exact HB.o | apply zad | apply zaf | apply zae) | exact HB.o))) : w.heap.size ≤ gb128)); have n3_ := zab.mk ((by rw [hg]; exact (zak (by repeat (first | (with_reducible first | exact HB.o | apply zad | apply zaf | apply zae) | exact HB.o))) : w.heap.size ≤ gb128)); clear HB; have HB := n0_; have BK128 := n1_; have GW128 := n2_; have GE128 := n3_; clear n0_ n1_ n2_ n3_; clear hb hbox hg; obtain ⟨hcz5_0, hcz5_1, hcz5_2, hcz5_3, hcz5_4, hcz5_5, hcz5_6, hcz5_7, hcz5_8, hcz5_9, hcz5_10⟩ := cz11 BK128.o; obtain ⟨hfz5_0, hfz5_1, hfz5_2, hfz5_3, hfz5_4, hfz5_5, hfz5_6, hfz5_7, hfz5_8, hfz5_9, hfz5_10⟩ := fz11 BK128.o))
 (try simp only [Act.put, List.setIfInBounds_toArray, List.set_cons_zero, List.set_cons_succ])
 go_cut [31] (fun v31 wc => ∃ (kq : Nat) (x31_2 : Bool), v31 = .bool x31_2 ∧ zab (posmap_place_insert.j0 kq (l0_4.length : Int) x31_2 a0_0 l0_1 a0_2 a0_3 l0_4 a0_5 a0_6 a0_7 a0_8 a0_9 l0_10 = some r) ∧ zab (kq ≤ k) ∧ zab (wc.heap[gb128]? = some (.cells #[.int .i64 a0_0, (.slice A0_1 l0_1.length c0_1), .int .i64 a0_2, .int .i64 a0_3, (.slice A0_4 l0_4.length c0_4), .int .i64 a0_5, .string a0_6, .string a0_7, .int .i64 a0_8, .int .i64 a0_9, (.slice A0_10 l0_10.length c0_10)] 65 (0, 0))) ∧ zab (Below w.heap.size w wc))
 case first =>
  have H := HC3.out
  clear HC3
  by_cases c6 : a0_8 < a0_2
  ·rw [if_pos c6] at H
   have c6b0 : decide (a0_8 < a0_2) = true := decide_eq_true c6
   clear c6
   (first | rw [c6b0] | (simp only [i64_w, i32_w]; rw [c6b0]) | skip)
   have H' := zab.mk H
   clear H
   have hcz7_0 : w4.cell? ⟨gb128, 0, none⟩ = some (.int .i64 a0_0) := (zaa BK128.o 0).trans rfl
   have hcz7_1 : w4.cell? ⟨gb128, 1, none⟩ = some (.slice A0_1 l0_1.length c0_1) := (zaa BK128.o 1).trans rfl
   have hcz7_2 : w4.cell? ⟨gb128, 2, none⟩ = some (.int .i64 a0_2) := (zaa BK128.o 2).trans rfl
   have hcz7_3 : w4.cell? ⟨gb128, 3, none⟩ = some (.int .i64 a0_3) := (zaa BK128.o 3).trans rfl
   have hcz7_4 : w4.cell? ⟨gb128, 4, none⟩ = some (.slice A0_4 l0_4.length c0_4) := (zaa BK128.o 4).trans rfl
   have hcz7_5 : w4.cell? ⟨gb128, 5, none⟩ = some (.int .i64 a0_5) := (zaa BK128.o 5).trans rfl
   have hcz7_6 : w4.cell? ⟨gb128, 6, none⟩ = some (.string a0_6) := (zaa BK128.o 6).trans rfl
   have hcz7_7 : w4.cell? ⟨gb128, 7, none⟩ = some (.string a0_7) := (zaa BK128.o 7).trans rfl
   have hcz7_8 : w4.cell? ⟨gb128, 8, none⟩ = some (.int .i64 a0_8) := (zaa BK128.o 8).trans rfl
   have hcz7_9 : w4.cell? ⟨gb128, 9, none⟩ = some (.int .i64 a0_9) := (zaa BK128.o 9).trans rfl
   have hcz7_10 : w4.cell? ⟨gb128, 10, none⟩ = some (.slice A0_10 l0_10.length c0_10) := (zaa BK128.o 10).trans rfl
   have hfz7_0 := zac BK128.o 0
   have hfz7_1 := zac BK128.o 1
   have hfz7_2 := zac BK128.o 2
   have hfz7_3 := zac BK128.o 3
   have hfz7_4 := zac BK128.o 4
   have hfz7_5 := zac BK128.o 5
   have hfz7_6 := zac BK128.o 6
   have hfz7_7 := zac BK128.o 7
   have hfz7_8 := zac BK128.o 8
   have hfz7_9 := zac BK128.o 9
   have hfz7_10 := zac BK128.o 10
   go_wp2
   go_meet
   case rel => exact ⟨_, (true), (by first | rfl | (simp; done) | (simp [*]; done)), H', ⟨by first | omega | exact Nat.le_refl _⟩, ⟨by (with_reducible repeat (first | refine zaj ?_ _ | refine zah ?_ | refine zai ?_ _)); exact BK128.o⟩, ⟨by repeat (first | (with_reducible first | exact HB.o | apply zad | apply zaf | apply zae | refine zag ?_ GE128.o) | exact HB.o)⟩⟩
  ·rw [if_neg c6] at H
   have c6b0 : decide (a0_8 < a0_2) = false := decide_eq_false c6
   clear c6
   (first | rw [c6b0] | (simp only [i64_w, i32_w]; rw [c6b0]) | skip)
   replace H := Option.bind_eq_some_iff.mp H
   obtain ⟨t129, A80, H⟩ := H
   replace H : (if t129 = true then (if a0_8 = a0_2 then (posmap_place_insert.j0 k (l0_4.length : Int) (!a1) a0_0 l0_1 a0_2 a0_3 l0_4 a0_5 a0_6 a0_7 a0_8 a0_9 l0_10) else (posmap_place_insert.j0 k (l0_4.length : Int) false a0_0 l0_1 a0_2 a0_3 l0_4 a0_5 a0_6 a0_7 a0_8 a0_9 l0_10)) else (posmap_place_insert.j0 k (l0_4.length : Int) false a0_0 l0_1 a0_2 a0_3 l0_4 a0_5 a0_6 a0_7 a0_8 a0_9 l0_10)) = some r := H
   have A8 := zab.mk A80
   clear A80
   by_cases c9 : t129 = true
   ·subst c9
    have H1 : (if a0_8 = a0_2 then (posmap_place_insert.j0 k (l0_4.length : Int) (!a1) a0_0 l0_1 a0_2 a0_3 l0_4 a0_5 a0_6 a0_7 a0_8 a0_9 l0_10) else (posmap_place_insert.j0 k (l0_4.length : Int) false a0_0 l0_1 a0_2 a0_3 l0_4 a0_5 a0_6 a0_7 a0_8 a0_9 l0_10)) = some r := by rw [if_pos rfl] at H; exact H
    clear H
    have H := H1
    clear H1
    by_cases c10 : a0_8 = a0_2
    ·rw [if_pos c10] at H
     have c10b0 : (a0_8 == a0_2) = true := beq_iff_eq.mpr c10
     have c10b1 : (a0_8 != a0_2) = false := bne_eq_false_iff_eq.mpr c10
     clear c10
     have H' := zab.mk H
     clear H
     have hcz11_0 : w4.cell? ⟨gb128, 0, none⟩ = some (.int .i64 a0_0) := (zaa BK128.o 0).trans rfl
     have hcz11_1 : w4.cell? ⟨gb128, 1, none⟩ = some (.slice A0_1 l0_1.length c0_1) := (zaa BK128.o 1).trans rfl
     have hcz11_2 : w4.cell? ⟨gb128, 2, none⟩ = some (.int .i64 a0_2) := (zaa BK128.o 2).trans rfl
     have hcz11_3 : w4.cell? ⟨gb128, 3, none⟩ = some (.int .i64 a0_3) := (zaa BK128.o 3).trans rfl
     have hcz11_4 : w4.cell? ⟨gb128, 4, none⟩ = some (.slice A0_4 l0_4.length c0_4) := (zaa BK128.o 4).trans rfl
     have hcz11_5 : w4.cell? ⟨gb128, 5, none⟩ = some (.int .i64 a0_5) := (zaa BK128.o 5).trans rfl
     have hcz11_6 : w4.cell? ⟨gb128, 6, none⟩ = some (.string a0_6) := (zaa BK128.o 6).trans rfl
     have hcz11_7 : w4.cell? ⟨gb128, 7, none⟩ = some (.string a0_7) := (zaa BK128.o 7).trans rfl
     have hcz11_8 : w4.cell? ⟨gb128, 8, none⟩ = some (.int .i64 a0_8) := (zaa BK128.o 8).trans rfl
     have hcz11_9 : w4.cell? ⟨gb128, 9, none⟩ = some (.int .i64 a0_9) := (zaa BK128.o 9).trans rfl
     have hcz11_10 : w4.cell? ⟨gb128, 10, none⟩ = some (.slice A0_10 l0_10.length c0_10) := (zaa BK128.o 10).trans rfl
     have hfz11_0 := zac BK128.o 0
     have hfz11_1 := zac BK128.o 1
     have hfz11_2 := zac BK128.o 2
     have hfz11_3 := zac BK128.o 3
     have hfz11_4 := zac BK128.o 4
     have hfz11_5 := zac BK128.o 5
     have hfz11_6 := zac BK128.o 6
     have hfz11_7 := zac BK128.o 7
     have hfz11_8 := zac BK128.o 8
     have hfz11_9 := zac BK128.o 9
     have hfz11_10 := zac BK128.o 10
     go_wp2_with (first | (go_at_call 48; (with_reducible refine (posmap_place_offset.calls a0_0 _ _ l0_1 a0_2 a0_3 _ _ l0_4 a0_5 a0_6 a0_7 a0_8 a0_9 _ _ l0_10 true _ ?side1 ?side2 ?side3 ?side4 ?side5 ?side6 A8.o).mono ?_); (case side1 => repeat (first | exact (Kd.C_below HR0_1.o HB.o) | (with_reducible first | refine Kd.C_alloc ?_ _ | refine Kd.C_drewN ?_ _ | refine Kd.C_drew ?_))); (case side2 => exact HC0_1.out); (case side3 => repeat (first | exact (Kd.C_below HR0_4.o HB.o) | (with_reducible first | refine Kd.C_alloc ?_ _ | refine Kd.C_drewN ?_ _ | refine Kd.C_drew ?_))); (case side4 => exact HC0_4.out); (case side5 => repeat (first | exact (Kd.C_below HR0_10.o HB.o) | (with_reducible first | refine Kd.C_alloc ?_ _ | refine Kd.C_drewN ?_ _ | refine Kd.C_drew ?_))); (case side6 => exact HC0_10.out); rintro e w12 ⟨rfl, hb⟩; have n0_ := zab.mk (zam (by (with_reducible repeat (first | refine zaj ?_ _ | refine zah ?_ | refine zai ?_ _)); exact BK128.o) hb); have n1_ := zab.mk (zal (by repeat (first | (with_reducible first | exact HB.o | apply zad | apply zaf | apply zae | refine zag ?_ GE128.o) | exact HB.o)) hb); clear BK128; clear HB; have BK128 := n0_; have HB := n1_; clear n0_ n1_; (try clear hb); (try clear hb2); (try clear hk); (try clear hi); obtain ⟨hcz13_0, hcz13_1, hcz13_2, hcz13_3, hcz13_4, hcz13_5, hcz13_6, hcz13_7, hcz13_8, hcz13_9, hcz13_10⟩ := cz11 BK128.o; obtain ⟨hfz13_0, hfz13_1, hfz13_2, hfz13_3, hfz13_4, hfz13_5, hfz13_6, hfz13_7, hfz13_8, hfz13_9, hfz13_10⟩ := fz11 BK128.o))
     go_meet
     case rel => exact ⟨_, (!a1), (by first | rfl | (simp; done) | (simp [*]; done)), H', ⟨by first | omega | exact Nat.le_refl _⟩, ⟨by (with_reducible repeat (first | refine zaj ?_ _ | refine zah ?_ | refine zai ?_ _)); exact BK128.o⟩, ⟨by repeat (first | (with_reducible first | exact HB.o | apply zad | apply zaf | apply zae | refine zag ?_ GE128.o) | exact HB.o)⟩⟩
    ·rw [if_neg c10] at H
     have c10b0 : (a0_8 == a0_2) = false := beq_eq_false_iff_ne.mpr c10
     have c10b1 : (a0_8 != a0_2) = true := bne_iff_ne.mpr c10
     have H' := zab.mk H
     clear H
     have hcz14_0 : w4.cell? ⟨gb128, 0, none⟩ = some (.int .i64 a0_0) := (zaa BK128.o 0).trans rfl
     have hcz14_1 : w4.cell? ⟨gb128, 1, none⟩ = some (.slice A0_1 l0_1.length c0_1) := (zaa BK128.o 1).trans rfl
     have hcz14_2 : w4.cell? ⟨gb128, 2, none⟩ = some (.int .i64 a0_2) := (zaa BK128.o 2).trans rfl
     have hcz14_3 : w4.cell? ⟨gb128, 3, none⟩ = some (.int .i64 a0_3) := (zaa BK128.o 3).trans rfl
     have hcz14_4 : w4.cell? ⟨gb128, 4, none⟩ = some (.slice A0_4 l0_4.length c0_4) := (zaa BK128.o 4).trans rfl
     have hcz14_5 : w4.cell? ⟨gb128, 5, none⟩ = some (.int .i64 a0_5) := (zaa BK128.o 5).trans rfl
     have hcz14_6 : w4.cell? ⟨gb128, 6, none⟩ = some (.string a0_6) := (zaa BK128.o 6).trans rfl
     have hcz14_7 : w4.cell? ⟨gb128, 7, none⟩ = some (.string a0_7) := (zaa BK128.o 7).trans rfl
     have hcz14_8 : w4.cell? ⟨gb128, 8, none⟩ = some (.int .i64 a0_8) := (zaa BK128.o 8).trans rfl
     have hcz14_9 : w4.cell? ⟨gb128, 9, none⟩ = some (.int .i64 a0_9) := (zaa BK128.o 9).trans rfl
     have hcz14_10 : w4.cell? ⟨gb128, 10, none⟩ = some (.slice A0_10 l0_10.length c0_10) := (zaa BK128.o 10).trans rfl
     have hfz14_0 := zac BK128.o 0
     have hfz14_1 := zac BK128.o 1
     have hfz14_2 := zac BK128.o 2
     have hfz14_3 := zac BK128.o 3
     have hfz14_4 := zac BK128.o 4
     have hfz14_5 := zac BK128.o 5
     have hfz14_6 := zac BK128.o 6
     have hfz14_7 := zac BK128.o 7
     have hfz14_8 := zac BK128.o 8
     have hfz14_9 := zac BK128.o 9
     have hfz14_10 := zac BK128.o 10
     go_wp2_with (first | (go_at_call 48; (with_reducible refine (posmap_place_offset.calls a0_0 _ _ l0_1 a0_2 a0_3 _ _ l0_4 a0_5 a0_6 a0_7 a0_8 a0_9 _ _ l0_10 true _ ?side1 ?side2 ?side3 ?side4 ?side5 ?side6 A8.o).mono ?_); (case side1 => repeat (first | exact (Kd.C_below HR0_1.o HB.o) | (with_reducible first | refine Kd.C_alloc ?_ _ | refine Kd.C_drewN ?_ _ | refine Kd.C_drew ?_))); (case side2 => exact HC0_1.out); (case side3 => repeat (first | exact (Kd.C_below HR0_4.o HB.o) | (with_reducible first | refine Kd.C_alloc ?_ _ | refine Kd.C_drewN ?_ _ | refine Kd.C_drew ?_))); (case side4 => exact HC0_4.out); (case side5 => repeat (first | exact (Kd.C_below HR0_10.o HB.o) | (with_reducible first | refine Kd.C_alloc ?_ _ | refine Kd.C_drewN ?_ _ | refine Kd.C_drew ?_))); (case side6 => exact HC0_10.out); rintro e w15 ⟨rfl, hb⟩; have n0_ := zab.mk (zam (by (with_reducible repeat (first | refine zaj ?_ _ | refine zah ?_ | refine zai ?_ _)); exact BK128.o) hb); have n1_ := zab.mk (zal (by repeat (first | (with_reducible first | exact HB.o | apply zad | apply zaf | apply zae | refine zag ?_ GE128.o) | exact HB.o)) hb); clear BK128; clear HB; have BK128 := n0_; have HB := n1_; clear n0_ n1_; (try clear hb); (try clear hb2); (try clear hk); (try clear hi); obtain ⟨hcz16_0, hcz16_1, hcz16_2, hcz16_3, hcz16_4, hcz16_5, hcz16_6, hcz16_7, hcz16_8, hcz16_9, hcz16_10⟩ := cz11 BK128.o; obtain ⟨hfz16_0, hfz16_1, hfz16_2, hfz16_3, hfz16_4, hfz16_5, hfz16_6, hfz16_7, hfz16_8, hfz16_9, hfz16_10⟩ := fz11 BK128.o))
     go_meet
     case rel => exact ⟨_, (false), (by first | rfl | (simp; done) | (simp [*]; done)), H', ⟨by first | omega | exact Nat.le_refl _⟩, ⟨by (with_reducible repeat (first | refine zaj ?_ _ | refine zah ?_ | refine zai ?_ _)); exact BK128.o⟩, ⟨by repeat (first | (with_reducible first | exact HB.o | apply zad | apply zaf | apply zae | refine zag ?_ GE128.o) | exact HB.o)⟩⟩
   ·replace c9 := Bool.eq_false_iff.mpr c9
    subst c9
    have H1 : (posmap_place_insert.j0 k (l0_4.length : Int) false a0_0 l0_1 a0_2 a0_3 l0_4 a0_5 a0_6 a0_7 a0_8 a0_9 l0_10) = some r := by rw [if_neg (show ¬ (false = true) by decide)] at H; exact H
    clear H
    have H := H1
    clear H1
    have H' := zab.mk H
    clear H
    have hcz17_0 : w4.cell? ⟨gb128, 0, none⟩ = some (.int .i64 a0_0) := (zaa BK128.o 0).trans rfl
    have hcz17_1 : w4.cell? ⟨gb128, 1, none⟩ = some (.slice A0_1 l0_1.length c0_1) := (zaa BK128.o 1).trans rfl
    have hcz17_2 : w4.cell? ⟨gb128, 2, none⟩ = some (.int .i64 a0_2) := (zaa BK128.o 2).trans rfl
    have hcz17_3 : w4.cell? ⟨gb128, 3, none⟩ = some (.int .i64 a0_3) := (zaa BK128.o 3).trans rfl
    have hcz17_4 : w4.cell? ⟨gb128, 4, none⟩ = some (.slice A0_4 l0_4.length c0_4) := (zaa BK128.o 4).trans rfl
    have hcz17_5 : w4.cell? ⟨gb128, 5, none⟩ = some (.int .i64 a0_5) := (zaa BK128.o 5).trans rfl
    have hcz17_6 : w4.cell? ⟨gb128, 6, none⟩ = some (.string a0_6) := (zaa BK128.o 6).trans rfl
    have hcz17_7 : w4.cell? ⟨gb128, 7, none⟩ = some (.string a0_7) := (zaa BK128.o 7).trans rfl
    have hcz17_8 : w4.cell? ⟨gb128, 8, none⟩ = some (.int .i64 a0_8) := (zaa BK128.o 8).trans rfl
    have hcz17_9 : w4.cell? ⟨gb128, 9, none⟩ = some (.int .i64 a0_9) := (zaa BK128.o 9).trans rfl
    have hcz17_10 : w4.cell? ⟨gb128, 10, none⟩ = some (.slice A0_10 l0_10.length c0_10) := (zaa BK128.o 10).trans rfl
    have hfz17_0 := zac BK128.o 0
    have hfz17_1 := zac BK128.o 1
    have hfz17_2 := zac BK128.o 2
    have hfz17_3 := zac BK128.o 3
    have hfz17_4 := zac BK128.o 4
    have hfz17_5 := zac BK128.o 5
    have hfz17_6 := zac BK128.o 6
    have hfz17_7 := zac BK128.o 7
    have hfz17_8 := zac BK128.o 8
    have hfz17_9 := zac BK128.o 9
    have hfz17_10 := zac BK128.o 10
    go_wp2_with (first | (go_at_call 48; (with_reducible refine (posmap_place_offset.calls a0_0 _ _ l0_1 a0_2 a0_3 _ _ l0_4 a0_5 a0_6 a0_7 a0_8 a0_9 _ _ l0_10 false _ ?side1 ?side2 ?side3 ?side4 ?side5 ?side6 A8.o).mono ?_); (case side1 => repeat (first | exact (Kd.C_below HR0_1.o HB.o) | (with_reducible first | refine Kd.C_alloc ?_ _ | refine Kd.C_drewN ?_ _ | refine Kd.C_drew ?_))); (case side2 => exact HC0_1.out); (case side3 => repeat (first | exact (Kd.C_below HR0_4.o HB.o) | (with_reducible first | refine Kd.C_alloc ?_ _ | refine Kd.C_drewN ?_ _ | refine Kd.C_drew ?_))); (case side4 => exact HC0_4.out); (case side5 => repeat (first | exact (Kd.C_below HR0_10.o HB.o) | (with_reducible first | refine Kd.C_alloc ?_ _ | refine Kd.C_drewN ?_ _ | refine Kd.C_drew ?_))); (case side6 => exact HC0_10.out); rintro e w18 ⟨rfl, hb⟩; have n0_ := zab.mk (zam (by (with_reducible repeat (first | refine zaj ?_ _ | refine zah ?_ | refine zai ?_ _)); exact BK128.o) hb); have n1_ := zab.mk (zal (by repeat (first | (with_reducible first | exact HB.o | apply zad | apply zaf | apply zae | refine zag ?_ GE128.o) | exact HB.o)) hb); clear BK128; clear HB; have BK128 := n0_; have HB := n1_; clear n0_ n1_; (try clear hb); (try clear hb2); (try clear hk); (try clear hi)))
    go_meet
    case rel => exact ⟨_, (false), (by first | rfl | (simp; done) | (simp [*]; done)), H', ⟨by first | omega | exact Nat.le_refl _⟩, ⟨by (with_reducible repeat (first | refine zaj ?_ _ | refine zah ?_ | refine zai ?_ _)); exact BK128.o⟩, ⟨by repeat (first | (with_reducible first | exact HB.o | apply zad | apply zaf | apply zae | refine zag ?_ GE128.o) | exact HB.o)⟩⟩
 case rest =>
  clear HC3
  try clear c1
  try clear p2
  try clear c3
  try clear c6
  try clear c6b0
  try clear c9
  try clear c10
  try clear c10b0
  try clear c10b1
  try clear hcz11_0
  try clear hcz11_1
  try clear hcz11_10
  try clear hcz11_2
  try clear hcz11_3
  try clear hcz11_4
  try clear hcz11_5
  try clear hcz11_6
  try clear hcz11_7
  try clear hcz11_8
  try clear hcz11_9
  try clear hcz13_0
  try clear hcz13_1
  try clear hcz13_10
  try clear hcz13_2
  try clear hcz13_3
  try clear hcz13_4
  try clear hcz13_5
  try clear hcz13_6
  try clear hcz13_7
  try clear hcz13_8
  try clear hcz13_9
  try clear hcz14_0
  try clear hcz14_1
  try clear hcz14_10
  try clear hcz14_2
  try clear hcz14_3
  try clear hcz14_4
  try clear hcz14_5
  try clear hcz14_6
  try clear hcz14_7
  try clear hcz14_8
  try clear hcz14_9
  try clear hcz16_0
  try clear hcz16_1
  try clear hcz16_10
  try clear hcz16_2
  try clear hcz16_3
  try clear hcz16_4
  try clear hcz16_5
  try clear hcz16_6
  try clear hcz16_7
  try clear hcz16_8
  try clear hcz16_9
  try clear hcz17_0
  try clear hcz17_1
  try clear hcz17_10
  try clear hcz17_2
  try clear hcz17_3
  try clear hcz17_4
  try clear hcz17_5
  try clear hcz17_6
  try clear hcz17_7
  try clear hcz17_8
  try clear hcz17_9
  try clear hcz5_0
  try clear hcz5_1
  try clear hcz5_10
  try clear hcz5_2
  try clear hcz5_3
  try clear hcz5_4
  try clear hcz5_5
  try clear hcz5_6
  try clear hcz5_7
  try clear hcz5_8
  try clear hcz5_9
  try clear hcz7_0
  try clear hcz7_1
  try clear hcz7_10
  try clear hcz7_2
  try clear hcz7_3
  try clear hcz7_4
  try clear hcz7_5
  try clear hcz7_6
  try clear hcz7_7
  try clear hcz7_8
  try clear hcz7_9
  try clear hfz11_0
  try clear hfz11_1
  try clear hfz11_10
  try clear hfz11_2
  try clear hfz11_3
  try clear hfz11_4
  try clear hfz11_5
  try clear hfz11_6
  try clear hfz11_7
  try clear hfz11_8
  try clear hfz11_9
  try clear hfz13_0
  try clear hfz13_1
  try clear hfz13_10
  try clear hfz13_2
  try clear hfz13_3
  try clear hfz13_4
  try clear hfz13_5
  try clear hfz13_6
  try clear hfz13_7
  try clear hfz13_8
  try clear hfz13_9
  try clear hfz14_0
  try clear hfz14_1
  try clear hfz14_10
  try clear hfz14_2
  try clear hfz14_3
  try clear hfz14_4
  try clear hfz14_5
  try clear hfz14_6
  try clear hfz14_7
  try clear hfz14_8
  try clear hfz14_9
  try clear hfz16_0
  try clear hfz16_1
  try clear hfz16_10
  try clear hfz16_2
  try clear hfz16_3
  try clear hfz16_4
  try clear hfz16_5
  try clear hfz16_6
  try clear hfz16_7
  try clear hfz16_8
  try clear hfz16_9
  try clear hfz17_0
  try clear hfz17_1
  try clear hfz17_10
  try clear hfz17_2
  try clear hfz17_3
  try clear hfz17_4
  try clear hfz17_5
  try clear hfz17_6
  try clear hfz17_7
  try clear hfz17_8
  try clear hfz17_9
  try clear hfz5_0
  try clear hfz5_1
  try clear hfz5_10
  try clear hfz5_2
  try clear hfz5_3
  try clear hfz5_4
  try clear hfz5_5
  try clear hfz5_6
  try clear hfz5_7
  try clear hfz5_8
  try clear hfz5_9
  try clear hfz7_0
  try clear hfz7_1
  try clear hfz7_10
  try clear hfz7_2
  try clear hfz7_3
  try clear hfz7_4
  try clear hfz7_5
  try clear hfz7_6
  try clear hfz7_7
  try clear hfz7_8
  try clear hfz7_9
  obtain ⟨kq, x31_2, rfl, HA, HJ2, BK128, HB⟩ := hcut
  cases kq with
  | zero => exact absurd HA.o (by simp [posmap_place_insert.j0])
  | succ kj2 =>
   have H := HA.o
   clear HA
   simp only [posmap_place_insert.j0] at H
   by_cases c19 : x31_2 = true
   ·subst c19
    have H1 : ((posmap_place_moved.f a0_0 l0_1 a0_2 a0_3 l0_4 a0_5 a0_6 a0_7 a0_8 a0_9 l0_10 0).bind fun t130 => (some t130)) = some r := by rw [if_pos rfl] at H; exact H
    clear H
    have H := H1
    clear H1
    replace H := Option.bind_eq_some_iff.mp H
    obtain ⟨t130, A200, H⟩ := H
    replace H : (some t130) = some r := H
    have A20 := zab.mk A200
    clear A200
    obtain rfl := Option.some.inj H
    have hcz21_0 : wc.cell? ⟨gb128, 0, none⟩ = some (.int .i64 a0_0) := (zaa BK128.o 0).trans rfl
    have hcz21_1 : wc.cell? ⟨gb128, 1, none⟩ = some (.slice A0_1 l0_1.length c0_1) := (zaa BK128.o 1).trans rfl
    have hcz21_2 : wc.cell? ⟨gb128, 2, none⟩ = some (.int .i64 a0_2) := (zaa BK128.o 2).trans rfl
    have hcz21_3 : wc.cell? ⟨gb128, 3, none⟩ = some (.int .i64 a0_3) := (zaa BK128.o 3).trans rfl
    have hcz21_4 : wc.cell? ⟨gb128, 4, none⟩ = some (.slice A0_4 l0_4.length c0_4) := (zaa BK128.o 4).trans rfl
    have hcz21_5 : wc.cell? ⟨gb128, 5, none⟩ = some (.int .i64 a0_5) := (zaa BK128.o 5).trans rfl
    have hcz21_6 : wc.cell? ⟨gb128, 6, none⟩ = some (.string a0_6) := (zaa BK128.o 6).trans rfl
    have hcz21_7 : wc.cell? ⟨gb128, 7, none⟩ = some (.string a0_7) := (zaa BK128.o 7).trans rfl
    have hcz21_8 : wc.cell? ⟨gb128, 8, none⟩ = some (.int .i64 a0_8) := (zaa BK128.o 8).trans rfl
    have hcz21_9 : wc.cell? ⟨gb128, 9, none⟩ = some (.int .i64 a0_9) := (zaa BK128.o 9).trans rfl
    have hcz21_10 : wc.cell? ⟨gb128, 10, none⟩ = some (.slice A0_10 l0_10.length c0_10) := (zaa BK128.o 10).trans rfl
    have hfz21_0 := zac BK128.o 0
    have hfz21_1 := zac BK128.o 1
    have hfz21_2 := zac BK128.o 2
    have hfz21_3 := zac BK128.o 3
    have hfz21_4 := zac BK128.o 4
    have hfz21_5 := zac BK128.o 5
    have hfz21_6 := zac BK128.o 6
    have hfz21_7 := zac BK128.o 7
    have hfz21_8 := zac BK128.o 8
    have hfz21_9 := zac BK128.o 9
    have hfz21_10 := zac BK128.o 10
    go_wp2_with (first | ((with_reducible refine zax (f := 61) rfl ?_); refine zay (some 33) rfl rfl Try.func61 (by kernel_rfl) rfl #[.agg #[.int .i64 a0_0, .slice A0_1 l0_1.length c0_1, .int .i64 a0_2, .int .i64 a0_3, .slice A0_4 l0_4.length c0_4, .int .i64 a0_5, .string a0_6, .string a0_7, .int .i64 a0_8, .int .i64 a0_9, .slice A0_10 l0_10.length c0_10], .int .i64 0] rfl (by (try simp only [List.map_toArray, List.map_cons, List.map_nil]); first | done | rfl | (simp only [List.length_drop, List.length_take]; rfl)) ?_; (with_reducible refine (posmap_place_moved.calls a0_0 _ _ l0_1 a0_2 a0_3 _ _ l0_4 a0_5 a0_6 a0_7 a0_8 a0_9 _ _ l0_10 0 t130 _ ?side1 ?side2 ?side3 ?side4 ?side5 ?side6 A20.o).mono ?_); (case side1 => repeat (first | exact (Kd.C_below HR0_1.o HB.o) | (with_reducible first | refine Kd.C_alloc ?_ _ | refine Kd.C_drewN ?_ _ | refine Kd.C_drew ?_))); (case side2 => exact HC0_1.out); (case side3 => repeat (first | exact (Kd.C_below HR0_4.o HB.o) | (with_reducible first | refine Kd.C_alloc ?_ _ | refine Kd.C_drewN ?_ _ | refine Kd.C_drew ?_))); (case side4 => exact HC0_4.out); (case side5 => repeat (first | exact (Kd.C_below HR0_10.o HB.o) | (with_reducible first | refine Kd.C_alloc ?_ _ | refine Kd.C_drewN ?_ _ | refine Kd.C_drew ?_))); (case side6 => exact HC0_10.out); rintro e w22 ⟨v131, rfl, ho0, hb⟩; refine ⟨_, rfl, ?_⟩; have n0_ := zab.mk (Kd.R_lower ho0 (zak (by repeat (first | (with_reducible first | exact HB.o | apply zad | apply zaf | apply zae | refine zag ?_ GE128.o) | exact HB.o)))); have n1_ := zab.mk (zam (by (with_reducible repeat (first | refine zaj ?_ _ | refine zah ?_ | refine zai ?_ _)); exact BK128.o) hb); have n2_ := zab.mk (zal (by repeat (first | (with_reducible first | exact HB.o | apply zad | apply zaf | apply zae | refine zag ?_ GE128.o) | exact HB.o)) hb); clear BK128; clear HB; have HO132 := n0_; have BK128 := n1_; have HB := n2_; clear n0_ n1_ n2_; (try clear hb); (try clear hb2); (try clear hk); (try clear hi); (try clear ho0)))
    go_ret
    exact ⟨_, by first | rfl | (simp [errW_none, errW_some] <;> rfl) | (simp [*, errW_none, errW_some] <;> rfl), by (with_reducible repeat (first | apply Kd.R_alloc | apply Kd.R_drewN | apply Kd.R_drew)); exact HO132.o, by repeat (first | (with_reducible first | exact HB.o | apply zad | apply zaf | apply zae | refine zag ?_ GE128.o) | exact HB.o)⟩
   ·replace c19 := Bool.eq_false_iff.mpr c19
    subst c19
    have H1 : ((posmap_place_moved.f a0_0 l0_1 a0_2 a0_3 l0_4 a0_5 a0_6 a0_7 a0_8 a0_9 l0_10 (l0_4.length : Int)).bind fun t133 => (some t133)) = some r := by rw [if_neg (show ¬ (false = true) by decide)] at H; exact H
    clear H
    have H := H1
    clear H1
    replace H := Option.bind_eq_some_iff.mp H
    obtain ⟨t133, A230, H⟩ := H
    replace H : (some t133) = some r := H
    have A23 := zab.mk A230
    clear A230
    obtain rfl := Option.some.inj H
    have hcz24_0 : wc.cell? ⟨gb128, 0, none⟩ = some (.int .i64 a0_0) := (zaa BK128.o 0).trans rfl
    have hcz24_1 : wc.cell? ⟨gb128, 1, none⟩ = some (.slice A0_1 l0_1.length c0_1) := (zaa BK128.o 1).trans rfl
    have hcz24_2 : wc.cell? ⟨gb128, 2, none⟩ = some (.int .i64 a0_2) := (zaa BK128.o 2).trans rfl
    have hcz24_3 : wc.cell? ⟨gb128, 3, none⟩ = some (.int .i64 a0_3) := (zaa BK128.o 3).trans rfl
    have hcz24_4 : wc.cell? ⟨gb128, 4, none⟩ = some (.slice A0_4 l0_4.length c0_4) := (zaa BK128.o 4).trans rfl
    have hcz24_5 : wc.cell? ⟨gb128, 5, none⟩ = some (.int .i64 a0_5) := (zaa BK128.o 5).trans rfl
    have hcz24_6 : wc.cell? ⟨gb128, 6, none⟩ = some (.string a0_6) := (zaa BK128.o 6).trans rfl
    have hcz24_7 : wc.cell? ⟨gb128, 7, none⟩ = some (.string a0_7) := (zaa BK128.o 7).trans rfl
    have hcz24_8 : wc.cell? ⟨gb128, 8, none⟩ = some (.int .i64 a0_8) := (zaa BK128.o 8).trans rfl
    have hcz24_9 : wc.cell? ⟨gb128, 9, none⟩ = some (.int .i64 a0_9) := (zaa BK128.o 9).trans rfl
    have hcz24_10 : wc.cell? ⟨gb128, 10, none⟩ = some (.slice A0_10 l0_10.length c0_10) := (zaa BK128.o 10).trans rfl
    have hfz24_0 := zac BK128.o 0
    have hfz24_1 := zac BK128.o 1
    have hfz24_2 := zac BK128.o 2
    have hfz24_3 := zac BK128.o 3
    have hfz24_4 := zac BK128.o 4
    have hfz24_5 := zac BK128.o 5
    have hfz24_6 := zac BK128.o 6
    have hfz24_7 := zac BK128.o 7
    have hfz24_8 := zac BK128.o 8
    have hfz24_9 := zac BK128.o 9
    have hfz24_10 := zac BK128.o 10
    go_wp2_with (first | ((with_reducible refine zax (f := 61) rfl ?_); refine zay (some 36) rfl rfl Try.func61 (by kernel_rfl) rfl #[.agg #[.int .i64 a0_0, .slice A0_1 l0_1.length c0_1, .int .i64 a0_2, .int .i64 a0_3, .slice A0_4 l0_4.length c0_4, .int .i64 a0_5, .string a0_6, .string a0_7, .int .i64 a0_8, .int .i64 a0_9, .slice A0_10 l0_10.length c0_10], .int .i64 (l0_4.length : Int)] rfl (by (try simp only [List.map_toArray, List.map_cons, List.map_nil]); first | done | rfl | (simp only [List.length_drop, List.length_take]; rfl)) ?_; (with_reducible refine (posmap_place_moved.calls a0_0 _ _ l0_1 a0_2 a0_3 _ _ l0_4 a0_5 a0_6 a0_7 a0_8 a0_9 _ _ l0_10 (l0_4.length : Int) t133 _ ?side1 ?side2 ?side3 ?side4 ?side5 ?side6 A23.o).mono ?_); (case side1 => repeat (first | exact (Kd.C_below HR0_1.o HB.o) | (with_reducible first | refine Kd.C_alloc ?_ _ | refine Kd.C_drewN ?_ _ | refine Kd.C_drew ?_))); (case side2 => exact HC0_1.out); (case side3 => repeat (first | exact (Kd.C_below HR0_4.o HB.o) | (with_reducible first | refine Kd.C_alloc ?_ _ | refine Kd.C_drewN ?_ _ | refine Kd.C_drew ?_))); (case side4 => exact HC0_4.out); (case side5 => repeat (first | exact (Kd.C_below HR0_10.o HB.o) | (with_reducible first | refine Kd.C_alloc ?_ _ | refine Kd.C_drewN ?_ _ | refine Kd.C_drew ?_))); (case side6 => exact HC0_10.out); rintro e w25 ⟨v134, rfl, ho0, hb⟩; refine ⟨_, rfl, ?_⟩; have n0_ := zab.mk (Kd.R_lower ho0 (zak (by repeat (first | (with_reducible first | exact HB.o | apply zad | apply zaf | apply zae | refine zag ?_ GE128.o) | exact HB.o)))); have n1_ := zab.mk (zam (by (with_reducible repeat (first | refine zaj ?_ _ | refine zah ?_ | refine zai ?_ _)); exact BK128.o) hb); have n2_ := zab.mk (zal (by repeat (first | (with_reducible first | exact HB.o | apply zad | apply zaf | apply zae | refine zag ?_ GE128.o) | exact HB.o)) hb); clear BK128; clear HB; have HO135 := n0_; have BK128 := n1_; have HB := n2_; clear n0_ n1_ n2_; (try clear hb); (try clear hb2); (try clear hk); (try clear hi); (try clear ho0)))
    go_ret
    exact ⟨_, by first | rfl | (simp [errW_none, errW_some] <;> rfl) | (simp [*, errW_none, errW_some] <;> rfl), by (with_reducible repeat (first | apply Kd.R_alloc | apply Kd.R_drewN | apply Kd.R_drew)); exact HO135.o, by repeat (first | (with_reducible first | exact HB.o | apply zad | apply zaf | apply zae | refine zag ?_ GE128.o) | exact HB.o)⟩

end Go.Proofs.Ytikgflpobacndaa.P
