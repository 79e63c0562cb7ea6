--m
/- Written by wip/tool/hprint.py (the kit's print.py with hand-proved contracts set in): contracts of the functions that the statements of this seat reach, without conditions beyond those named in each theorem. -/
import Derived.Test.YtikgflpobacndaaP0
import Derived.Test.YtikgflpobacndaaP5
import Derived.Test.YtikgflpobacndaaP6
namespace Go.Proofs.Ytikgflpobacndaa.P
open Go.RowKit Go.Proofs.YtikgflpobacndaaW.PrintWords Go.Proofs.YtikgflpobacndaaW.PrintLast Go.Proofs.YtikgflpobacndaaW.PrintMore
attribute [local go_sem] zaz zaA zaB zaC zaD zaE zaF zaG   -- for this text's walks alone
set_option linter.unusedVariables false
set_option linter.unusedSimpArgs false

/-! ### posmap_place_remove: function 40 -/
def posmap_place_remove.j0 : Nat → Int → Int → Bool → Int → List Int → Int → Int → List (S24) → Int → ByteArray → ByteArray → Int → Int → List Int → Option (List Int)
 | 0, _, _, _, _, _, _, _, _, _, _, _, _, _, _ => none
 | k + 1, x3, x4, x12, x137000, x137001, x137002, x137003, x137004, x137005, x137006, x137007, x137008, x137009, x137010 => if x12 = true then ((posmap_place_moved.f x137000 x137001 x137002 x137003 x137004 x137005 x137006 x137007 x137008 x137009 x137010 0).bind fun t138 => (some t138)) else (if x137008 < (wrap64 (x3 + x4)) then ((posmap_place_at.f x137000 x137001 x137002 x137003 x137004 x137005 x137006 x137007 x137008 x137009 x137010 x3).bind fun t141 => (some t141)) else ((posmap_place_moved.f x137000 x137001 x137002 x137003 x137004 x137005 x137006 x137007 x137008 x137009 x137010 (wrap64 (-x4))).bind fun t144 => (some t144)))
def posmap_place_remove.f (k : Nat) (a0_0 : Int) (l0_1 : List Int) (a0_2 : Int) (a0_3 : Int) (l0_4 : List (S24)) (a0_5 : Int) (a0_6 : ByteArray) (a0_7 : ByteArray) (a0_8 : Int) (a0_9 : Int) (l0_10 : List Int) : Option (List Int) := if a0_8 < a0_2 then (posmap_place_remove.j0 k a0_2 (l0_4.length : Int) true a0_0 l0_1 a0_2 a0_3 l0_4 a0_5 a0_6 a0_7 a0_8 a0_9 l0_10) else ((posmap_place_offset.f a0_0 l0_1 a0_2 a0_3 l0_4 a0_5 a0_6 a0_7 a0_8 a0_9 l0_10).bind fun t137 => (if t137 = true then (posmap_place_remove.j0 k a0_2 (l0_4.length : Int) (a0_8 == a0_2) a0_0 l0_1 a0_2 a0_3 l0_4 a0_5 a0_6 a0_7 a0_8 a0_9 l0_10) else (posmap_place_remove.j0 k a0_2 (l0_4.length : Int) false a0_0 l0_1 a0_2 a0_3 l0_4 a0_5 a0_6 a0_7 a0_8 a0_9 l0_10)))
theorem posmap_place_remove.mono_l : ∀ k, (∀ y0 y1 y2 y3 y4 y5 y6 y7 y8 y9 y10 y11 y12 y13, LeO (posmap_place_remove.j0 k y0 y1 y2 y3 y4 y5 y6 y7 y8 y9 y10 y11 y12 y13) (posmap_place_remove.j0 (k + 1) y0 y1 y2 y3 y4 y5 y6 y7 y8 y9 y10 y11 y12 y13))
 | 0 => fun _ _ _ _ _ _ _ _ _ _ _ _ _ _ r h => by simp [posmap_place_remove.j0] at h
 | k + 1 => by
  have ih0 := posmap_place_remove.mono_l k
  ·intro y0 y1 y2 y3 y4 y5 y6 y7 y8 y9 y10 y11 y12 y13
   unfold posmap_place_remove.j0
   repeat' first
   | (with_reducible exact ih0 _ _ _ _ _ _ _ _ _ _ _ _ _ _)
   | (with_reducible exact LeO.refl _)
   | (with_reducible exact LeO.none _)
   | (with_reducible refine LeO.ite ?_ ?_)
   | (with_reducible refine LeO.bind ?_ (fun _ => ?_))
   | exact ih0 _ _ _ _ _ _ _ _ _ _ _ _ _ _
   | exact LeO.none _
   | refine LeO.ite ?_ ?_
   | refine LeO.bind ?_ (fun _ => ?_)
theorem posmap_place_remove.mono : ∀ a0 a1 a2 a3 a4 a5 a6 a7 a8 a9 a10 k, LeO (posmap_place_remove.f k a0 a1 a2 a3 a4 a5 a6 a7 a8 a9 a10) (posmap_place_remove.f (k + 1) a0 a1 a2 a3 a4 a5 a6 a7 a8 a9 a10) := by
 intro a0 a1 a2 a3 a4 a5 a6 a7 a8 a9 a10 k
 have ih0 := posmap_place_remove.mono_l k
 unfold posmap_place_remove.f
 repeat' first
   | (with_reducible exact ih0 _ _ _ _ _ _ _ _ _ _ _ _ _ _)
   | (with_reducible exact LeO.refl _)
   | (with_reducible exact LeO.none _)
   | (with_reducible refine LeO.ite ?_ ?_)
   | (with_reducible refine LeO.bind ?_ (fun _ => ?_))
   | exact ih0 _ _ _ _ _ _ _ _ _ _ _ _ _ _
   | exact LeO.none _
   | refine LeO.ite ?_ ?_
   | refine LeO.bind ?_ (fun _ => ?_)
set_option maxHeartbeats 8000000 in
set_option maxRecDepth 100000 in
theorem posmap_place_remove.calls (k : Nat) (a0_0 : Int) (A0_1 : Option Addr) (c0_1 : Nat) (l0_1 : List Int) (a0_2 : Int) (a0_3 : Int) (A0_4 : Option Addr) (c0_4 : Nat) (l0_4 : List (S24)) (a0_5 : Int) (a0_6 : ByteArray) (a0_7 : ByteArray) (a0_8 : Int) (a0_9 : Int) (A0_10 : Option Addr) (c0_10 : Nat) (l0_10 : List Int) (r : List Int) (w : World) (hr0_1 : Kd.C (Kd.int .i64) w A0_1 l0_1.length l0_1) (hc0_1 : l0_1.length ≤ c0_1) (hr0_4 : Kd.C k24 w A0_4 l0_4.length l0_4) (hc0_4 : l0_4.length ≤ c0_4) (hr0_10 : Kd.C (Kd.int .i64) w A0_10 l0_10.length l0_10) (hc0_10 : l0_10.length ≤ c0_10) (h : posmap_place_remove.f k a0_0 l0_1 a0_2 a0_3 l0_4 a0_5 a0_6 a0_7 a0_8 a0_9 l0_10 = some r) :
  Calls Try.prog 40 #[.agg #[.int .i64 a0_0, .slice A0_1 l0_1.length c0_1, .int .i64 a0_2, .int .i64 a0_3, .slice A0_4 l0_4.length c0_4, .int .i64 a0_5, .string a0_6, .string a0_7, .int .i64 a0_8, .int .i64 a0_9, .slice A0_10 l0_10.length c0_10]] w fun e w' => ∃ v0_ : Value, e = .returned (v0_) ∧ Kd.R (Kd.int .i64) 3 w' w.heap.size (fun _ => True) v0_ r ∧ Below w.heap.size w w' := by
 have hu65 := Try.underlying65
 have HR0_1 := zab.mk hr0_1
 have HC0_1 := zab.mk hc0_1
 clear hr0_1 hc0_1
 have HR0_4 := zab.mk hr0_4
 have HC0_4 := zab.mk hc0_4
 clear hr0_4 hc0_4
 have HR0_10 := zab.mk hr0_10
 have HC0_10 := zab.mk hc0_10
 clear hr0_10 hc0_10
 have HB := zab.mk (Below.refl w.heap.size w)
 have H : (if a0_8 < a0_2 then (posmap_place_remove.j0 k a0_2 (l0_4.length : Int) true a0_0 l0_1 a0_2 a0_3 l0_4 a0_5 a0_6 a0_7 a0_8 a0_9 l0_10) else ((posmap_place_offset.f a0_0 l0_1 a0_2 a0_3 l0_4 a0_5 a0_6 a0_7 a0_8 a0_9 l0_10).bind fun t137 => (if t137 = true then (posmap_place_remove.j0 k a0_2 (l0_4.length : Int) (a0_8 == a0_2) a0_0 l0_1 a0_2 a0_3 l0_4 a0_5 a0_6 a0_7 a0_8 a0_9 l0_10) else (posmap_place_remove.j0 k a0_2 (l0_4.length : Int) false a0_0 l0_1 a0_2 a0_3 l0_4 a0_5 a0_6 a0_7 a0_8 a0_9 l0_10)))) = some r := h
 clear h
 have HC2 := zab.mk H
 clear H
 go_enter Try.func40, Try.ntmps40
 go_upto_region 2 with (first | ((with_reducible refine zaq (N := 1) rfl ?_); refine zas ?hg (N := 1) ?hd (cs := #[.int .i64 a0_0, .slice A0_1 l0_1.length c0_1, .int .i64 a0_2, .int .i64 a0_3, .slice A0_4 l0_4.length c0_4, .int .i64 a0_5, .string a0_6, .string a0_7, .int .i64 a0_8, .int .i64 a0_9, .slice A0_10 l0_10.length c0_10]) (t := 65) ?hr ?_; (case hd => rfl); (case hg => rfl); (case hr => first | (go_simp; done) | (go_simp; rfl)); intro gb136 hg w3 hbox hb; have n0_ := zab.mk (zal (by repeat (first | (with_reducible first | exact HB.o | apply zad | apply zaf | apply zae) | exact HB.o)) hb); have n1_ := zab.mk (hbox); have n2_ := zab.mk ((by rw [hg]; exact (zak (by repeat (first | (with_reducible first | exact HB.o | apply zad | apply zaf | apply zae) | exact HB.o))) : w.heap.size ≤ gb136)); have n3_ := zab.mk ((by rw [hg]; exact (zak (by repeat (first | (with_reducible first | exact HB.o | apply zad | apply zaf | apply zae) | exact HB.o))) : w.heap.size ≤ gb136)); clear HB; have HB := n0_; have BK136 := n1_; have GW136 := n2_; have GE136 := n3_; clear n0_ n1_ n2_ n3_; clear hb hbox hg; obtain ⟨hcz4_0, hcz4_1, hcz4_2, hcz4_3, hcz4_4, hcz4_5, hcz4_6, hcz4_7, hcz4_8, hcz4_9, hcz4_10⟩ := cz11 BK136.o; obtain ⟨hfz4_0, hfz4_1, hfz4_2, hfz4_3, hfz4_4, hfz4_5, hfz4_6, hfz4_7, hfz4_8, hfz4_9, hfz4_10⟩ := fz11 BK136.o))
 repeat (go_quiet (first | ((with_reducible refine zaq (N := 1) rfl ?_); refine zas ?hg (N := 1) ?hd (cs := #[.int .i64 a0_0, .slice A0_1 l0_1.length c0_1, .int .i64 a0_2, .int .i64 a0_3, .slice A0_4 l0_4.length c0_4, .int .i64 a0_5, .string a0_6, .string a0_7, .int .i64 a0_8, .int .i64 a0_9, .slice A0_10 l0_10.length c0_10]) (t := 65) ?hr ?_; (case hd => rfl); (case hg => rfl); (case hr => first | (go_simp; done) | (go_simp; rfl)); intro gb136 hg w3 hbox hb; have n0_ := zab.mk (zal (by repeat (first | (with_reducible first | exact HB.o | apply zad | apply zaf | apply zae) | exact HB.o)) hb); have n1_ := zab.mk (hbox); have n2_ := zab.mk ((by rw [hg]; exact (zak (by repeat (first | (with_reducible first | exact HB.o | apply zad | apply zaf | apply zae) | exact HB.o))) : w.heap.size ≤ gb136)); have n3_ := zab.mk ((by rw [hg]; exact (zak (by repeat (first | (with_reducible first | exact HB.o | apply zad | apply zaf | apply zae) | exact HB.o))) : w.heap.size ≤ gb136)); clear HB; have HB := n0_; have BK136 := n1_; have GW136 := n2_; have GE136 := n3_; clear n0_ n1_ n2_ n3_; clear hb hbox hg; obtain ⟨hcz4_0, hcz4_1, hcz4_2, hcz4_3, hcz4_4, hcz4_5, hcz4_6, hcz4_7, hcz4_8, hcz4_9, hcz4_10⟩ := cz11 BK136.o; obtain ⟨hfz4_0, hfz4_1, hfz4_2, hfz4_3, hfz4_4, hfz4_5, hfz4_6, hfz4_7, hfz4_8, hfz4_9, hfz4_10⟩ := fz11 BK136.o)); go_upto_region 2 with (first | ((with_reducible refine zaq (N := 1) rfl ?_); refine zas ?hg (N := 1) ?hd (cs := #[.int .i64 a0_0, .slice A0_1 l0_1.length c0_1, .int .i64 a0_2, .int .i64 a0_3, .slice A0_4 l0_4.length c0_4, .int .i64 a0_5, .string a0_6, .string a0_7, .int .i64 a0_8, .int .i64 a0_9, .slice A0_10 l0_10.length c0_10]) (t := 65) ?hr ?_; (case hd => rfl); (case hg => rfl); (case hr => first | (go_simp; done) | (go_simp; rfl)); intro gb136 hg w3 hbox hb; have n0_ := zab.mk (zal (by repeat (first | (with_reducible first | exact HB.o | apply zad | apply zaf | apply zae) | exact HB.o)) hb); have n1_ := zab.mk (hbox); have n2_ := zab.mk ((by rw [hg]; exact (zak (by repeat (first | (with_reducible first | exact HB.o | apply zad | apply zaf | apply zae) | exact HB.o))) : w.heap.size ≤ gb136)); have n3_ := zab.mk ((by rw [hg]; exact (zak (by repeat (first | (with_reducible first | exact HB.o | apply zad | apply zaf | apply zae) | exact HB.o))) : w.heap.size ≤ gb136)); clear HB; have HB := n0_; have BK136 := n1_; have GW136 := n2_; have GE136 := n3_; clear n0_ n1_ n2_ n3_; clear hb hbox hg; obtain ⟨hcz4_0, hcz4_1, hcz4_2, hcz4_3, hcz4_4, hcz4_5, hcz4_6, hcz4_7, hcz4_8, hcz4_9, hcz4_10⟩ := cz11 BK136.o; obtain ⟨hfz4_0, hfz4_1, hfz4_2, hfz4_3, hfz4_4, hfz4_5, hfz4_6, hfz4_7, hfz4_8, hfz4_9, hfz4_10⟩ := fz11 BK136.o)))
 (try simp only [Act.put, List.setIfInBounds_toArray, List.set_cons_zero, List.set_cons_succ])
 go_cut [12] (fun v12 wc => ∃ (kq : Nat) (x12_1 : Bool), v12 = .bool x12_1 ∧ zab (posmap_place_remove.j0 kq a0_2 (l0_4.length : Int) x12_1 a0_0 l0_1 a0_2 a0_3 l0_4 a0_5 a0_6 a0_7 a0_8 a0_9 l0_10 = some r) ∧ zab (kq ≤ k) ∧ zab (wc.heap[gb136]? = some (.cells #[.int .i64 a0_0, (.slice A0_1 l0_1.length c0_1), .int .i64 a0_2, .int .i64 a0_3, (.slice A0_4 l0_4.length c0_4), .int .i64 a0_5, .string a0_6, .string a0_7, .int .i64 a0_8, .int .i64 a0_9, (.slice A0_10 l0_10.length c0_10)] 65 (0, 0))) ∧ zab (Below w.heap.size w wc))
 case first =>
  have H := HC2.out
  clear HC2
  by_cases c5 : a0_8 < a0_2
  ·rw [if_pos c5] at H
   have c5b0 : decide (a0_8 < a0_2) = true := decide_eq_true c5
   clear c5
   (first | rw [c5b0] | (simp only [i64_w, i32_w]; rw [c5b0]) | skip)
   have H' := zab.mk H
   clear H
   have hcz6_0 : w3.cell? ⟨gb136, 0, none⟩ = some (.int .i64 a0_0) := (zaa BK136.o 0).trans rfl
   have hcz6_1 : w3.cell? ⟨gb136, 1, none⟩ = some (.slice A0_1 l0_1.length c0_1) := (zaa BK136.o 1).trans rfl
   have hcz6_2 : w3.cell? ⟨gb136, 2, none⟩ = some (.int .i64 a0_2) := (zaa BK136.o 2).trans rfl
   have hcz6_3 : w3.cell? ⟨gb136, 3, none⟩ = some (.int .i64 a0_3) := (zaa BK136.o 3).trans rfl
   have hcz6_4 : w3.cell? ⟨gb136, 4, none⟩ = some (.slice A0_4 l0_4.length c0_4) := (zaa BK136.o 4).trans rfl
   have hcz6_5 : w3.cell? ⟨gb136, 5, none⟩ = some (.int .i64 a0_5) := (zaa BK136.o 5).trans rfl
   have hcz6_6 : w3.cell? ⟨gb136, 6, none⟩ = some (.string a0_6) := (zaa BK136.o 6).trans rfl
   have hcz6_7 : w3.cell? ⟨gb136, 7, none⟩ = some (.string a0_7) := (zaa BK136.o 7).trans rfl
   have hcz6_8 : w3.cell? ⟨gb136, 8, none⟩ = some (.int .i64 a0_8) := (zaa BK136.o 8).trans rfl
   have hcz6_9 : w3.cell? ⟨gb136, 9, none⟩ = some (.int .i64 a0_9) := (zaa BK136.o 9).trans rfl
   have hcz6_10 : w3.cell? ⟨gb136, 10, none⟩ = some (.slice A0_10 l0_10.length c0_10) := (zaa BK136.o 10).trans rfl
   have hfz6_0 := zac BK136.o 0
   have hfz6_1 := zac BK136.o 1
   have hfz6_2 := zac BK136.o 2
   have hfz6_3 := zac BK136.o 3
   have hfz6_4 := zac BK136.o 4
   have hfz6_5 := zac BK136.o 5
   have hfz6_6 := zac BK136.o 6
   have hfz6_7 := zac BK136.o 7
   have hfz6_8 := zac BK136.o 8
   have hfz6_9 := zac BK136.o 9
   have hfz6_10 := zac BK136.o 10
   go_wp2
   repeat (go_quiet (fail); try go_wp2)
   go_meet
   case rel => exact ⟨_, (true), (by first | rfl | (simp; done) | (simp [*]; done)), H', ⟨by first | omega | exact Nat.le_refl _⟩, ⟨by (with_reducible repeat (first | refine zaj ?_ _ | refine zah ?_ | refine zai ?_ _)); exact BK136.o⟩, ⟨by repeat (first | (with_reducible first | exact HB.o | apply zad | apply zaf | apply zae | refine zag ?_ GE136.o) | exact HB.o)⟩⟩
  ·rw [if_neg c5] at H
   have c5b0 : decide (a0_8 < a0_2) = false := decide_eq_false c5
   clear c5
   (first | rw [c5b0] | (simp only [i64_w, i32_w]; rw [c5b0]) | skip)
   replace H := Option.bind_eq_some_iff.mp H
   obtain ⟨t137, A70, H⟩ := H
   replace H : (if t137 = true then (posmap_place_remove.j0 k a0_2 (l0_4.length : Int) (a0_8 == a0_2) a0_0 l0_1 a0_2 a0_3 l0_4 a0_5 a0_6 a0_7 a0_8 a0_9 l0_10) else (posmap_place_remove.j0 k a0_2 (l0_4.length : Int) false a0_0 l0_1 a0_2 a0_3 l0_4 a0_5 a0_6 a0_7 a0_8 a0_9 l0_10)) = some r := H
   have A7 := zab.mk A70
   clear A70
   by_cases c8 : t137 = true
   ·subst c8
    have H1 : (posmap_place_remove.j0 k a0_2 (l0_4.length : Int) (a0_8 == a0_2) a0_0 l0_1 a0_2 a0_3 l0_4 a0_5 a0_6 a0_7 a0_8 a0_9 l0_10) = some r := by rw [if_pos rfl] at H; exact H
    clear H
    have H := H1
    clear H1
    have H' := zab.mk H
    clear H
    have hcz9_0 : w3.cell? ⟨gb136, 0, none⟩ = some (.int .i64 a0_0) := (zaa BK136.o 0).trans rfl
    have hcz9_1 : w3.cell? ⟨gb136, 1, none⟩ = some (.slice A0_1 l0_1.length c0_1) := (zaa BK136.o 1).trans rfl
    have hcz9_2 : w3.cell? ⟨gb136, 2, none⟩ = some (.int .i64 a0_2) := (zaa BK136.o 2).trans rfl
    have hcz9_3 : w3.cell? ⟨gb136, 3, none⟩ = some (.int .i64 a0_3) := (zaa BK136.o 3).trans rfl
    have hcz9_4 : w3.cell? ⟨gb136, 4, none⟩ = some (.slice A0_4 l0_4.length c0_4) := (zaa BK136.o 4).trans rfl
    have hcz9_5 : w3.cell? ⟨gb136, 5, none⟩ = some (.int .i64 a0_5) := (zaa BK136.o 5).trans rfl
    have hcz9_6 : w3.cell? ⟨gb136, 6, none⟩ = some (.string a0_6) := (zaa BK136.o 6).trans rfl
    have hcz9_7 : w3.cell? ⟨gb136, 7, none⟩ = some (.string a0_7) := (zaa BK136.o 7).trans rfl
    have hcz9_8 : w3.cell? ⟨gb136, 8, none⟩ = some (.int .i64 a0_8) := (zaa BK136.o 8).trans rfl
    have hcz9_9 : w3.cell? ⟨gb136, 9, none⟩ = some (.int .i64 a0_9) := (zaa BK136.o 9).trans rfl
    have hcz9_10 : w3.cell? ⟨gb136, 10, none⟩ = some (.slice A0_10 l0_10.length c0_10) := (zaa BK136.o 10).trans rfl
    have hfz9_0 := zac BK136.o 0
    have hfz9_1 := zac BK136.o 1
    have hfz9_2 := zac BK136.o 2
    have hfz9_3 := zac BK136.o 3
    have hfz9_4 := zac BK136.o 4
    have hfz9_5 := zac BK136.o 5
    have hfz9_6 := zac BK136.o 6
    have hfz9_7 := zac BK136.o 7
    have hfz9_8 := zac BK136.o 8
    have hfz9_9 := zac BK136.o 9
    have hfz9_10 := zac BK136.o 10
    go_wp2_with (first | (go_at_call 48; (with_reducible refine (posmap_place_offset.calls a0_0 _ _ l0_1 a0_2 a0_3 _ _ l0_4 a0_5 a0_6 a0_7 a0_8 a0_9 _ _ l0_10 true _ ?side1 ?side2 ?side3 ?side4 ?side5 ?side6 A7.o).mono ?_); (case side1 => repeat (first | exact (Kd.C_below HR0_1.o HB.o) | (with_reducible first | refine Kd.C_alloc ?_ _ | refine Kd.C_drewN ?_ _ | refine Kd.C_drew ?_))); (case side2 => exact HC0_1.out); (case side3 => repeat (first | exact (Kd.C_below HR0_4.o HB.o) | (with_reducible first | refine Kd.C_alloc ?_ _ | refine Kd.C_drewN ?_ _ | refine Kd.C_drew ?_))); (case side4 => exact HC0_4.out); (case side5 => repeat (first | exact (Kd.C_below HR0_10.o HB.o) | (with_reducible first | refine Kd.C_alloc ?_ _ | refine Kd.C_drewN ?_ _ | refine Kd.C_drew ?_))); (case side6 => exact HC0_10.out); rintro e w10 ⟨rfl, hb⟩; have n0_ := zab.mk (zam (by (with_reducible repeat (first | refine zaj ?_ _ | refine zah ?_ | refine zai ?_ _)); exact BK136.o) hb); have n1_ := zab.mk (zal (by repeat (first | (with_reducible first | exact HB.o | apply zad | apply zaf | apply zae | refine zag ?_ GE136.o) | exact HB.o)) hb); clear BK136; clear HB; have BK136 := n0_; have HB := n1_; clear n0_ n1_; (try clear hb); (try clear hb2); (try clear hk); (try clear hi); obtain ⟨hcz11_0, hcz11_1, hcz11_2, hcz11_3, hcz11_4, hcz11_5, hcz11_6, hcz11_7, hcz11_8, hcz11_9, hcz11_10⟩ := cz11 BK136.o; obtain ⟨hfz11_0, hfz11_1, hfz11_2, hfz11_3, hfz11_4, hfz11_5, hfz11_6, hfz11_7, hfz11_8, hfz11_9, hfz11_10⟩ := fz11 BK136.o))
    repeat (go_quiet (first | (go_at_call 48; (with_reducible refine (posmap_place_offset.calls a0_0 _ _ l0_1 a0_2 a0_3 _ _ l0_4 a0_5 a0_6 a0_7 a0_8 a0_9 _ _ l0_10 true _ ?side1 ?side2 ?side3 ?side4 ?side5 ?side6 A7.o).mono ?_); (case side1 => repeat (first | exact (Kd.C_below HR0_1.o HB.o) | (with_reducible first | refine Kd.C_alloc ?_ _ | refine Kd.C_drewN ?_ _ | refine Kd.C_drew ?_))); (case side2 => exact HC0_1.out); (case side3 => repeat (first | exact (Kd.C_below HR0_4.o HB.o) | (with_reducible first | refine Kd.C_alloc ?_ _ | refine Kd.C_drewN ?_ _ | refine Kd.C_drew ?_))); (case side4 => exact HC0_4.out); (case side5 => repeat (first | exact (Kd.C_below HR0_10.o HB.o) | (with_reducible first | refine Kd.C_alloc ?_ _ | refine Kd.C_drewN ?_ _ | refine Kd.C_drew ?_))); (case side6 => exact HC0_10.out); rintro e w10 ⟨rfl, hb⟩; have n0_ := zab.mk (zam (by (with_reducible repeat (first | refine zaj ?_ _ | refine zah ?_ | refine zai ?_ _)); exact BK136.o) hb); have n1_ := zab.mk (zal (by repeat (first | (with_reducible first | exact HB.o | apply zad | apply zaf | apply zae | refine zag ?_ GE136.o) | exact HB.o)) hb); clear BK136; clear HB; have BK136 := n0_; have HB := n1_; clear n0_ n1_; (try clear hb); (try clear hb2); (try clear hk); (try clear hi); obtain ⟨hcz11_0, hcz11_1, hcz11_2, hcz11_3, hcz11_4, hcz11_5, hcz11_6, hcz11_7, hcz11_8, hcz11_9, hcz11_10⟩ := cz11 BK136.o; obtain ⟨hfz11_0, hfz11_1, hfz11_2, hfz11_3, hfz11_4, hfz11_5, hfz11_6, hfz11_7, hfz11_8, hfz11_9, hfz11_10⟩ := fz11 BK136.o)); try go_wp2_with (first | (go_at_call 48; (with_reducible refine (posmap_place_offset.calls a0_0 _ _ l0_1 a0_2 a0_3 _ _ l0_4 a0_5 a0_6 a0_7 a0_8 a0_9 _ _ l0_10 true _ ?side1 ?side2 ?side3 ?side4 ?side5 ?side6 A7.o).mono ?_); (case side1 => repeat (first | exact (Kd.C_below HR0_1.o HB.o) | (with_reducible first | refine Kd.C_alloc ?_ _ | refine Kd.C_drewN ?_ _ | refine Kd.C_drew ?_))); (case side2 => exact HC0_1.out); (case side3 => repeat (first | exact (Kd.C_below HR0_4.o HB.o) | (with_reducible first | refine Kd.C_alloc ?_ _ | refine Kd.C_drewN ?_ _ | refine Kd.C_drew ?_))); (case side4 => exact HC0_4.out); (case side5 => repeat (first | exact (Kd.C_below HR0_10.o HB.o) | (with_reducible first | refine Kd.C_alloc ?_ _ | refine Kd.C_drewN ?_ _ | refine Kd.C_drew ?_))); (case side6 => exact HC0_10.out); rintro e w10 ⟨rfl, hb⟩; have n0_ := zab.mk (zam (by (with_reducible repeat (first | refine zaj ?_ _ | refine zah ?_ | refine zai ?_ _)); exact BK136.o) hb); have n1_ := zab.mk (zal (by repeat (first | (with_reducible first | exact HB.o | apply zad | apply zaf | apply zae | refine zag ?_ GE136.o) | exact HB.o)) hb); clear BK136; clear HB; have BK136 := n0_; have HB := n1_; clear n0_ n1_; (try clear hb); (try clear hb2); (try clear hk); (try clear hi); obtain ⟨hcz11_0, hcz11_1, hcz11_2, hcz11_3, hcz11_4, hcz11_5, hcz11_6, hcz11_7, hcz11_8, hcz11_9, hcz11_10⟩ := cz11 BK136.o; obtain ⟨hfz11_0, hfz11_1, hfz11_2, hfz11_3, hfz11_4, hfz11_5, hfz11_6, hfz11_7, hfz11_8, hfz11_9, hfz11_10⟩ := fz11 BK136.o)))
    go_meet
    case rel => exact ⟨_, ((a0_8 == a0_2)), (by first | rfl | (simp; done) | (simp [*]; done)), H', ⟨by first | omega | exact Nat.le_refl _⟩, ⟨by (with_reducible repeat (first | refine zaj ?_ _ | refine zah ?_ | refine zai ?_ _)); exact BK136.o⟩, ⟨by repeat (first | (with_reducible first | exact HB.o | apply zad | apply zaf | apply zae | refine zag ?_ GE136.o) | exact HB.o)⟩⟩
   ·replace c8 := Bool.eq_false_iff.mpr c8
    subst c8
    have H1 : (posmap_place_remove.j0 k a0_2 (l0_4.length : Int) false a0_0 l0_1 a0_2 a0_3 l0_4 a0_5 a0_6 a0_7 a0_8 a0_9 l0_10) = some r := by rw [if_neg (show ¬ (false = true) by decide)] at H; exact H
    clear H
    have H := H1
    clear H1
    have H' := zab.mk H
    clear H
    have hcz12_0 : w3.cell? ⟨gb136, 0, none⟩ = some (.int .i64 a0_0) := (zaa BK136.o 0).trans rfl
    have hcz12_1 : w3.cell? ⟨gb136, 1, none⟩ = some (.slice A0_1 l0_1.length c0_1) := (zaa BK136.o 1).trans rfl
    have hcz12_2 : w3.cell? ⟨gb136, 2, none⟩ = some (.int .i64 a0_2) := (zaa BK136.o 2).trans rfl
    have hcz12_3 : w3.cell? ⟨gb136, 3, none⟩ = some (.int .i64 a0_3) := (zaa BK136.o 3).trans rfl
    have hcz12_4 : w3.cell? ⟨gb136, 4, none⟩ = some (.slice A0_4 l0_4.length c0_4) := (zaa BK136.o 4).trans rfl
    have hcz12_5 : w3.cell? ⟨gb136, 5, none⟩ = some (.int .i64 a0_5) := (zaa BK136.o 5).trans rfl
    have hcz12_6 : w3.cell? ⟨gb136, 6, none⟩ = some (.string a0_6) := (zaa BK136.o 6).trans rfl
    have hcz12_7 : w3.cell? ⟨gb136, 7, none⟩ = some (.string a0_7) := (zaa BK136.o 7).trans rfl
    have hcz12_8 : w3.cell? ⟨gb136, 8, none⟩ = some (.int .i64 a0_8) := (zaa BK136.o 8).trans rfl
    have hcz12_9 : w3.cell? ⟨gb136, 9, none⟩ = some (.int .i64 a0_9) := (zaa BK136.o 9).trans rfl
    have hcz12_10 : w3.cell? ⟨gb136, 10, none⟩ = some (.slice A0_10 l0_10.length c0_10) := (zaa BK136.o 10).trans rfl
    have hfz12_0 := zac BK136.o 0
    have hfz12_1 := zac BK136.o 1
    have hfz12_2 := zac BK136.o 2
    have hfz12_3 := zac BK136.o 3
    have hfz12_4 := zac BK136.o 4
    have hfz12_5 := zac BK136.o 5
    have hfz12_6 := zac BK136.o 6
    have hfz12_7 := zac BK136.o 7
    have hfz12_8 := zac BK136.o 8
    have hfz12_9 := zac BK136.o 9
    have hfz12_10 := zac BK136.o 10
    go_wp2_with (first | (go_at_call 48; (with_reducible refine (posmap_place_offset.calls a0_0 _ _ l0_1 a0_2 a0_3 _ _ l0_4 a0_5 a0_6 a0_7 a0_8 a0_9 _ _ l0_10 false _ ?side1 ?side2 ?side3 ?side4 ?side5 ?side6 A7.o).mono ?_); (case side1 => repeat (first | exact (Kd.C_below HR0_1.o HB.o) | (with_reducible first | refine Kd.C_alloc ?_ _ | refine Kd.C_drewN ?_ _ | refine Kd.C_drew ?_))); (case side2 => exact HC0_1.out); (case side3 => repeat (first | exact (Kd.C_below HR0_4.o HB.o) | (with_reducible first | refine Kd.C_alloc ?_ _ | refine Kd.C_drewN ?_ _ | refine Kd.C_drew ?_))); (case side4 => exact HC0_4.out); (case side5 => repeat (first | exact (Kd.C_below HR0_10.o HB.o) | (with_reducible first | refine Kd.C_alloc ?_ _ | refine Kd.C_drewN ?_ _ | refine Kd.C_drew ?_))); (case side6 => exact HC0_10.out); rintro e w13 ⟨rfl, hb⟩; have n0_ := zab.mk (zam (by (with_reducible repeat (first | refine zaj ?_ _ | refine zah ?_ | refine zai ?_ _)); exact BK136.o) hb); have n1_ := zab.mk (zal (by repeat (first | (with_reducible first | exact HB.o | apply zad | apply zaf | apply zae | refine zag ?_ GE136.o) | exact HB.o)) hb); clear BK136; clear HB; have BK136 := n0_; have HB := n1_; clear n0_ n1_; (try clear hb); (try clear hb2); (try clear hk); (try clear hi)))
    repeat (go_quiet (first | (go_at_call 48; (with_reducible refine (posmap_place_offset.calls a0_0 _ _ l0_1 a0_2 a0_3 _ _ l0_4 a0_5 a0_6 a0_7 a0_8 a0_9 _ _ l0_10 false _ ?side1 ?side2 ?side3 ?side4 ?side5 ?side6 A7.o).mono ?_); (case side1 => repeat (first | exact (Kd.C_below HR0_1.o HB.o) | (with_reducible first | refine Kd.C_alloc ?_ _ | refine Kd.C_drewN ?_ _ | refine Kd.C_drew ?_))); (case side2 => exact HC0_1.out); (case side3 => repeat (first | exact (Kd.C_below HR0_4.o HB.o) | (with_reducible first | refine Kd.C_alloc ?_ _ | refine Kd.C_drewN ?_ _ | refine Kd.C_drew ?_))); (case side4 => exact HC0_4.out); (case side5 => repeat (first | exact (Kd.C_below HR0_10.o HB.o) | (with_reducible first | refine Kd.C_alloc ?_ _ | refine Kd.C_drewN ?_ _ | refine Kd.C_drew ?_))); (case side6 => exact HC0_10.out); rintro e w13 ⟨rfl, hb⟩; have n0_ := zab.mk (zam (by (with_reducible repeat (first | refine zaj ?_ _ | refine zah ?_ | refine zai ?_ _)); exact BK136.o) hb); have n1_ := zab.mk (zal (by repeat (first | (with_reducible first | exact HB.o | apply zad | apply zaf | apply zae | refine zag ?_ GE136.o) | exact HB.o)) hb); clear BK136; clear HB; have BK136 := n0_; have HB := n1_; clear n0_ n1_; (try clear hb); (try clear hb2); (try clear hk); (try clear hi))); try go_wp2_with (first | (go_at_call 48; (with_reducible refine (posmap_place_offset.calls a0_0 _ _ l0_1 a0_2 a0_3 _ _ l0_4 a0_5 a0_6 a0_7 a0_8 a0_9 _ _ l0_10 false _ ?side1 ?side2 ?side3 ?side4 ?side5 ?side6 A7.o).mono ?_); (case side1 => repeat (first | exact (Kd.C_below HR0_1.o HB.o) | (with_reducible first | refine Kd.C_alloc ?_ _ | refine Kd.C_drewN ?_ _ | refine Kd.C_drew ?_))); (case side2 => exact HC0_1.out); (case side3 => repeat (first | exact (Kd.C_below HR0_4.o HB.o) | (with_reducible first | refine Kd.C_alloc ?_ _ | refine Kd.C_drewN ?_ _ | refine Kd.C_drew ?_))); (case side4 => exact HC0_4.out); (case side5 => repeat (first | exact (Kd.C_below HR0_10.o HB.o) | (with_reducible first | refine Kd.C_alloc ?_ _ | refine Kd.C_drewN ?_ _ | refine Kd.C_drew ?_))); (case side6 => exact HC0_10.out); rintro e w13 ⟨rfl, hb⟩; have n0_ := zab.mk (zam (by (with_reducible repeat (first | refine zaj ?_ _ | refine zah ?_ | refine zai ?_ _)); exact BK136.o) hb); have n1_ := zab.mk (zal (by repeat (first | (with_reducible first | exact HB.o | apply zad | apply zaf | apply zae | refine zag ?_ GE136.o) | exact HB.o)) hb); clear BK136; clear HB; have BK136 := n0_; have HB := n1_; clear n0_ n1_; (try clear hb); (try clear hb2); (try clear hk); (try clear hi))))
    go_meet
    case rel => exact ⟨_, (false), (by first | rfl | (simp; done) | (simp [*]; done)), H', ⟨by first | omega | exact Nat.le_refl _⟩, ⟨by (with_reducible repeat (first | refine zaj ?_ _ | refine zah ?_ | refine zai ?_ _)); exact BK136.o⟩, ⟨by repeat (first | (with_reducible first | exact HB.o | apply zad | apply zaf | apply zae | refine zag ?_ GE136.o) | exact HB.o)⟩⟩
 case rest =>
  clear HC2
  try clear p2
  try clear c4
  try clear c5
  try clear c5b0
  try clear c8
  try clear hcz11_0
  try clear hcz11_1
  try clear hcz11_10
  try clear hcz11_2
  try clear hcz11_3
  try clear hcz11_4
  try clear hcz11_5
  try clear hcz11_6
  try clear hcz11_7
  try clear hcz11_8
  try clear hcz11_9
  try clear hcz12_0
  try clear hcz12_1
  try clear hcz12_10
  try clear hcz12_2
  try clear hcz12_3
  try clear hcz12_4
  try clear hcz12_5
  try clear hcz12_6
  try clear hcz12_7
  try clear hcz12_8
  try clear hcz12_9
  try clear hcz4_0
  try clear hcz4_1
  try clear hcz4_10
  try clear hcz4_2
  try clear hcz4_3
  try clear hcz4_4
  try clear hcz4_5
  try clear hcz4_6
  try clear hcz4_7
  try clear hcz4_8
  try clear hcz4_9
  try clear hcz6_0
  try clear hcz6_1
  try clear hcz6_10
  try clear hcz6_2
  try clear hcz6_3
  try clear hcz6_4
  try clear hcz6_5
  try clear hcz6_6
  try clear hcz6_7
  try clear hcz6_8
  try clear hcz6_9
  try clear hcz9_0
  try clear hcz9_1
  try clear hcz9_10
  try clear hcz9_2
  try clear hcz9_3
  try clear hcz9_4
  try clear hcz9_5
  try clear hcz9_6
  try clear hcz9_7
  try clear hcz9_8
  try clear hcz9_9
  try clear hfz11_0
  try clear hfz11_1
  try clear hfz11_10
  try clear hfz11_2
  try clear hfz11_3
  try clear hfz11_4
  try clear hfz11_5
  try clear hfz11_6
  try clear hfz11_7
  try clear hfz11_8
  try clear hfz11_9
  try clear hfz12_0
  try clear hfz12_1
  try clear hfz12_10
  try clear hfz12_2
  try clear hfz12_3
  try clear hfz12_4
  try clear hfz12_5
  try clear hfz12_6
  try clear hfz12_7
  try clear hfz12_8
  try clear hfz12_9
  try clear hfz4_0
  try clear hfz4_1
  try clear hfz4_10
  try clear hfz4_2
  try clear hfz4_3
  try clear hfz4_4
  try clear hfz4_5
  try clear hfz4_6
  try clear hfz4_7
  try clear hfz4_8
  try clear hfz4_9
  try clear hfz6_0
  try clear hfz6_1
  try clear hfz6_10
  try clear hfz6_2
  try clear hfz6_3
  try clear hfz6_4
  try clear hfz6_5
  try clear hfz6_6
  try clear hfz6_7
  try clear hfz6_8
  try clear hfz6_9
  try clear hfz9_0
  try clear hfz9_1
  try clear hfz9_10
  try clear hfz9_2
  try clear hfz9_3
  try clear hfz9_4
  try clear hfz9_5
  try clear hfz9_6
  try clear hfz9_7
  try clear hfz9_8
  try clear hfz9_9
  obtain ⟨kq, x12_1, rfl, HA, HJ1, BK136, HB⟩ := hcut
  cases kq with
  | zero => exact absurd HA.o (by simp [posmap_place_remove.j0])
  | succ kj1 =>
   have H := HA.o
   clear HA
   simp only [posmap_place_remove.j0] at H
   by_cases c14 : x12_1 = true
   ·subst c14
    have H1 : ((posmap_place_moved.f a0_0 l0_1 a0_2 a0_3 l0_4 a0_5 a0_6 a0_7 a0_8 a0_9 l0_10 0).bind fun t138 => (some t138)) = some r := by rw [if_pos rfl] at H; exact H
    clear H
    have H := H1
    clear H1
    replace H := Option.bind_eq_some_iff.mp H
    obtain ⟨t138, A150, H⟩ := H
    replace H : (some t138) = some r := H
    have A15 := zab.mk A150
    clear A150
    obtain rfl := Option.some.inj H
    have hcz16_0 : wc.cell? ⟨gb136, 0, none⟩ = some (.int .i64 a0_0) := (zaa BK136.o 0).trans rfl
    have hcz16_1 : wc.cell? ⟨gb136, 1, none⟩ = some (.slice A0_1 l0_1.length c0_1) := (zaa BK136.o 1).trans rfl
    have hcz16_2 : wc.cell? ⟨gb136, 2, none⟩ = some (.int .i64 a0_2) := (zaa BK136.o 2).trans rfl
    have hcz16_3 : wc.cell? ⟨gb136, 3, none⟩ = some (.int .i64 a0_3) := (zaa BK136.o 3).trans rfl
    have hcz16_4 : wc.cell? ⟨gb136, 4, none⟩ = some (.slice A0_4 l0_4.length c0_4) := (zaa BK136.o 4).trans rfl
    have hcz16_5 : wc.cell? ⟨gb136, 5, none⟩ = some (.int .i64 a0_5) := (zaa BK136.o 5).trans rfl
    have hcz16_6 : wc.cell? ⟨gb136, 6, none⟩ = some (.string a0_6) := (zaa BK136.o 6).trans rfl
    have hcz16_7 : wc.cell? ⟨gb136, 7, none⟩ = some (.string a0_7) := (zaa BK136.o 7).trans rfl
    have hcz16_8 : wc.cell? ⟨gb136, 8, none⟩ = some (.int .i64 a0_8) := (zaa BK136.o 8).trans rfl
    have hcz16_9 : wc.cell? ⟨gb136, 9, none⟩ = some (.int .i64 a0_9) := (zaa BK136.o 9).trans rfl
    have hcz16_10 : wc.cell? ⟨gb136, 10, none⟩ = some (.slice A0_10 l0_10.length c0_10) := (zaa BK136.o 10).trans rfl
    have hfz16_0 := zac BK136.o 0
    have hfz16_1 := zac BK136.o 1
    have hfz16_2 := zac BK136.o 2
    have hfz16_3 := zac BK136.o 3
    have hfz16_4 := zac BK136.o 4
    have hfz16_5 := zac BK136.o 5
    have hfz16_6 := zac BK136.o 6
    have hfz16_7 := zac BK136.o 7
    have hfz16_8 := zac BK136.o 8
    have hfz16_9 := zac BK136.o 9
    have hfz16_10 := zac BK136.o 10
    go_wp2_with (first | (go_at_call 61; (with_reducible refine (posmap_place_moved.calls a0_0 _ _ l0_1 a0_2 a0_3 _ _ l0_4 a0_5 a0_6 a0_7 a0_8 a0_9 _ _ l0_10 0 t138 _ ?side1 ?side2 ?side3 ?side4 ?side5 ?side6 A15.o).mono ?_); (case side1 => repeat (first | exact (Kd.C_below HR0_1.o HB.o) | (with_reducible first | refine Kd.C_alloc ?_ _ | refine Kd.C_drewN ?_ _ | refine Kd.C_drew ?_))); (case side2 => exact HC0_1.out); (case side3 => repeat (first | exact (Kd.C_below HR0_4.o HB.o) | (with_reducible first | refine Kd.C_alloc ?_ _ | refine Kd.C_drewN ?_ _ | refine Kd.C_drew ?_))); (case side4 => exact HC0_4.out); (case side5 => repeat (first | exact (Kd.C_below HR0_10.o HB.o) | (with_reducible first | refine Kd.C_alloc ?_ _ | refine Kd.C_drewN ?_ _ | refine Kd.C_drew ?_))); (case side6 => exact HC0_10.out); rintro e w17 ⟨v139, rfl, ho0, hb⟩; have n0_ := zab.mk (Kd.R_lower ho0 (zak (by repeat (first | (with_reducible first | exact HB.o | apply zad | apply zaf | apply zae | refine zag ?_ GE136.o) | exact HB.o)))); have n1_ := zab.mk (zam (by (with_reducible repeat (first | refine zaj ?_ _ | refine zah ?_ | refine zai ?_ _)); exact BK136.o) hb); have n2_ := zab.mk (zal (by repeat (first | (with_reducible first | exact HB.o | apply zad | apply zaf | apply zae | refine zag ?_ GE136.o) | exact HB.o)) hb); clear BK136; clear HB; have HO140 := n0_; have BK136 := n1_; have HB := n2_; clear n0_ n1_ n2_; (try clear hb); (try clear hb2); (try clear hk); (try clear hi); (try clear ho0)))
    repeat (go_quiet (first | (go_at_call 61; (with_reducible refine (posmap_place_moved.calls a0_0 _ _ l0_1 a0_2 a0_3 _ _ l0_4 a0_5 a0_6 a0_7 a0_8 a0_9 _ _ l0_10 0 t138 _ ?side1 ?side2 ?side3 ?side4 ?side5 ?side6 A15.o).mono ?_); (case side1 => repeat (first | exact (Kd.C_below HR0_1.o HB.o) | (with_reducible first | refine Kd.C_alloc ?_ _ | refine Kd.C_drewN ?_ _ | refine Kd.C_drew ?_))); (case side2 => exact HC0_1.out); (case side3 => repeat (first | exact (Kd.C_below HR0_4.o HB.o) | (with_reducible first | refine Kd.C_alloc ?_ _ | refine Kd.C_drewN ?_ _ | refine Kd.C_drew ?_))); (case side4 => exact HC0_4.out); (case side5 => repeat (first | exact (Kd.C_below HR0_10.o HB.o) | (with_reducible first | refine Kd.C_alloc ?_ _ | refine Kd.C_drewN ?_ _ | refine Kd.C_drew ?_))); (case side6 => exact HC0_10.out); rintro e w17 ⟨v139, rfl, ho0, hb⟩; have n0_ := zab.mk (Kd.R_lower ho0 (zak (by repeat (first | (with_reducible first | exact HB.o | apply zad | apply zaf | apply zae | refine zag ?_ GE136.o) | exact HB.o)))); have n1_ := zab.mk (zam (by (with_reducible repeat (first | refine zaj ?_ _ | refine zah ?_ | refine zai ?_ _)); exact BK136.o) hb); have n2_ := zab.mk (zal (by repeat (first | (with_reducible first | exact HB.o | apply zad | apply zaf | apply zae | refine zag ?_ GE136.o) | exact HB.o)) hb); clear BK136; clear HB; have HO140 := n0_; have BK136 := n1_; have HB := n2_; clear n0_ n1_ n2_; (try clear hb); (try clear hb2); (try clear hk); (try clear hi); (try clear ho0))); try go_wp2_with (first | (go_at_call 61; (with_reducible refine (posmap_place_moved.calls a0_0 _ _ l0_1 a0_2 a0_3 _ _ l0_4 a0_5 a0_6 a0_7 a0_8 a0_9 _ _ l0_10 0 t138 _ ?side1 ?side2 ?side3 ?side4 ?side5 ?side6 A15.o).mono ?_); (case side1 => repeat (first | exact (Kd.C_below HR0_1.o HB.o) | (with_reducible first | refine Kd.C_alloc ?_ _ | refine Kd.C_drewN ?_ _ | refine Kd.C_drew ?_))); (case side2 => exact HC0_1.out); (case side3 => repeat (first | exact (Kd.C_below HR0_4.o HB.o) | (with_reducible first | refine Kd.C_alloc ?_ _ | refine Kd.C_drewN ?_ _ | refine Kd.C_drew ?_))); (case side4 => exact HC0_4.out); (case side5 => repeat (first | exact (Kd.C_below HR0_10.o HB.o) | (with_reducible first | refine Kd.C_alloc ?_ _ | refine Kd.C_drewN ?_ _ | refine Kd.C_drew ?_))); (case side6 => exact HC0_10.out); rintro e w17 ⟨v139, rfl, ho0, hb⟩; have n0_ := zab.mk (Kd.R_lower ho0 (zak (by repeat (first | (with_reducible first | exact HB.o | apply zad | apply zaf | apply zae | refine zag ?_ GE136.o) | exact HB.o)))); have n1_ := zab.mk (zam (by (with_reducible repeat (first | refine zaj ?_ _ | refine zah ?_ | refine zai ?_ _)); exact BK136.o) hb); have n2_ := zab.mk (zal (by repeat (first | (with_reducible first | exact HB.o | apply zad | apply zaf | apply zae | refine zag ?_ GE136.o) | exact HB.o)) hb); clear BK136; clear HB; have HO140 := n0_; have BK136 := n1_; have HB := n2_; clear n0_ n1_ n2_; (try clear hb); (try clear hb2); (try clear hk); (try clear hi); (try clear ho0))))
    go_ret
    exact ⟨_, by first | rfl | (simp [errW_none, errW_some] <;> rfl) | (simp [*, errW_none, errW_some] <;> rfl), by (with_reducible repeat (first | apply Kd.R_alloc | apply Kd.R_drewN | apply Kd.R_drew)); exact HO140.o, by repeat (first | (with_reducible first | exact HB.o | apply zad | apply zaf | apply zae | refine zag ?_ GE136.o) | exact HB.o)⟩
   ·replace c14 := Bool.eq_false_iff.mpr c14
    subst c14
    have H1 : (if a0_8 < (wrap64 (a0_2 + (l0_4.length : Int))) then ((posmap_place_at.f a0_0 l0_1 a0_2 a0_3 l0_4 a0_5 a0_6 a0_7 a0_8 a0_9 l0_10 a0_2).bind fun t141 => (some t141)) else ((posmap_place_moved.f a0_0 l0_1 a0_2 a0_3 l0_4 a0_5 a0_6 a0_7 a0_8 a0_9 l0_10 (wrap64 (-(l0_4.length : Int)))).bind fun t144 => (some t144))) = some r := by rw [if_neg (show ¬ (false = true) by decide)] at H; exact H
    clear H
    have H := H1
    clear H1
    by_cases c18 : a0_8 < (wrap64 (a0_2 + (l0_4.length : Int)))
    ·rw [if_pos c18] at H
     have c18b0 : decide (a0_8 < (wrap64 (a0_2 + (l0_4.length : Int)))) = true := decide_eq_true c18
     clear c18
     replace H := Option.bind_eq_some_iff.mp H
     obtain ⟨t141, A190, H⟩ := H
     replace H : (some t141) = some r := H
     have A19 := zab.mk A190
     clear A190
     obtain rfl := Option.some.inj H
     have hcz20_0 : wc.cell? ⟨gb136, 0, none⟩ = some (.int .i64 a0_0) := (zaa BK136.o 0).trans rfl
     have hcz20_1 : wc.cell? ⟨gb136, 1, none⟩ = some (.slice A0_1 l0_1.length c0_1) := (zaa BK136.o 1).trans rfl
     have hcz20_2 : wc.cell? ⟨gb136, 2, none⟩ = some (.int .i64 a0_2) := (zaa BK136.o 2).trans rfl
     have hcz20_3 : wc.cell? ⟨gb136, 3, none⟩ = some (.int .i64 a0_3) := (zaa BK136.o 3).trans rfl
     have hcz20_4 : wc.cell? ⟨gb136, 4, none⟩ = some (.slice A0_4 l0_4.length c0_4) := (zaa BK136.o 4).trans rfl
     have hcz20_5 : wc.cell? ⟨gb136, 5, none⟩ = some (.int .i64 a0_5) := (zaa BK136.o 5).trans rfl
     have hcz20_6 : wc.cell? ⟨gb136, 6, none⟩ = some (.string a0_6) := (zaa BK136.o 6).trans rfl
     have hcz20_7 : wc.cell? ⟨gb136, 7, none⟩ = some (.string a0_7) := (zaa BK136.o 7).trans rfl
     have hcz20_8 : wc.cell? ⟨gb136, 8, none⟩ = some (.int .i64 a0_8) := (zaa BK136.o 8).trans rfl
     have hcz20_9 : wc.cell? ⟨gb136, 9, none⟩ = some (.int .i64 a0_9) := (zaa BK136.o 9).trans rfl
     have hcz20_10 : wc.cell? ⟨gb136, 10, none⟩ = some (.slice A0_10 l0_10.length c0_10) := (zaa BK136.o 10).trans rfl
     have hfz20_0 := zac BK136.o 0
     have hfz20_1 := zac BK136.o 1
     have hfz20_2 := zac BK136.o 2
     have hfz20_3 := zac BK136.o 3
     have hfz20_4 := zac BK136.o 4
     have hfz20_5 := zac BK136.o 5
     have hfz20_6 := zac BK136.o 6
     have hfz20_7 := zac BK136.o 7
     have hfz20_8 := zac BK136.o 8
     have hfz20_9 := zac BK136.o 9
     have hfz20_10 := zac BK136.o 10
     go_wp2_with (first | (go_at_call 62; (with_reducible refine (posmap_place_at.calls a0_0 _ _ l0_1 a0_2 a0_3 _ _ l0_4 a0_5 a0_6 a0_7 a0_8 a0_9 _ _ l0_10 a0_2 t141 _ ?side1 ?side2 ?side3 ?side4 ?side5 ?side6 A19.o).mono ?_); (case side1 => repeat (first | exact (Kd.C_below HR0_1.o HB.o) | (with_reducible first | refine Kd.C_alloc ?_ _ | refine Kd.C_drewN ?_ _ | refine Kd.C_drew ?_))); (case side2 => exact HC0_1.out); (case side3 => repeat (first | exact (Kd.C_below HR0_4.o HB.o) | (with_reducible first | refine Kd.C_alloc ?_ _ | refine Kd.C_drewN ?_ _ | refine Kd.C_drew ?_))); (case side4 => exact HC0_4.out); (case side5 => repeat (first | exact (Kd.C_below HR0_10.o HB.o) | (with_reducible first | refine Kd.C_alloc ?_ _ | refine Kd.C_drewN ?_ _ | refine Kd.C_drew ?_))); (case side6 => exact HC0_10.out); rintro e w21 ⟨v142, rfl, ho0, hb⟩; have n0_ := zab.mk (Kd.R_lower ho0 (zak (by repeat (first | (with_reducible first | exact HB.o | apply zad | apply zaf | apply zae | refine zag ?_ GE136.o) | exact HB.o)))); have n1_ := zab.mk (zam (by (with_reducible repeat (first | refine zaj ?_ _ | refine zah ?_ | refine zai ?_ _)); exact BK136.o) hb); have n2_ := zab.mk (zal (by repeat (first | (with_reducible first | exact HB.o | apply zad | apply zaf | apply zae | refine zag ?_ GE136.o) | exact HB.o)) hb); clear BK136; clear HB; have HO143 := n0_; have BK136 := n1_; have HB := n2_; clear n0_ n1_ n2_; (try clear hb); (try clear hb2); (try clear hk); (try clear hi); (try clear ho0)))
     repeat (go_quiet (first | (go_at_call 62; (with_reducible refine (posmap_place_at.calls a0_0 _ _ l0_1 a0_2 a0_3 _ _ l0_4 a0_5 a0_6 a0_7 a0_8 a0_9 _ _ l0_10 a0_2 t141 _ ?side1 ?side2 ?side3 ?side4 ?side5 ?side6 A19.o).mono ?_); (case side1 => repeat (first | exact (Kd.C_below HR0_1.o HB.o) | (with_reducible first | refine Kd.C_alloc ?_ _ | refine Kd.C_drewN ?_ _ | refine Kd.C_drew ?_))); (case side2 => exact HC0_1.out); (case side3 => repeat (first | exact (Kd.C_below HR0_4.o HB.o) | (with_reducible first | refine Kd.C_alloc ?_ _ | refine Kd.C_drewN ?_ _ | refine Kd.C_drew ?_))); (case side4 => exact HC0_4.out); (case side5 => repeat (first | exact (Kd.C_below HR0_10.o HB.o) | (with_reducible first | refine Kd.C_alloc ?_ _ | refine Kd.C_drewN ?_ _ | refine Kd.C_drew ?_))); (case side6 => exact HC0_10.out); rintro e w21 ⟨v142, rfl, ho0, hb⟩; have n0_ := zab.mk (Kd.R_lower ho0 (zak (by repeat (first | (with_reducible first | exact HB.o | apply zad | apply zaf | apply zae | refine zag ?_ GE136.o) | exact HB.o)))); have n1_ := zab.mk (zam (by (with_reducible repeat (first | refine zaj ?_ _ | refine zah ?_ | refine zai ?_ _)); exact BK136.o) hb); have n2_ := zab.mk (zal (by repeat (first | (with_reducible first | exact HB.o | apply zad | apply zaf | apply zae | refine zag ?_ GE136.o) | exact HB.o)) hb); clear BK136; clear HB; have HO143 := n0_; have BK136 := n1_; have HB := n2_; clear n0_ n1_ n2_; (try clear hb); (try clear hb2); (try clear hk); (try clear hi); (try clear ho0))); try go_wp2_with (first | (go_at_call 62; (with_reducible refine (posmap_place_at.calls a0_0 _ _ l0_1 a0_2 a0_3 _ _ l0_4 a0_5 a0_6 a0_7 a0_8 a0_9 _ _ l0_10 a0_2 t141 _ ?side1 ?side2 ?side3 ?side4 ?side5 ?side6 A19.o).mono ?_); (case side1 => repeat (first | exact (Kd.C_below HR0_1.o HB.o) | (with_reducible first | refine Kd.C_alloc ?_ _ | refine Kd.C_drewN ?_ _ | refine Kd.C_drew ?_))); (case side2 => exact HC0_1.out); (case side3 => repeat (first | exact (Kd.C_below HR0_4.o HB.o) | (with_reducible first | refine Kd.C_alloc ?_ _ | refine Kd.C_drewN ?_ _ | refine Kd.C_drew ?_))); (case side4 => exact HC0_4.out); (case side5 => repeat (first | exact (Kd.C_below HR0_10.o HB.o) | (with_reducible first | refine Kd.C_alloc ?_ _ | refine Kd.C_drewN ?_ _ | refine Kd.C_drew ?_))); (case side6 => exact HC0_10.out); rintro e w21 ⟨v142, rfl, ho0, hb⟩; have n0_ := zab.mk (Kd.R_lower ho0 (zak (by repeat (first | (with_reducible first | exact HB.o | apply zad | apply zaf | apply zae | refine zag ?_ GE136.o) | exact HB.o)))); have n1_ := zab.mk (zam (by (with_reducible repeat (first | refine zaj ?_ _ | refine zah ?_ | refine zai ?_ _)); exact BK136.o) hb); have n2_ := zab.mk (zal (by repeat (first | (with_reducible first | exact HB.o | apply zad | apply zaf | apply zae | refine zag ?_ GE136.o) | exact HB.o)) hb); clear BK136; clear HB; have HO143 := n0_; have BK136 := n1_; have HB := n2_; clear n0_ n1_ n2_; (try clear hb); (try clear hb2); (try clear hk); (try clear hi); (try clear ho0))))
     go_ret
     exact ⟨_, by first | rfl | (simp [errW_none, errW_some] <;> rfl) | (simp [*, errW_none, errW_some] <;> rfl), by (with_reducible repeat (first | apply Kd.R_alloc | apply Kd.R_drewN | apply Kd.R_drew)); exact HO143.o, by repeat (first | (with_reducible first | exact HB.o | apply zad | apply zaf | apply zae | refine zag ?_ GE136.o) | exact HB.o)⟩
    ·rw [if_neg c18] at H
     have c18b0 : decide (a0_8 < (wrap64 (a0_2 + (l0_4.length : Int)))) = false := decide_eq_false c18
     clear c18
     replace H := Option.bind_eq_some_iff.mp H
     obtain ⟨t144, A220, H⟩ := H
     replace H : (some t144) = some r := H
     have A22 := zab.mk A220
     clear A220
     obtain rfl := Option.some.inj H
     have hcz23_0 : wc.cell? ⟨gb136, 0, none⟩ = some (.int .i64 a0_0) := (zaa BK136.o 0).trans rfl
     have hcz23_1 : wc.cell? ⟨gb136, 1, none⟩ = some (.slice A0_1 l0_1.length c0_1) := (zaa BK136.o 1).trans rfl
     have hcz23_2 : wc.cell? ⟨gb136, 2, none⟩ = some (.int .i64 a0_2) := (zaa BK136.o 2).trans rfl
     have hcz23_3 : wc.cell? ⟨gb136, 3, none⟩ = some (.int .i64 a0_3) := (zaa BK136.o 3).trans rfl
     have hcz23_4 : wc.cell? ⟨gb136, 4, none⟩ = some (.slice A0_4 l0_4.length c0_4) := (zaa BK136.o 4).trans rfl
     have hcz23_5 : wc.cell? ⟨gb136, 5, none⟩ = some (.int .i64 a0_5) := (zaa BK136.o 5).trans rfl
     have hcz23_6 : wc.cell? ⟨gb136, 6, none⟩ = some (.string a0_6) := (zaa BK136.o 6).trans rfl
     have hcz23_7 : wc.cell? ⟨gb136, 7, none⟩ = some (.string a0_7) := (zaa BK136.o 7).trans rfl
     have hcz23_8 : wc.cell? ⟨gb136, 8, none⟩ = some (.int .i64 a0_8) := (zaa BK136.o 8).trans rfl
     have hcz23_9 : wc.cell? ⟨gb136, 9, none⟩ = some (.int .i64 a0_9) := (zaa BK136.o 9).trans rfl
     have hcz23_10 : wc.cell? ⟨gb136, 10, none⟩ = some (.slice A0_10 l0_10.length c0_10) := (zaa BK136.o 10).trans rfl
     have hfz23_0 := zac BK136.o 0
     have hfz23_1 := zac BK136.o 1
     have hfz23_2 := zac BK136.o 2
     have hfz23_3 := zac BK136.o 3
     have hfz23_4 := zac BK136.o 4
     have hfz23_5 := zac BK136.o 5
     have hfz23_6 := zac BK136.o 6
     have hfz23_7 := zac BK136.o 7
     have hfz23_8 := zac BK136.o 8
     have hfz23_9 := zac BK136.o 9
     have hfz23_10 := zac BK136.o 10
     go_wp2_with (first | (go_at_call 61; (with_reducible refine (posmap_place_moved.calls a0_0 _ _ l0_1 a0_2 a0_3 _ _ l0_4 a0_5 a0_6 a0_7 a0_8 a0_9 _ _ l0_10 (wrap64 (-(l0_4.length : Int))) t144 _ ?side1 ?side2 ?side3 ?side4 ?side5 ?side6 A22.o).mono ?_); (case side1 => repeat (first | exact (Kd.C_below HR0_1.o HB.o) | (with_reducible first | refine Kd.C_alloc ?_ _ | refine Kd.C_drewN ?_ _ | refine Kd.C_drew ?_))); (case side2 => exact HC0_1.out); (case side3 => repeat (first | exact (Kd.C_below HR0_4.o HB.o) | (with_reducible first | refine Kd.C_alloc ?_ _ | refine Kd.C_drewN ?_ _ | refine Kd.C_drew ?_))); (case side4 => exact HC0_4.out); (case side5 => repeat (first | exact (Kd.C_below HR0_10.o HB.o) | (with_reducible first | refine Kd.C_alloc ?_ _ | refine Kd.C_drewN ?_ _ | refine Kd.C_drew ?_))); (case side6 => exact HC0_10.out); rintro e w24 ⟨v145, rfl, ho0, hb⟩; have n0_ := zab.mk (Kd.R_lower ho0 (zak (by repeat (first | (with_reducible first | exact HB.o | apply zad | apply zaf | apply zae | refine zag ?_ GE136.o) | exact HB.o)))); have n1_ := zab.mk (zam (by (with_reducible repeat (first | refine zaj ?_ _ | refine zah ?_ | refine zai ?_ _)); exact BK136.o) hb); have n2_ := zab.mk (zal (by repeat (first | (with_reducible first | exact HB.o | apply zad | apply zaf | apply zae | refine zag ?_ GE136.o) | exact HB.o)) hb); clear BK136; clear HB; have HO146 := n0_; have BK136 := n1_; have HB := n2_; clear n0_ n1_ n2_; (try clear hb); (try clear hb2); (try clear hk); (try clear hi); (try clear ho0)))
     repeat (go_quiet (first | (go_at_call 61; (with_reducible refine (posmap_place_moved.calls a0_0 _ _ l0_1 a0_2 a0_3 _ _ l0_4 a0_5 a0_6 a0_7 a0_8 a0_9 _ _ l0_10 (wrap64 (-(l0_4.length : Int))) t144 _ ?side1 ?side2 ?side3 ?side4 ?side5 ?side6 A22.o).mono ?_); (case side1 => repeat (first | exact (Kd.C_below HR0_1.o HB.o) | (with_reducible first | refine Kd.C_alloc ?_ _ | refine Kd.C_drewN ?_ _ | refine Kd.C_drew ?_))); (case side2 => exact HC0_1.out); (case side3 => repeat (first | exact (Kd.C_below HR0_4.o HB.o) | (with_reducible first | refine Kd.C_alloc ?_ _ | refine Kd.C_drewN ?_ _ | refine Kd.C_drew ?_))); (case side4 => exact HC0_4.out); (case side5 => repeat (first | exact (Kd.C_below HR0_10.o HB.o) | (with_reducible first | refine Kd.C_alloc ?_ _ | refine Kd.C_drewN ?_ _ | refine Kd.C_drew ?_))); (case side6 => exact HC0_10.out); rintro e w24 ⟨v145, rfl, ho0, hb⟩; have n0_ := zab.mk (Kd.R_lower ho0 (zak (by repeat (first | (with_reducible first | exact HB.o | apply zad | apply zaf | apply zae | refine zag ?_ GE136.o) | exact HB.o)))); have n1_ := zab.mk (zam (by (with_reducible repeat (first | refine zaj ?_ _ | refine zah ?_ | refine zai ?_ _)); exact BK136.o) hb); have n2_ := zab.mk (zal (by repeat (first | (with_reducible first | exact HB.o | apply zad | apply zaf | apply zae | refine zag ?_ GE136.o) | exact HB.o)) hb); clear BK136; clear HB; have HO146 := n0_; have BK136 := n1_; have HB := n2_; clear n0_ n1_ n2_; (try clear hb); (try clear hb2); (try clear hk); (try clear hi); (try clear ho0))); try go_wp2_with (first | (go_at_call 61; (with_reducible refine (posmap_place_moved.calls a0_0 _ _ l0_1 a0_2 a0_3 _ _ l0_4 a0_5 a0_6 a0_7 a0_8 a0_9 _ _ l0_10 (wrap64 (-(l0_4.length : Int))) t144 _ ?side1 ?side2 ?side3 ?side4 ?side5 ?side6 A22.o).mono ?_); (case side1 => repeat (first | exact (Kd.C_below HR0_1.o HB.o) | (with_reducible first | refine Kd.C_alloc ?_ _ | refine Kd.C_drewN ?_ _ | refine Kd.C_drew ?_))); (case side2 => exact HC0_1.out); (case side3 => repeat (first | exact (Kd.C_below HR0_4.o HB.o) | (with_reducible first | refine Kd.C_alloc ?_ _ | refine Kd.C_drewN ?_ _ | refine Kd.C_drew ?_))); (case side4 => exact HC0_4.out); (case side5 => repeat (first | exact (Kd.C_below HR0_10.o HB.o) | (with_reducible first | refine Kd.C_alloc ?_ _ | refine Kd.C_drewN ?_ _ | refine Kd.C_drew ?_))); (case side6 => exact HC0_10.out); rintro e w24 ⟨v145, rfl, ho0, hb⟩; have n0_ := zab.mk (Kd.R_lower ho0 (zak (by repeat (first | (with_reducible first | exact HB.o | apply zad | apply zaf | apply zae | refine zag ?_ GE136.o) | exact HB.o)))); have n1_ := zab.mk (zam (by (with_reducible repeat (first | refine zaj ?_ _ | refine zah ?_ | refine zai ?_ _)); exact BK136.o) hb); have n2_ := zab.mk (zal (by repeat (first | (with_reducible first | exact HB.o | apply zad | apply zaf | apply zae | refine zag ?_ GE136.o) | exact HB.o)) hb); clear BK136; clear HB; have HO146 := n0_; have BK136 := n1_; have HB := n2_; clear n0_ n1_ n2_; (try clear hb); (try clear hb2); (try clear hk); (try clear hi); (try clear ho0))))
     go_ret
     exact ⟨_, by first | rfl | (simp [errW_none, errW_some] <;> rfl) | (simp [*, errW_none, errW_some] <;> rfl), by (with_reducible repeat (first | apply Kd.R_alloc | apply Kd.R_drewN | apply Kd.R_drew)); exact HO146.o, by repeat (first | (with_reducible first | exact HB.o | apply zad | apply zaf | apply zae | refine zag ?_ GE136.o) | exact HB.o)⟩

end Go.Proofs.Ytikgflpobacndaa.P
