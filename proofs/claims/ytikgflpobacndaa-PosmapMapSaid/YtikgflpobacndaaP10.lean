--m
/- Written by wip/tool/hprint.py (the kit's print.py with hand-proved contracts set in): contracts of the functions that the statements of this seat reach, without conditions beyond those named in each theorem. -/
import Derived.Test.YtikgflpobacndaaP0
import Derived.Test.YtikgflpobacndaaP5
import Derived.Test.YtikgflpobacndaaP6
import Derived.Test.YtikgflpobacndaaP9
namespace Go.Proofs.Ytikgflpobacndaa.P
open Go.RowKit Go.Proofs.YtikgflpobacndaaW.PrintWords Go.Proofs.YtikgflpobacndaaW.PrintLast Go.Proofs.YtikgflpobacndaaW.PrintMore
attribute [local go_sem] zaz zaA zaB zaC zaD zaE zaF zaG   -- for this text's walks alone
set_option linter.unusedVariables false
set_option linter.unusedSimpArgs false

/-! ### posmap_place_wrap: function 41 -/
mutual
def posmap_place_wrap.j0 : Nat → Int → Int → Bool → Int → List Int → Int → Int → List (S24) → Int → ByteArray → ByteArray → Int → Int → List Int → Option (List Int)
 | 0, _, _, _, _, _, _, _, _, _, _, _, _, _, _ => none
 | k + 1, x5, x6, x13, x165000, x165001, x165002, x165003, x165004, x165005, x165006, x165007, x165008, x165009, x165010 => if x13 = true then ((posmap_place_at.f x165000 x165001 x165002 x165003 x165004 x165005 x165006 x165007 x165008 x165009 x165010 (wrap64 (x5 + 1))).bind fun t166 => (some t166)) else (if x165008 < x5 then (posmap_place_wrap.j1 k x5 x6 true x165000 x165001 x165002 x165003 x165004 x165005 x165006 x165007 x165008 x165009 x165010) else ((posmap_place_offset.f x165000 x165001 x165002 x165003 x165004 x165005 x165006 x165007 x165008 x165009 x165010).bind fun t169 => (if t169 = true then (posmap_place_wrap.j1 k x5 x6 (x165008 == x5) x165000 x165001 x165002 x165003 x165004 x165005 x165006 x165007 x165008 x165009 x165010) else (posmap_place_wrap.j1 k x5 x6 false x165000 x165001 x165002 x165003 x165004 x165005 x165006 x165007 x165008 x165009 x165010))))
def posmap_place_wrap.j1 : Nat → Int → Int → Bool → Int → List Int → Int → Int → List (S24) → Int → ByteArray → ByteArray → Int → Int → List Int → Option (List Int)
 | 0, _, _, _, _, _, _, _, _, _, _, _, _, _, _ => none
 | k + 1, x5, x6, x33, x165000, x165001, x165002, x165003, x165004, x165005, x165006, x165007, x165008, x165009, x165010 => if x33 = true then ((posmap_place_moved.f x165000 x165001 x165002 x165003 x165004 x165005 x165006 x165007 x165008 x165009 x165010 0).bind fun t170 => (some t170)) else (if x165008 < (wrap64 (x5 + x6)) then ((posmap_place_into.f x165000 x165001 x165002 x165003 x165004 x165005 x165006 x165007 x165008 x165009 x165010).bind fun t173 => (some t173)) else ((posmap_place_moved.f x165000 x165001 x165002 x165003 x165004 x165005 x165006 x165007 x165008 x165009 x165010 (wrap64 (1 - x6))).bind fun t176 => (some t176)))
end
def posmap_place_wrap.f (k : Nat) (a0_0 : Int) (l0_1 : List Int) (a0_2 : Int) (a0_3 : Int) (l0_4 : List (S24)) (a0_5 : Int) (a0_6 : ByteArray) (a0_7 : ByteArray) (a0_8 : Int) (a0_9 : Int) (l0_10 : List Int) (a1 : Bool) : Option (List Int) := (posmap_place_offset.f a0_0 l0_1 a0_2 a0_3 l0_4 a0_5 a0_6 a0_7 a0_8 a0_9 l0_10).bind fun t165 => (if t165 = true then (if a0_8 = a0_2 then (if a0_3 = 0 then (posmap_place_wrap.j0 k a0_2 a0_3 a1 a0_0 l0_1 a0_2 a0_3 l0_4 a0_5 a0_6 a0_7 a0_8 a0_9 l0_10) else (posmap_place_wrap.j0 k a0_2 a0_3 false a0_0 l0_1 a0_2 a0_3 l0_4 a0_5 a0_6 a0_7 a0_8 a0_9 l0_10)) else (posmap_place_wrap.j0 k a0_2 a0_3 false a0_0 l0_1 a0_2 a0_3 l0_4 a0_5 a0_6 a0_7 a0_8 a0_9 l0_10)) else (posmap_place_wrap.j0 k a0_2 a0_3 false a0_0 l0_1 a0_2 a0_3 l0_4 a0_5 a0_6 a0_7 a0_8 a0_9 l0_10))
theorem posmap_place_wrap.mono_l : ∀ k, (∀ y0 y1 y2 y3 y4 y5 y6 y7 y8 y9 y10 y11 y12 y13, LeO (posmap_place_wrap.j0 k y0 y1 y2 y3 y4 y5 y6 y7 y8 y9 y10 y11 y12 y13) (posmap_place_wrap.j0 (k + 1) y0 y1 y2 y3 y4 y5 y6 y7 y8 y9 y10 y11 y12 y13)) ∧ (∀ y0 y1 y2 y3 y4 y5 y6 y7 y8 y9 y10 y11 y12 y13, LeO (posmap_place_wrap.j1 k y0 y1 y2 y3 y4 y5 y6 y7 y8 y9 y10 y11 y12 y13) (posmap_place_wrap.j1 (k + 1) y0 y1 y2 y3 y4 y5 y6 y7 y8 y9 y10 y11 y12 y13))
 | 0 => ⟨fun _ _ _ _ _ _ _ _ _ _ _ _ _ _ r h => by simp [posmap_place_wrap.j0] at h, fun _ _ _ _ _ _ _ _ _ _ _ _ _ _ r h => by simp [posmap_place_wrap.j1] at h⟩
 | k + 1 => by
  obtain ⟨ih0, ih1⟩ := posmap_place_wrap.mono_l k
  refine ⟨?_, ?_⟩
  ·intro y0 y1 y2 y3 y4 y5 y6 y7 y8 y9 y10 y11 y12 y13
   unfold posmap_place_wrap.j0
   repeat' first
   | (with_reducible exact ih0 _ _ _ _ _ _ _ _ _ _ _ _ _ _)
   | (with_reducible exact ih1 _ _ _ _ _ _ _ _ _ _ _ _ _ _)
   | (with_reducible exact LeO.refl _)
   | (with_reducible exact LeO.none _)
   | (with_reducible refine LeO.ite ?_ ?_)
   | (with_reducible refine LeO.bind ?_ (fun _ => ?_))
   | exact ih0 _ _ _ _ _ _ _ _ _ _ _ _ _ _
   | exact ih1 _ _ _ _ _ _ _ _ _ _ _ _ _ _
   | exact LeO.none _
   | refine LeO.ite ?_ ?_
   | refine LeO.bind ?_ (fun _ => ?_)
  ·intro y0 y1 y2 y3 y4 y5 y6 y7 y8 y9 y10 y11 y12 y13
   unfold posmap_place_wrap.j1
   repeat' first
   | (with_reducible exact ih0 _ _ _ _ _ _ _ _ _ _ _ _ _ _)
   | (with_reducible exact ih1 _ _ _ _ _ _ _ _ _ _ _ _ _ _)
   | (with_reducible exact LeO.refl _)
   | (with_reducible exact LeO.none _)
   | (with_reducible refine LeO.ite ?_ ?_)
   | (with_reducible refine LeO.bind ?_ (fun _ => ?_))
   | exact ih0 _ _ _ _ _ _ _ _ _ _ _ _ _ _
   | exact ih1 _ _ _ _ _ _ _ _ _ _ _ _ _ _
   | exact LeO.none _
   | refine LeO.ite ?_ ?_
   | refine LeO.bind ?_ (fun _ => ?_)
theorem posmap_place_wrap.mono : ∀ a0 a1 a2 a3 a4 a5 a6 a7 a8 a9 a10 a11 k, LeO (posmap_place_wrap.f k a0 a1 a2 a3 a4 a5 a6 a7 a8 a9 a10 a11) (posmap_place_wrap.f (k + 1) a0 a1 a2 a3 a4 a5 a6 a7 a8 a9 a10 a11) := by
 intro a0 a1 a2 a3 a4 a5 a6 a7 a8 a9 a10 a11 k
 obtain ⟨ih0, ih1⟩ := posmap_place_wrap.mono_l k
 unfold posmap_place_wrap.f
 repeat' first
   | (with_reducible exact ih0 _ _ _ _ _ _ _ _ _ _ _ _ _ _)
   | (with_reducible exact ih1 _ _ _ _ _ _ _ _ _ _ _ _ _ _)
   | (with_reducible exact LeO.refl _)
   | (with_reducible exact LeO.none _)
   | (with_reducible refine LeO.ite ?_ ?_)
   | (with_reducible refine LeO.bind ?_ (fun _ => ?_))
   | exact ih0 _ _ _ _ _ _ _ _ _ _ _ _ _ _
   | exact ih1 _ _ _ _ _ _ _ _ _ _ _ _ _ _
   | exact LeO.none _
   | refine LeO.ite ?_ ?_
   | refine LeO.bind ?_ (fun _ => ?_)
set_option maxHeartbeats 8000000 in
set_option maxRecDepth 100000 in
theorem posmap_place_wrap.calls (k : Nat) (a0_0 : Int) (A0_1 : Option Addr) (c0_1 : Nat) (l0_1 : List Int) (a0_2 : Int) (a0_3 : Int) (A0_4 : Option Addr) (c0_4 : Nat) (l0_4 : List (S24)) (a0_5 : Int) (a0_6 : ByteArray) (a0_7 : ByteArray) (a0_8 : Int) (a0_9 : Int) (A0_10 : Option Addr) (c0_10 : Nat) (l0_10 : List Int) (a1 : Bool) (r : List Int) (w : World) (hr0_1 : Kd.C (Kd.int .i64) w A0_1 l0_1.length l0_1) (hc0_1 : l0_1.length ≤ c0_1) (hr0_4 : Kd.C k24 w A0_4 l0_4.length l0_4) (hc0_4 : l0_4.length ≤ c0_4) (hr0_10 : Kd.C (Kd.int .i64) w A0_10 l0_10.length l0_10) (hc0_10 : l0_10.length ≤ c0_10) (h : posmap_place_wrap.f k a0_0 l0_1 a0_2 a0_3 l0_4 a0_5 a0_6 a0_7 a0_8 a0_9 l0_10 a1 = some r) :
  Calls Try.prog 41 #[.agg #[.int .i64 a0_0, .slice A0_1 l0_1.length c0_1, .int .i64 a0_2, .int .i64 a0_3, .slice A0_4 l0_4.length c0_4, .int .i64 a0_5, .string a0_6, .string a0_7, .int .i64 a0_8, .int .i64 a0_9, .slice A0_10 l0_10.length c0_10], .bool a1] w fun e w' => ∃ v0_ : Value, e = .returned (v0_) ∧ Kd.R (Kd.int .i64) 3 w' w.heap.size (fun _ => True) v0_ r ∧ Below w.heap.size w w' := by
 have hu65 := Try.underlying65
 have HR0_1 := zab.mk hr0_1
 have HC0_1 := zab.mk hc0_1
 clear hr0_1 hc0_1
 have HR0_4 := zab.mk hr0_4
 have HC0_4 := zab.mk hc0_4
 clear hr0_4 hc0_4
 have HR0_10 := zab.mk hr0_10
 have HC0_10 := zab.mk hc0_10
 clear hr0_10 hc0_10
 have HB := zab.mk (Below.refl w.heap.size w)
 have H : ((posmap_place_offset.f a0_0 l0_1 a0_2 a0_3 l0_4 a0_5 a0_6 a0_7 a0_8 a0_9 l0_10).bind fun t165 => (if t165 = true then (if a0_8 = a0_2 then (if a0_3 = 0 then (posmap_place_wrap.j0 k a0_2 a0_3 a1 a0_0 l0_1 a0_2 a0_3 l0_4 a0_5 a0_6 a0_7 a0_8 a0_9 l0_10) else (posmap_place_wrap.j0 k a0_2 a0_3 false a0_0 l0_1 a0_2 a0_3 l0_4 a0_5 a0_6 a0_7 a0_8 a0_9 l0_10)) else (posmap_place_wrap.j0 k a0_2 a0_3 false a0_0 l0_1 a0_2 a0_3 l0_4 a0_5 a0_6 a0_7 a0_8 a0_9 l0_10)) else (posmap_place_wrap.j0 k a0_2 a0_3 false a0_0 l0_1 a0_2 a0_3 l0_4 a0_5 a0_6 a0_7 a0_8 a0_9 l0_10))) = some r := h
 clear h
 have HC3 := zab.mk H
 clear H
 go_enter Try.func41, Try.ntmps41
 go_upto_region 2 with (first | ((with_reducible refine zaq (N := 2) rfl ?_); refine zas ?hg (N := 2) ?hd (cs := #[.int .i64 a0_0, .slice A0_1 l0_1.length c0_1, .int .i64 a0_2, .int .i64 a0_3, .slice A0_4 l0_4.length c0_4, .int .i64 a0_5, .string a0_6, .string a0_7, .int .i64 a0_8, .int .i64 a0_9, .slice A0_10 l0_10.length c0_10]) (t := 65) ?hr ?_; (case hd => rfl); (case hg => rfl); (case hr => first | (go_simp; done) | (go_simp; rfl)); intro gb164 hg w4 hbox hb; have n0_ := zab.mk (zal (by repeat (first | (with_reducible first | exact HB.o | apply zad | apply zaf | apply zae) | exact HB.o)) hb); have n1_ := zab.mk (hbox); have n2_ := zab.mk ((by rw [hg]; exact (zak (by repeat (first | (with_reducible first | exact HB.o | apply zad | apply zaf | apply zae) | exact HB.o))) : w.heap.size ≤ gb164)); have n3_ := zab.mk ((by rw [hg]; exact (zak (by repeat (first | (with_reducible first | exact HB.o | apply zad | apply zaf | apply zae) | exact HB.o))) : w.heap.size ≤ gb164)); clear HB; have HB := n0_; have BK164 := n1_; have GW164 := n2_; have GE164 := n3_; clear n0_ n1_ n2_ n3_; clear hb hbox hg; obtain ⟨hcz5_0, hcz5_1, hcz5_2, hcz5_3, hcz5_4, hcz5_5, hcz5_6, hcz5_7, hcz5_8, hcz5_9, hcz5_10⟩ := cz11 BK164.o; obtain ⟨hfz5_0, hfz5_1, hfz5_2, hfz5_3, hfz5_4, hfz5_5, hfz5_6, hfz5_7, hfz5_8, hfz5_9, hfz5_10⟩ := fz11 BK164.o))
 repeat (go_quiet (first | ((with_reducible refine zaq (N := 2) rfl ?_); refine zas ?hg (N := 2) ?hd (cs := #[.int .i64 a0_0, .slice A0_1 l0_1.length c0_1, .int .i64 a0_2, .int .i64 a0_3, .slice A0_4 l0_4.length c0_4, .int .i64 a0_5, .string a0_6, .string a0_7, .int .i64 a0_8, .int .i64 a0_9, .slice A0_10 l0_10.length c0_10]) (t := 65) ?hr ?_; (case hd => rfl); (case hg => rfl); (case hr => first | (go_simp; done) | (go_simp; rfl)); intro gb164 hg w4 hbox hb; have n0_ := zab.mk (zal (by repeat (first | (with_reducible first | exact HB.o | apply zad | apply zaf | apply zae) | exact HB.o)) hb); have n1_ := zab.mk (hbox); have n2_ := zab.mk ((by rw [hg]; exact (zak (by repeat (first | (with_reducible first | exact HB.o | apply zad | apply zaf | apply zae) | exact HB.o))) : w.heap.size ≤ gb164)); have n3_ := zab.mk ((by rw [hg]; exact (zak (by repeat (first | (with_reducible first | exact HB.o | apply zad | apply zaf | apply zae) | exact HB.o))) : w.heap.size ≤ gb164)); clear HB; have HB := n0_; have BK164 := n1_; have GW164 := n2_; have GE164 := n3_; clear n0_ n1_ n2_ n3_; clear hb hbox hg; obtain ⟨hcz5_0, hcz5_1, hcz5_2, hcz5_3, hcz5_4, hcz5_5, hcz5_6, hcz5_7, hcz5_8, hcz5_9, hcz5_10⟩ := cz11 BK164.o; obtain ⟨hfz5_0, hfz5_1, hfz5_2, hfz5_3, hfz5_4, hfz5_5, hfz5_6, hfz5_7, hfz5_8, hfz5_9, hfz5_10⟩ := fz11 BK164.o)); go_upto_region 2 with (first | ((with_reducible refine zaq (N := 2) rfl ?_); refine zas ?hg (N := 2) ?hd (cs := #[.int .i64 a0_0, .slice A0_1 l0_1.length c0_1, .int .i64 a0_2, .int .i64 a0_3, .slice A0_4 l0_4.length c0_4, .int .i64 a0_5, .string a0_6, .string a0_7, .int .i64 a0_8, .int .i64 a0_9, .slice A0_10 l0_10.length c0_10]) (t := 65) ?hr ?_; (case hd => rfl); (case hg => rfl); (case hr => first | (go_simp; done) | (go_simp; rfl)); intro gb164 hg w4 hbox hb; have n0_ := zab.mk (zal (by repeat (first | (with_reducible first | exact HB.o | apply zad | apply zaf | apply zae) | exact HB.o)) hb); have n1_ := zab.mk (hbox); have n2_ := zab.mk ((by rw [hg]; exact (zak (by repeat (first | (with_reducible first | exact HB.o | apply zad | apply zaf | apply zae) | exact HB.o))) : w.heap.size ≤ gb164)); have n3_ := zab.mk ((by rw [hg]; exact (zak (by repeat (first | (with_reducible first | exact HB.o | apply zad | apply zaf | apply zae) | exact HB.o))) : w.heap.size ≤ gb164)); clear HB; have HB := n0_; have BK164 := n1_; have GW164 := n2_; have GE164 := n3_; clear n0_ n1_ n2_ n3_; clear hb hbox hg; obtain ⟨hcz5_0, hcz5_1, hcz5_2, hcz5_3, hcz5_4, hcz5_5, hcz5_6, hcz5_7, hcz5_8, hcz5_9, hcz5_10⟩ := cz11 BK164.o; obtain ⟨hfz5_0, hfz5_1, hfz5_2, hfz5_3, hfz5_4, hfz5_5, hfz5_6, hfz5_7, hfz5_8, hfz5_9, hfz5_10⟩ := fz11 BK164.o)))
 (try simp only [Act.put, List.setIfInBounds_toArray, List.set_cons_zero, List.set_cons_succ])
 go_cut [13] (fun v13 wc => ∃ (kq : Nat) (x13_2 : Bool), v13 = .bool x13_2 ∧ zab (posmap_place_wrap.j0 kq a0_2 a0_3 x13_2 a0_0 l0_1 a0_2 a0_3 l0_4 a0_5 a0_6 a0_7 a0_8 a0_9 l0_10 = some r) ∧ zab (kq ≤ k) ∧ zab (wc.heap[gb164]? = some (.cells #[.int .i64 a0_0, (.slice A0_1 l0_1.length c0_1), .int .i64 a0_2, .int .i64 a0_3, (.slice A0_4 l0_4.length c0_4), .int .i64 a0_5, .string a0_6, .string a0_7, .int .i64 a0_8, .int .i64 a0_9, (.slice A0_10 l0_10.length c0_10)] 65 (0, 0))) ∧ zab (Below w.heap.size w wc))
 case first =>
  have H := HC3.out
  clear HC3
  replace H := Option.bind_eq_some_iff.mp H
  obtain ⟨t165, A60, H⟩ := H
  replace H : (if t165 = true then (if a0_8 = a0_2 then (if a0_3 = 0 then (posmap_place_wrap.j0 k a0_2 a0_3 a1 a0_0 l0_1 a0_2 a0_3 l0_4 a0_5 a0_6 a0_7 a0_8 a0_9 l0_10) else (posmap_place_wrap.j0 k a0_2 a0_3 false a0_0 l0_1 a0_2 a0_3 l0_4 a0_5 a0_6 a0_7 a0_8 a0_9 l0_10)) else (posmap_place_wrap.j0 k a0_2 a0_3 false a0_0 l0_1 a0_2 a0_3 l0_4 a0_5 a0_6 a0_7 a0_8 a0_9 l0_10)) else (posmap_place_wrap.j0 k a0_2 a0_3 false a0_0 l0_1 a0_2 a0_3 l0_4 a0_5 a0_6 a0_7 a0_8 a0_9 l0_10)) = some r := H
  have A6 := zab.mk A60
  clear A60
  by_cases c7 : t165 = true
  ·subst c7
   have H1 : (if a0_8 = a0_2 then (if a0_3 = 0 then (posmap_place_wrap.j0 k a0_2 a0_3 a1 a0_0 l0_1 a0_2 a0_3 l0_4 a0_5 a0_6 a0_7 a0_8 a0_9 l0_10) else (posmap_place_wrap.j0 k a0_2 a0_3 false a0_0 l0_1 a0_2 a0_3 l0_4 a0_5 a0_6 a0_7 a0_8 a0_9 l0_10)) else (posmap_place_wrap.j0 k a0_2 a0_3 false a0_0 l0_1 a0_2 a0_3 l0_4 a0_5 a0_6 a0_7 a0_8 a0_9 l0_10)) = some r := by rw [if_pos rfl] at H; exact H
   clear H
   have H := H1
   clear H1
   by_cases c8 : a0_8 = a0_2
   ·rw [if_pos c8] at H
    have c8b0 : (a0_8 == a0_2) = true := beq_iff_eq.mpr c8
    have c8b1 : (a0_8 != a0_2) = false := bne_eq_false_iff_eq.mpr c8
    clear c8
    (first | rw [c8b0] | (simp only [i64_w, i32_w]; rw [c8b0]) | skip)
    by_cases c9 : a0_3 = 0
    ·rw [if_pos c9] at H
     have c9b0 : (a0_3 == 0) = true := beq_iff_eq.mpr c9
     have c9b1 : (a0_3 != 0) = false := bne_eq_false_iff_eq.mpr c9
     clear c9
     have H' := zab.mk H
     clear H
     have hcz10_0 : w4.cell? ⟨gb164, 0, none⟩ = some (.int .i64 a0_0) := (zaa BK164.o 0).trans rfl
     have hcz10_1 : w4.cell? ⟨gb164, 1, none⟩ = some (.slice A0_1 l0_1.length c0_1) := (zaa BK164.o 1).trans rfl
     have hcz10_2 : w4.cell? ⟨gb164, 2, none⟩ = some (.int .i64 a0_2) := (zaa BK164.o 2).trans rfl
     have hcz10_3 : w4.cell? ⟨gb164, 3, none⟩ = some (.int .i64 a0_3) := (zaa BK164.o 3).trans rfl
     have hcz10_4 : w4.cell? ⟨gb164, 4, none⟩ = some (.slice A0_4 l0_4.length c0_4) := (zaa BK164.o 4).trans rfl
     have hcz10_5 : w4.cell? ⟨gb164, 5, none⟩ = some (.int .i64 a0_5) := (zaa BK164.o 5).trans rfl
     have hcz10_6 : w4.cell? ⟨gb164, 6, none⟩ = some (.string a0_6) := (zaa BK164.o 6).trans rfl
     have hcz10_7 : w4.cell? ⟨gb164, 7, none⟩ = some (.string a0_7) := (zaa BK164.o 7).trans rfl
     have hcz10_8 : w4.cell? ⟨gb164, 8, none⟩ = some (.int .i64 a0_8) := (zaa BK164.o 8).trans rfl
     have hcz10_9 : w4.cell? ⟨gb164, 9, none⟩ = some (.int .i64 a0_9) := (zaa BK164.o 9).trans rfl
     have hcz10_10 : w4.cell? ⟨gb164, 10, none⟩ = some (.slice A0_10 l0_10.length c0_10) := (zaa BK164.o 10).trans rfl
     have hfz10_0 := zac BK164.o 0
     have hfz10_1 := zac BK164.o 1
     have hfz10_2 := zac BK164.o 2
     have hfz10_3 := zac BK164.o 3
     have hfz10_4 := zac BK164.o 4
     have hfz10_5 := zac BK164.o 5
     have hfz10_6 := zac BK164.o 6
     have hfz10_7 := zac BK164.o 7
     have hfz10_8 := zac BK164.o 8
     have hfz10_9 := zac BK164.o 9
     have hfz10_10 := zac BK164.o 10
     go_wp2_with (first | (go_at_call 48; (with_reducible refine (posmap_place_offset.calls a0_0 _ _ l0_1 a0_2 a0_3 _ _ l0_4 a0_5 a0_6 a0_7 a0_8 a0_9 _ _ l0_10 true _ ?side1 ?side2 ?side3 ?side4 ?side5 ?side6 A6.o).mono ?_); (case side1 => repeat (first | exact (Kd.C_below HR0_1.o HB.o) | (with_reducible first | refine Kd.C_alloc ?_ _ | refine Kd.C_drewN ?_ _ | refine Kd.C_drew ?_))); (case side2 => exact HC0_1.out); (case side3 => repeat (first | exact (Kd.C_below HR0_4.o HB.o) | (with_reducible first | refine Kd.C_alloc ?_ _ | refine Kd.C_drewN ?_ _ | refine Kd.C_drew ?_))); (case side4 => exact HC0_4.out); (case side5 => repeat (first | exact (Kd.C_below HR0_10.o HB.o) | (with_reducible first | refine Kd.C_alloc ?_ _ | refine Kd.C_drewN ?_ _ | refine Kd.C_drew ?_))); (case side6 => exact HC0_10.out); rintro e w11 ⟨rfl, hb⟩; have n0_ := zab.mk (zam (by (with_reducible repeat (first | refine zaj ?_ _ | refine zah ?_ | refine zai ?_ _)); exact BK164.o) hb); have n1_ := zab.mk (zal (by repeat (first | (with_reducible first | exact HB.o | apply zad | apply zaf | apply zae | refine zag ?_ GE164.o) | exact HB.o)) hb); clear BK164; clear HB; have BK164 := n0_; have HB := n1_; clear n0_ n1_; (try clear hb); (try clear hb2); (try clear hk); (try clear hi); obtain ⟨hcz12_0, hcz12_1, hcz12_2, hcz12_3, hcz12_4, hcz12_5, hcz12_6, hcz12_7, hcz12_8, hcz12_9, hcz12_10⟩ := cz11 BK164.o; obtain ⟨hfz12_0, hfz12_1, hfz12_2, hfz12_3, hfz12_4, hfz12_5, hfz12_6, hfz12_7, hfz12_8, hfz12_9, hfz12_10⟩ := fz11 BK164.o))
     repeat (go_quiet (first | (go_at_call 48; (with_reducible refine (posmap_place_offset.calls a0_0 _ _ l0_1 a0_2 a0_3 _ _ l0_4 a0_5 a0_6 a0_7 a0_8 a0_9 _ _ l0_10 true _ ?side1 ?side2 ?side3 ?side4 ?side5 ?side6 A6.o).mono ?_); (case side1 => repeat (first | exact (Kd.C_below HR0_1.o HB.o) | (with_reducible first | refine Kd.C_alloc ?_ _ | refine Kd.C_drewN ?_ _ | refine Kd.C_drew ?_))); (case side2 => exact HC0_1.out); (case side3 => repeat (first | exact (Kd.C_below HR0_4.o HB.o) | (with_reducible first | refine Kd.C_alloc ?_ _ | refine Kd.C_drewN ?_ _ | refine Kd.C_drew ?_))); (case side4 => exact HC0_4.out); (case side5 => repeat (first | exact (Kd.C_below HR0_10.o HB.o) | (with_reducible first | refine Kd.C_alloc ?_ _ | refine Kd.C_drewN ?_ _ | refine Kd.C_drew ?_))); (case side6 => exact HC0_10.out); rintro e w11 ⟨rfl, hb⟩; have n0_ := zab.mk (zam (by (with_reducible repeat (first | refine zaj ?_ _ | refine zah ?_ | refine zai ?_ _)); exact BK164.o) hb); have n1_ := zab.mk (zal (by repeat (first | (with_reducible first | exact HB.o | apply zad | apply zaf | apply zae | refine zag ?_ GE164.o) | exact HB.o)) hb); clear BK164; clear HB; have BK164 := n0_; have HB := n1_; clear n0_ n1_; (try clear hb); (try clear hb2); (try clear hk); (try clear hi); obtain ⟨hcz12_0, hcz12_1, hcz12_2, hcz12_3, hcz12_4, hcz12_5, hcz12_6, hcz12_7, hcz12_8, hcz12_9, hcz12_10⟩ := cz11 BK164.o; obtain ⟨hfz12_0, hfz12_1, hfz12_2, hfz12_3, hfz12_4, hfz12_5, hfz12_6, hfz12_7, hfz12_8, hfz12_9, hfz12_10⟩ := fz11 BK164.o)); try go_wp2_with (first | (go_at_call 48; (with_reducible refine (posmap_place_offset.calls a0_0 _ _ l0_1 a0_2 a0_3 _ _ l0_4 a0_5 a0_6 a0_7 a0_8 a0_9 _ _ l0_10 true _ ?side1 ?side2 ?side3 ?side4 ?side5 ?side6 A6.o).mono ?_); (case side1 => repeat (first | exact (Kd.C_below HR0_1.o HB.o) | (with_reducible first | refine Kd.C_alloc ?_ _ | refine Kd.C_drewN ?_ _ | refine Kd.C_drew ?_))); (case side2 => exact HC0_1.out); (case side3 => repeat (first | exact (Kd.C_below HR0_4.o HB.o) | (with_reducible first | refine Kd.C_alloc ?_ _ | refine Kd.C_drewN ?_ _ | refine Kd.C_drew ?_))); (case side4 => exact HC0_4.out); (case side5 => repeat (first | exact (Kd.C_below HR0_10.o HB.o) | (with_reducible first | refine Kd.C_alloc ?_ _ | refine Kd.C_drewN ?_ _ | refine Kd.C_drew ?_))); (case side6 => exact HC0_10.out); rintro e w11 ⟨rfl, hb⟩; have n0_ := zab.mk (zam (by (with_reducible repeat (first | refine zaj ?_ _ | refine zah ?_ | refine zai ?_ _)); exact BK164.o) hb); have n1_ := zab.mk (zal (by repeat (first | (with_reducible first | exact HB.o | apply zad | apply zaf | apply zae | refine zag ?_ GE164.o) | exact HB.o)) hb); clear BK164; clear HB; have BK164 := n0_; have HB := n1_; clear n0_ n1_; (try clear hb); (try clear hb2); (try clear hk); (try clear hi); obtain ⟨hcz12_0, hcz12_1, hcz12_2, hcz12_3, hcz12_4, hcz12_5, hcz12_6, hcz12_7, hcz12_8, hcz12_9, hcz12_10⟩ := cz11 BK164.o; obtain ⟨hfz12_0, hfz12_1, hfz12_2, hfz12_3, hfz12_4, hfz12_5, hfz12_6, hfz12_7, hfz12_8, hfz12_9, hfz12_10⟩ := fz11 BK164.o)))
     go_meet
     case rel => exact ⟨_, (a1), (by first | rfl | (simp; done) | (simp [*]; done)), H', ⟨by first | omega | exact Nat.le_refl _⟩, ⟨by (with_reducible repeat (first | refine zaj ?_ _ | refine zah ?_ | refine zai ?_ _)); exact BK164.o⟩, ⟨by repeat (first | (with_reducible first | exact HB.o | apply zad | apply zaf | apply zae | refine zag ?_ GE164.o) | exact HB.o)⟩⟩
    ·rw [if_neg c9] at H
     have c9b0 : (a0_3 == 0) = false := beq_eq_false_iff_ne.mpr c9
     have c9b1 : (a0_3 != 0) = true := bne_iff_ne.mpr c9
     have H' := zab.mk H
     clear H
     have hcz13_0 : w4.cell? ⟨gb164, 0, none⟩ = some (.int .i64 a0_0) := (zaa BK164.o 0).trans rfl
     have hcz13_1 : w4.cell? ⟨gb164, 1, none⟩ = some (.slice A0_1 l0_1.length c0_1) := (zaa BK164.o 1).trans rfl
     have hcz13_2 : w4.cell? ⟨gb164, 2, none⟩ = some (.int .i64 a0_2) := (zaa BK164.o 2).trans rfl
     have hcz13_3 : w4.cell? ⟨gb164, 3, none⟩ = some (.int .i64 a0_3) := (zaa BK164.o 3).trans rfl
     have hcz13_4 : w4.cell? ⟨gb164, 4, none⟩ = some (.slice A0_4 l0_4.length c0_4) := (zaa BK164.o 4).trans rfl
     have hcz13_5 : w4.cell? ⟨gb164, 5, none⟩ = some (.int .i64 a0_5) := (zaa BK164.o 5).trans rfl
     have hcz13_6 : w4.cell? ⟨gb164, 6, none⟩ = some (.string a0_6) := (zaa BK164.o 6).trans rfl
     have hcz13_7 : w4.cell? ⟨gb164, 7, none⟩ = some (.string a0_7) := (zaa BK164.o 7).trans rfl
     have hcz13_8 : w4.cell? ⟨gb164, 8, none⟩ = some (.int .i64 a0_8) := (zaa BK164.o 8).trans rfl
     have hcz13_9 : w4.cell? ⟨gb164, 9, none⟩ = some (.int .i64 a0_9) := (zaa BK164.o 9).trans rfl
     have hcz13_10 : w4.cell? ⟨gb164, 10, none⟩ = some (.slice A0_10 l0_10.length c0_10) := (zaa BK164.o 10).trans rfl
     have hfz13_0 := zac BK164.o 0
     have hfz13_1 := zac BK164.o 1
     have hfz13_2 := zac BK164.o 2
     have hfz13_3 := zac BK164.o 3
     have hfz13_4 := zac BK164.o 4
     have hfz13_5 := zac BK164.o 5
     have hfz13_6 := zac BK164.o 6
     have hfz13_7 := zac BK164.o 7
     have hfz13_8 := zac BK164.o 8
     have hfz13_9 := zac BK164.o 9
     have hfz13_10 := zac BK164.o 10
     go_wp2_with (first | (go_at_call 48; (with_reducible refine (posmap_place_offset.calls a0_0 _ _ l0_1 a0_2 a0_3 _ _ l0_4 a0_5 a0_6 a0_7 a0_8 a0_9 _ _ l0_10 true _ ?side1 ?side2 ?side3 ?side4 ?side5 ?side6 A6.o).mono ?_); (case side1 => repeat (first | exact (Kd.C_below HR0_1.o HB.o) | (with_reducible first | refine Kd.C_alloc ?_ _ | refine Kd.C_drewN ?_ _ | refine Kd.C_drew ?_))); (case side2 => exact HC0_1.out); (case side3 => repeat (first | exact (Kd.C_below HR0_4.o HB.o) | (with_reducible first | refine Kd.C_alloc ?_ _ | refine Kd.C_drewN ?_ _ | refine Kd.C_drew ?_))); (case side4 => exact HC0_4.out); (case side5 => repeat (first | exact (Kd.C_below HR0_10.o HB.o) | (with_reducible first | refine Kd.C_alloc ?_ _ | refine Kd.C_drewN ?_ _ | refine Kd.C_drew ?_))); (case side6 => exact HC0_10.out); rintro e w14 ⟨rfl, hb⟩; have n0_ := zab.mk (zam (by (with_reducible repeat (first | refine zaj ?_ _ | refine zah ?_ | refine zai ?_ _)); exact BK164.o) hb); have n1_ := zab.mk (zal (by repeat (first | (with_reducible first | exact HB.o | apply zad | apply zaf | apply zae | refine zag ?_ GE164.o) | exact HB.o)) hb); clear BK164; clear HB; have BK164 := n0_; have HB := n1_; clear n0_ n1_; (try clear hb); (try clear hb2); (try clear hk); (try clear hi); obtain ⟨hcz15_0, hcz15_1, hcz15_2, hcz15_3, hcz15_4, hcz15_5, hcz15_6, hcz15_7, hcz15_8, hcz15_9, hcz15_10⟩ := cz11 BK164.o; obtain ⟨hfz15_0, hfz15_1, hfz15_2, hfz15_3, hfz15_4, hfz15_5, hfz15_6, hfz15_7, hfz15_8, hfz15_9, hfz15_10⟩ := fz11 BK164.o))
     repeat (go_quiet (first | (go_at_call 48; (with_reducible refine (posmap_place_offset.calls a0_0 _ _ l0_1 a0_2 a0_3 _ _ l0_4 a0_5 a0_6 a0_7 a0_8 a0_9 _ _ l0_10 true _ ?side1 ?side2 ?side3 ?side4 ?side5 ?side6 A6.o).mono ?_); (case side1 => repeat (first | exact (Kd.C_below HR0_1.o HB.o) | (with_reducible first | refine Kd.C_alloc ?_ _ | refine Kd.C_drewN ?_ _ | refine Kd.C_drew ?_))); (case side2 => exact HC0_1.out); (case side3 => repeat (first | exact (Kd.C_below HR0_4.o HB.o) | (with_reducible first | refine Kd.C_alloc ?_ _ | refine Kd.C_drewN ?_ _ | refine Kd.C_drew ?_))); (case side4 => exact HC0_4.out); (case side5 => repeat (first | exact (Kd.C_below HR0_10.o HB.o) | (with_reducible first | refine Kd.C_alloc ?_ _ | refine Kd.C_drewN ?_ _ | refine Kd.C_drew ?_))); (case side6 => exact HC0_10.out); rintro e w14 ⟨rfl, hb⟩; have n0_ := zab.mk (zam (by (with_reducible repeat (first | refine zaj ?_ _ | refine zah ?_ | refine zai ?_ _)); exact BK164.o) hb); have n1_ := zab.mk (zal (by repeat (first | (with_reducible first | exact HB.o | apply zad | apply zaf | apply zae | refine zag ?_ GE164.o) | exact HB.o)) hb); clear BK164; clear HB; have BK164 := n0_; have HB := n1_; clear n0_ n1_; (try clear hb); (try clear hb2); (try clear hk); (try clear hi); obtain ⟨hcz15_0, hcz15_1, hcz15_2, hcz15_3, hcz15_4, hcz15_5, hcz15_6, hcz15_7, hcz15_8, hcz15_9, hcz15_10⟩ := cz11 BK164.o; obtain ⟨hfz15_0, hfz15_1, hfz15_2, hfz15_3, hfz15_4, hfz15_5, hfz15_6, hfz15_7, hfz15_8, hfz15_9, hfz15_10⟩ := fz11 BK164.o)); try go_wp2_with (first | (go_at_call 48; (with_reducible refine (posmap_place_offset.calls a0_0 _ _ l0_1 a0_2 a0_3 _ _ l0_4 a0_5 a0_6 a0_7 a0_8 a0_9 _ _ l0_10 true _ ?side1 ?side2 ?side3 ?side4 ?side5 ?side6 A6.o).mono ?_); (case side1 => repeat (first | exact (Kd.C_below HR0_1.o HB.o) | (with_reducible first | refine Kd.C_alloc ?_ _ | refine Kd.C_drewN ?_ _ | refine Kd.C_drew ?_))); (case side2 => exact HC0_1.out); (case side3 => repeat (first | exact (Kd.C_below HR0_4.o HB.o) | (with_reducible first | refine Kd.C_alloc ?_ _ | refine Kd.C_drewN ?_ _ | refine Kd.C_drew ?_))); (case side4 => exact HC0_4.out); (case side5 => repeat (first | exact (Kd.C_below HR0_10.o HB.o) | (with_reducible first | refine Kd.C_alloc ?_ _ | refine Kd.C_drewN ?_ _ | refine Kd.C_drew ?_))); (case side6 => exact HC0_10.out); rintro e w14 ⟨rfl, hb⟩; have n0_ := zab.mk (zam (by (with_reducible repeat (first | refine zaj ?_ _ | refine zah ?_ | refine zai ?_ _)); exact BK164.o) hb); have n1_ := zab.mk (zal (by repeat (first | (with_reducible first | exact HB.o | apply zad | apply zaf | apply zae | refine zag ?_ GE164.o) | exact HB.o)) hb); clear BK164; clear HB; have BK164 := n0_; have HB := n1_; clear n0_ n1_; (try clear hb); (try clear hb2); (try clear hk); (try clear hi); obtain ⟨hcz15_0, hcz15_1, hcz15_2, hcz15_3, hcz15_4, hcz15_5, hcz15_6, hcz15_7, hcz15_8, hcz15_9, hcz15_10⟩ := cz11 BK164.o; obtain ⟨hfz15_0, hfz15_1, hfz15_2, hfz15_3, hfz15_4, hfz15_5, hfz15_6, hfz15_7, hfz15_8, hfz15_9, hfz15_10⟩ := fz11 BK164.o)))
     go_meet
     case rel => exact ⟨_, (false), (by first | rfl | (simp; done) | (simp [*]; done)), H', ⟨by first | omega | exact Nat.le_refl _⟩, ⟨by (with_reducible repeat (first | refine zaj ?_ _ | refine zah ?_ | refine zai ?_ _)); exact BK164.o⟩, ⟨by repeat (first | (with_reducible first | exact HB.o | apply zad | apply zaf | apply zae | refine zag ?_ GE164.o) | exact HB.o)⟩⟩
   ·rw [if_neg c8] at H
    have c8b0 : (a0_8 == a0_2) = false := beq_eq_false_iff_ne.mpr c8
    have c8b1 : (a0_8 != a0_2) = true := bne_iff_ne.mpr c8
    (first | rw [c8b0] | (simp only [i64_w, i32_w]; rw [c8b0]) | skip)
    have H' := zab.mk H
    clear H
    have hcz16_0 : w4.cell? ⟨gb164, 0, none⟩ = some (.int .i64 a0_0) := (zaa BK164.o 0).trans rfl
    have hcz16_1 : w4.cell? ⟨gb164, 1, none⟩ = some (.slice A0_1 l0_1.length c0_1) := (zaa BK164.o 1).trans rfl
    have hcz16_2 : w4.cell? ⟨gb164, 2, none⟩ = some (.int .i64 a0_2) := (zaa BK164.o 2).trans rfl
    have hcz16_3 : w4.cell? ⟨gb164, 3, none⟩ = some (.int .i64 a0_3) := (zaa BK164.o 3).trans rfl
    have hcz16_4 : w4.cell? ⟨gb164, 4, none⟩ = some (.slice A0_4 l0_4.length c0_4) := (zaa BK164.o 4).trans rfl
    have hcz16_5 : w4.cell? ⟨gb164, 5, none⟩ = some (.int .i64 a0_5) := (zaa BK164.o 5).trans rfl
    have hcz16_6 : w4.cell? ⟨gb164, 6, none⟩ = some (.string a0_6) := (zaa BK164.o 6).trans rfl
    have hcz16_7 : w4.cell? ⟨gb164, 7, none⟩ = some (.string a0_7) := (zaa BK164.o 7).trans rfl
    have hcz16_8 : w4.cell? ⟨gb164, 8, none⟩ = some (.int .i64 a0_8) := (zaa BK164.o 8).trans rfl
    have hcz16_9 : w4.cell? ⟨gb164, 9, none⟩ = some (.int .i64 a0_9) := (zaa BK164.o 9).trans rfl
    have hcz16_10 : w4.cell? ⟨gb164, 10, none⟩ = some (.slice A0_10 l0_10.length c0_10) := (zaa BK164.o 10).trans rfl
    have hfz16_0 := zac BK164.o 0
    have hfz16_1 := zac BK164.o 1
    have hfz16_2 := zac BK164.o 2
    have hfz16_3 := zac BK164.o 3
    have hfz16_4 := zac BK164.o 4
    have hfz16_5 := zac BK164.o 5
    have hfz16_6 := zac BK164.o 6
    have hfz16_7 := zac BK164.o 7
    have hfz16_8 := zac BK164.o 8
    have hfz16_9 := zac BK164.o 9
    have hfz16_10 := zac BK164.o 10
    go_wp2_with (first | (go_at_call 48; (with_reducible refine (posmap_place_offset.calls a0_0 _ _ l0_1 a0_2 a0_3 _ _ l0_4 a0_5 a0_6 a0_7 a0_8 a0_9 _ _ l0_10 true _ ?side1 ?side2 ?side3 ?side4 ?side5 ?side6 A6.o).mono ?_); (case side1 => repeat (first | exact (Kd.C_below HR0_1.o HB.o) | (with_reducible first | refine Kd.C_alloc ?_ _ | refine Kd.C_drewN ?_ _ | refine Kd.C_drew ?_))); (case side2 => exact HC0_1.out); (case side3 => repeat (first | exact (Kd.C_below HR0_4.o HB.o) | (with_reducible first | refine Kd.C_alloc ?_ _ | refine Kd.C_drewN ?_ _ | refine Kd.C_drew ?_))); (case side4 => exact HC0_4.out); (case side5 => repeat (first | exact (Kd.C_below HR0_10.o HB.o) | (with_reducible first | refine Kd.C_alloc ?_ _ | refine Kd.C_drewN ?_ _ | refine Kd.C_drew ?_))); (case side6 => exact HC0_10.out); rintro e w17 ⟨rfl, hb⟩; have n0_ := zab.mk (zam (by (with_reducible repeat (first | refine zaj ?_ _ | refine zah ?_ | refine zai ?_ _)); exact BK164.o) hb); have n1_ := zab.mk (zal (by repeat (first | (with_reducible first | exact HB.o | apply zad | apply zaf | apply zae | refine zag ?_ GE164.o) | exact HB.o)) hb); clear BK164; clear HB; have BK164 := n0_; have HB := n1_; clear n0_ n1_; (try clear hb); (try clear hb2); (try clear hk); (try clear hi); obtain ⟨hcz18_0, hcz18_1, hcz18_2, hcz18_3, hcz18_4, hcz18_5, hcz18_6, hcz18_7, hcz18_8, hcz18_9, hcz18_10⟩ := cz11 BK164.o; obtain ⟨hfz18_0, hfz18_1, hfz18_2, hfz18_3, hfz18_4, hfz18_5, hfz18_6, hfz18_7, hfz18_8, hfz18_9, hfz18_10⟩ := fz11 BK164.o))
    repeat (go_quiet (first | (go_at_call 48; (with_reducible refine (posmap_place_offset.calls a0_0 _ _ l0_1 a0_2 a0_3 _ _ l0_4 a0_5 a0_6 a0_7 a0_8 a0_9 _ _ l0_10 true _ ?side1 ?side2 ?side3 ?side4 ?side5 ?side6 A6.o).mono ?_); (case side1 => repeat (first | exact (Kd.C_below HR0_1.o HB.o) | (with_reducible first | refine Kd.C_alloc ?_ _ | refine Kd.C_drewN ?_ _ | refine Kd.C_drew ?_))); (case side2 => exact HC0_1.out); (case side3 => repeat (first | exact (Kd.C_below HR0_4.o HB.o) | (with_reducible first | refine Kd.C_alloc ?_ _ | refine Kd.C_drewN ?_ _ | refine Kd.C_drew ?_))); (case side4 => exact HC0_4.out); (case side5 => repeat (first | exact (Kd.C_below HR0_10.o HB.o) | (with_reducible first | refine Kd.C_alloc ?_ _ | refine Kd.C_drewN ?_ _ | refine Kd.C_drew ?_))); (case side6 => exact HC0_10.out); rintro e w17 ⟨rfl, hb⟩; have n0_ := zab.mk (zam (by (with_reducible repeat (first | refine zaj ?_ _ | refine zah ?_ | refine zai ?_ _)); exact BK164.o) hb); have n1_ := zab.mk (zal (by repeat (first | (with_reducible first | exact HB.o | apply zad | apply zaf | apply zae | refine zag ?_ GE164.o) | exact HB.o)) hb); clear BK164; clear HB; have BK164 := n0_; have HB := n1_; clear n0_ n1_; (try clear hb); (try clear hb2); (try clear hk); (try clear hi); obtain ⟨hcz18_0, hcz18_1, hcz18_2, hcz18_3, hcz18_4, hcz18_5, hcz18_6, hcz18_7, hcz18_8, hcz18_9, hcz18_10⟩ := cz11 BK164.o; obtain ⟨hfz18_0, hfz18_1, hfz18_2, hfz18_3, hfz18_4, hfz18_5, hfz18_6, hfz18_7, hfz18_8, hfz18_9, hfz18_10⟩ := fz11 BK164.o)); try go_wp2_with (first | (go_at_call 48; (with_reducible refine (posmap_place_offset.calls a0_0 _ _ l0_1 a0_2 a0_3 _ _ l0_4 a0_5 a0_6 a0_7 a0_8 a0_9 _ _ l0_10 true _ ?side1 ?side2 ?side3 ?side4 ?side5 ?side6 A6.o).mono ?_); (case side1 => repeat (first | exact (Kd.C_below HR0_1.o HB.o) | (with_reducible first | refine Kd.C_alloc ?_ _ | refine Kd.C_drewN ?_ _ | refine Kd.C_drew ?_))); (case side2 => exact HC0_1.out); (case side3 => repeat (first | exact (Kd.C_below HR0_4.o HB.o) | (with_reducible first | refine Kd.C_alloc ?_ _ | refine Kd.C_drewN ?_ _ | refine Kd.C_drew ?_))); (case side4 => exact HC0_4.out); (case side5 => repeat (first | exact (Kd.C_below HR0_10.o HB.o) | (with_reducible first | refine Kd.C_alloc ?_ _ | refine Kd.C_drewN ?_ _ | refine Kd.C_drew ?_))); (case side6 => exact HC0_10.out); rintro e w17 ⟨rfl, hb⟩; have n0_ := zab.mk (zam (by (with_reducible repeat (first | refine zaj ?_ _ | refine zah ?_ | refine zai ?_ _)); exact BK164.o) hb); have n1_ := zab.mk (zal (by repeat (first | (with_reducible first | exact HB.o | apply zad | apply zaf | apply zae | refine zag ?_ GE164.o) | exact HB.o)) hb); clear BK164; clear HB; have BK164 := n0_; have HB := n1_; clear n0_ n1_; (try clear hb); (try clear hb2); (try clear hk); (try clear hi); obtain ⟨hcz18_0, hcz18_1, hcz18_2, hcz18_3, hcz18_4, hcz18_5, hcz18_6, hcz18_7, hcz18_8, hcz18_9, hcz18_10⟩ := cz11 BK164.o; obtain ⟨hfz18_0, hfz18_1, hfz18_2, hfz18_3, hfz18_4, hfz18_5, hfz18_6, hfz18_7, hfz18_8, hfz18_9, hfz18_10⟩ := fz11 BK164.o)))
    go_meet
    case rel => exact ⟨_, (false), (by first | rfl | (simp; done) | (simp [*]; done)), H', ⟨by first | omega | exact Nat.le_refl _⟩, ⟨by (with_reducible repeat (first | refine zaj ?_ _ | refine zah ?_ | refine zai ?_ _)); exact BK164.o⟩, ⟨by repeat (first | (with_reducible first | exact HB.o | apply zad | apply zaf | apply zae | refine zag ?_ GE164.o) | exact HB.o)⟩⟩
  ·replace c7 := Bool.eq_false_iff.mpr c7
   subst c7
   have H1 : (posmap_place_wrap.j0 k a0_2 a0_3 false a0_0 l0_1 a0_2 a0_3 l0_4 a0_5 a0_6 a0_7 a0_8 a0_9 l0_10) = some r := by rw [if_neg (show ¬ (false = true) by decide)] at H; exact H
   clear H
   have H := H1
   clear H1
   have H' := zab.mk H
   clear H
   have hcz19_0 : w4.cell? ⟨gb164, 0, none⟩ = some (.int .i64 a0_0) := (zaa BK164.o 0).trans rfl
   have hcz19_1 : w4.cell? ⟨gb164, 1, none⟩ = some (.slice A0_1 l0_1.length c0_1) := (zaa BK164.o 1).trans rfl
   have hcz19_2 : w4.cell? ⟨gb164, 2, none⟩ = some (.int .i64 a0_2) := (zaa BK164.o 2).trans rfl
   have hcz19_3 : w4.cell? ⟨gb164, 3, none⟩ = some (.int .i64 a0_3) := (zaa BK164.o 3).trans rfl
   have hcz19_4 : w4.cell? ⟨gb164, 4, none⟩ = some (.slice A0_4 l0_4.length c0_4) := (zaa BK164.o 4).trans rfl
   have hcz19_5 : w4.cell? ⟨gb164, 5, none⟩ = some (.int .i64 a0_5) := (zaa BK164.o 5).trans rfl
   have hcz19_6 : w4.cell? ⟨gb164, 6, none⟩ = some (.string a0_6) := (zaa BK164.o 6).trans rfl
   have hcz19_7 : w4.cell? ⟨gb164, 7, none⟩ = some (.string a0_7) := (zaa BK164.o 7).trans rfl
   have hcz19_8 : w4.cell? ⟨gb164, 8, none⟩ = some (.int .i64 a0_8) := (zaa BK164.o 8).trans rfl
   have hcz19_9 : w4.cell? ⟨gb164, 9, none⟩ = some (.int .i64 a0_9) := (zaa BK164.o 9).trans rfl
   have hcz19_10 : w4.cell? ⟨gb164, 10, none⟩ = some (.slice A0_10 l0_10.length c0_10) := (zaa BK164.o 10).trans rfl
   have hfz19_0 := zac BK164.o 0
   have hfz19_1 := zac BK164.o 1
   have hfz19_2 := zac BK164.o 2
   have hfz19_3 := zac BK164.o 3
   have hfz19_4 := zac BK164.o 4
   have hfz19_5 := zac BK164.o 5
   have hfz19_6 := zac BK164.o 6
   have hfz19_7 := zac BK164.o 7
   have hfz19_8 := zac BK164.o 8
   have hfz19_9 := zac BK164.o 9
   have hfz19_10 := zac BK164.o 10
   go_wp2_with (first | (go_at_call 48; (with_reducible refine (posmap_place_offset.calls a0_0 _ _ l0_1 a0_2 a0_3 _ _ l0_4 a0_5 a0_6 a0_7 a0_8 a0_9 _ _ l0_10 false _ ?side1 ?side2 ?side3 ?side4 ?side5 ?side6 A6.o).mono ?_); (case side1 => repeat (first | exact (Kd.C_below HR0_1.o HB.o) | (with_reducible first | refine Kd.C_alloc ?_ _ | refine Kd.C_drewN ?_ _ | refine Kd.C_drew ?_))); (case side2 => exact HC0_1.out); (case side3 => repeat (first | exact (Kd.C_below HR0_4.o HB.o) | (with_reducible first | refine Kd.C_alloc ?_ _ | refine Kd.C_drewN ?_ _ | refine Kd.C_drew ?_))); (case side4 => exact HC0_4.out); (case side5 => repeat (first | exact (Kd.C_below HR0_10.o HB.o) | (with_reducible first | refine Kd.C_alloc ?_ _ | refine Kd.C_drewN ?_ _ | refine Kd.C_drew ?_))); (case side6 => exact HC0_10.out); rintro e w20 ⟨rfl, hb⟩; have n0_ := zab.mk (zam (by (with_reducible repeat (first | refine zaj ?_ _ | refine zah ?_ | refine zai ?_ _)); exact BK164.o) hb); have n1_ := zab.mk (zal (by repeat (first | (with_reducible first | exact HB.o | apply zad | apply zaf | apply zae | refine zag ?_ GE164.o) | exact HB.o)) hb); clear BK164; clear HB; have BK164 := n0_; have HB := n1_; clear n0_ n1_; (try clear hb); (try clear hb2); (try clear hk); (try clear hi)))
   repeat (go_quiet (first | (go_at_call 48; (with_reducible refine (posmap_place_offset.calls a0_0 _ _ l0_1 a0_2 a0_3 _ _ l0_4 a0_5 a0_6 a0_7 a0_8 a0_9 _ _ l0_10 false _ ?side1 ?side2 ?side3 ?side4 ?side5 ?side6 A6.o).mono ?_); (case side1 => repeat (first | exact (Kd.C_below HR0_1.o HB.o) | (with_reducible first | refine Kd.C_alloc ?_ _ | refine Kd.C_drewN ?_ _ | refine Kd.C_drew ?_))); (case side2 => exact HC0_1.out); (case side3 => repeat (first | exact (Kd.C_below HR0_4.o HB.o) | (with_reducible first | refine Kd.C_alloc ?_ _ | refine Kd.C_drewN ?_ _ | refine Kd.C_drew ?_))); (case side4 => exact HC0_4.out); (case side5 => repeat (first | exact (Kd.C_below HR0_10.o HB.o) | (with_reducible first | refine Kd.C_alloc ?_ _ | refine Kd.C_drewN ?_ _ | refine Kd.C_drew ?_))); (case side6 => exact HC0_10.out); rintro e w20 ⟨rfl, hb⟩; have n0_ := zab.mk (zam (by (with_reducible repeat (first | refine zaj ?_ _ | refine zah ?_ | refine zai ?_ _)); exact BK164.o) hb); have n1_ := zab.mk (zal (by repeat (first | (with_reducible first | exact HB.o | apply zad | apply zaf | apply zae | refine zag ?_ GE164.o) | exact HB.o)) hb); clear BK164; clear HB; have BK164 := n0_; have HB := n1_; clear n0_ n1_; (try clear hb); (try clear hb2); (try clear hk); (try clear hi))); try go_wp2_with (first | (go_at_call 48; (with_reducible refine (posmap_place_offset.calls a0_0 _ _ l0_1 a0_2 a0_3 _ _ l0_4 a0_5 a0_6 a0_7 a0_8 a0_9 _ _ l0_10 false _ ?side1 ?side2 ?side3 ?side4 ?side5 ?side6 A6.o).mono ?_); (case side1 => repeat (first | exact (Kd.C_below HR0_1.o HB.o) | (with_reducible first | refine Kd.C_alloc ?_ _ | refine Kd.C_drewN ?_ _ | refine Kd.C_drew ?_))); (case side2 => exact HC0_1.out); (case side3 => repeat (first | exact (Kd.C_below HR0_4.o HB.o) | (with_reducible first | refine Kd.C_alloc ?_ _ | refine Kd.C_drewN ?_ _ | refine Kd.C_drew ?_))); (case side4 => exact HC0_4.out); (case side5 => repeat (first | exact (Kd.C_below HR0_10.o HB.o) | (with_reducible first | refine Kd.C_alloc ?_ _ | refine Kd.C_drewN ?_ _ | refine Kd.C_drew ?_))); (case side6 => exact HC0_10.out); rintro e w20 ⟨rfl, hb⟩; have n0_ := zab.mk (zam (by (with_reducible repeat (first | refine zaj ?_ _ | refine zah ?_ | refine zai ?_ _)); exact BK164.o) hb); have n1_ := zab.mk (zal (by repeat (first | (with_reducible first | exact HB.o | apply zad | apply zaf | apply zae | refine zag ?_ GE164.o) | exact HB.o)) hb); clear BK164; clear HB; have BK164 := n0_; have HB := n1_; clear n0_ n1_; (try clear hb); (try clear hb2); (try clear hk); (try clear hi))))
   go_meet
   case rel => exact ⟨_, (false), (by first | rfl | (simp; done) | (simp [*]; done)), H', ⟨by first | omega | exact Nat.le_refl _⟩, ⟨by (with_reducible repeat (first | refine zaj ?_ _ | refine zah ?_ | refine zai ?_ _)); exact BK164.o⟩, ⟨by repeat (first | (with_reducible first | exact HB.o | apply zad | apply zaf | apply zae | refine zag ?_ GE164.o) | exact HB.o)⟩⟩
 case rest =>
  clear HC3
  try clear p2
  try clear c4
  try clear c7
  try clear c8
  try clear c8b0
  try clear c8b1
  try clear c9
  try clear c9b0
  try clear c9b1
  try clear hcz10_0
  try clear hcz10_1
  try clear hcz10_10
  try clear hcz10_2
  try clear hcz10_3
  try clear hcz10_4
  try clear hcz10_5
  try clear hcz10_6
  try clear hcz10_7
  try clear hcz10_8
  try clear hcz10_9
  try clear hcz12_0
  try clear hcz12_1
  try clear hcz12_10
  try clear hcz12_2
  try clear hcz12_3
  try clear hcz12_4
  try clear hcz12_5
  try clear hcz12_6
  try clear hcz12_7
  try clear hcz12_8
  try clear hcz12_9
  try clear hcz13_0
  try clear hcz13_1
  try clear hcz13_10
  try clear hcz13_2
  try clear hcz13_3
  try clear hcz13_4
  try clear hcz13_5
  try clear hcz13_6
  try clear hcz13_7
  try clear hcz13_8
  try clear hcz13_9
  try clear hcz15_0
  try clear hcz15_1
  try clear hcz15_10
  try clear hcz15_2
  try clear hcz15_3
  try clear hcz15_4
  try clear hcz15_5
  try clear hcz15_6
  try clear hcz15_7
  try clear hcz15_8
  try clear hcz15_9
  try clear hcz16_0
  try clear hcz16_1
  try clear hcz16_10
  try clear hcz16_2
  try clear hcz16_3
  try clear hcz16_4
  try clear hcz16_5
  try clear hcz16_6
  try clear hcz16_7
  try clear hcz16_8
  try clear hcz16_9
  try clear hcz18_0
  try clear hcz18_1
  try clear hcz18_10
  try clear hcz18_2
  try clear hcz18_3
  try clear hcz18_4
  try clear hcz18_5
  try clear hcz18_6
  try clear hcz18_7
  try clear hcz18_8
  try clear hcz18_9
  try clear hcz19_0
  try clear hcz19_1
  try clear hcz19_10
  try clear hcz19_2
  try clear hcz19_3
  try clear hcz19_4
  try clear hcz19_5
  try clear hcz19_6
  try clear hcz19_7
  try clear hcz19_8
  try clear hcz19_9
  try clear hcz5_0
  try clear hcz5_1
  try clear hcz5_10
  try clear hcz5_2
  try clear hcz5_3
  try clear hcz5_4
  try clear hcz5_5
  try clear hcz5_6
  try clear hcz5_7
  try clear hcz5_8
  try clear hcz5_9
  try clear hfz10_0
  try clear hfz10_1
  try clear hfz10_10
  try clear hfz10_2
  try clear hfz10_3
  try clear hfz10_4
  try clear hfz10_5
  try clear hfz10_6
  try clear hfz10_7
  try clear hfz10_8
  try clear hfz10_9
  try clear hfz12_0
  try clear hfz12_1
  try clear hfz12_10
  try clear hfz12_2
  try clear hfz12_3
  try clear hfz12_4
  try clear hfz12_5
  try clear hfz12_6
  try clear hfz12_7
  try clear hfz12_8
  try clear hfz12_9
  try clear hfz13_0
  try clear hfz13_1
  try clear hfz13_10
  try clear hfz13_2
  try clear hfz13_3
  try clear hfz13_4
  try clear hfz13_5
  try clear hfz13_6
  try clear hfz13_7
  try clear hfz13_8
  try clear hfz13_9
  try clear hfz15_0
  try clear hfz15_1
  try clear hfz15_10
  try clear hfz15_2
  try clear hfz15_3
  try clear hfz15_4
  try clear hfz15_5
  try clear hfz15_6
  try clear hfz15_7
  try clear hfz15_8
  try clear hfz15_9
  try clear hfz16_0
  try clear hfz16_1
  try clear hfz16_10
  try clear hfz16_2
  try clear hfz16_3
  try clear hfz16_4
  try clear hfz16_5
  try clear hfz16_6
  try clear hfz16_7
  try clear hfz16_8
  try clear hfz16_9
  try clear hfz18_0
  try clear hfz18_1
  try clear hfz18_10
  try clear hfz18_2
  try clear hfz18_3
  try clear hfz18_4
  try clear hfz18_5
  try clear hfz18_6
  try clear hfz18_7
  try clear hfz18_8
  try clear hfz18_9
  try clear hfz19_0
  try clear hfz19_1
  try clear hfz19_10
  try clear hfz19_2
  try clear hfz19_3
  try clear hfz19_4
  try clear hfz19_5
  try clear hfz19_6
  try clear hfz19_7
  try clear hfz19_8
  try clear hfz19_9
  try clear hfz5_0
  try clear hfz5_1
  try clear hfz5_10
  try clear hfz5_2
  try clear hfz5_3
  try clear hfz5_4
  try clear hfz5_5
  try clear hfz5_6
  try clear hfz5_7
  try clear hfz5_8
  try clear hfz5_9
  obtain ⟨kq, x13_2, rfl, HA, HJ2, BK164, HB⟩ := hcut
  cases kq with
  | zero => exact absurd HA.o (by simp [posmap_place_wrap.j0])
  | succ kj2 =>
   have H := HA.o
   clear HA
   simp only [posmap_place_wrap.j0] at H
   by_cases c21 : x13_2 = true
   ·subst c21
    have H1 : ((posmap_place_at.f a0_0 l0_1 a0_2 a0_3 l0_4 a0_5 a0_6 a0_7 a0_8 a0_9 l0_10 (wrap64 (a0_2 + 1))).bind fun t166 => (some t166)) = some r := by rw [if_pos rfl] at H; exact H
    clear H
    have H := H1
    clear H1
    replace H := Option.bind_eq_some_iff.mp H
    obtain ⟨t166, A220, H⟩ := H
    replace H : (some t166) = some r := H
    have A22 := zab.mk A220
    clear A220
    obtain rfl := Option.some.inj H
    have hcz23_0 : wc.cell? ⟨gb164, 0, none⟩ = some (.int .i64 a0_0) := (zaa BK164.o 0).trans rfl
    have hcz23_1 : wc.cell? ⟨gb164, 1, none⟩ = some (.slice A0_1 l0_1.length c0_1) := (zaa BK164.o 1).trans rfl
    have hcz23_2 : wc.cell? ⟨gb164, 2, none⟩ = some (.int .i64 a0_2) := (zaa BK164.o 2).trans rfl
    have hcz23_3 : wc.cell? ⟨gb164, 3, none⟩ = some (.int .i64 a0_3) := (zaa BK164.o 3).trans rfl
    have hcz23_4 : wc.cell? ⟨gb164, 4, none⟩ = some (.slice A0_4 l0_4.length c0_4) := (zaa BK164.o 4).trans rfl
    have hcz23_5 : wc.cell? ⟨gb164, 5, none⟩ = some (.int .i64 a0_5) := (zaa BK164.o 5).trans rfl
    have hcz23_6 : wc.cell? ⟨gb164, 6, none⟩ = some (.string a0_6) := (zaa BK164.o 6).trans rfl
    have hcz23_7 : wc.cell? ⟨gb164, 7, none⟩ = some (.string a0_7) := (zaa BK164.o 7).trans rfl
    have hcz23_8 : wc.cell? ⟨gb164, 8, none⟩ = some (.int .i64 a0_8) := (zaa BK164.o 8).trans rfl
    have hcz23_9 : wc.cell? ⟨gb164, 9, none⟩ = some (.int .i64 a0_9) := (zaa BK164.o 9).trans rfl
    have hcz23_10 : wc.cell? ⟨gb164, 10, none⟩ = some (.slice A0_10 l0_10.length c0_10) := (zaa BK164.o 10).trans rfl
    have hfz23_0 := zac BK164.o 0
    have hfz23_1 := zac BK164.o 1
    have hfz23_2 := zac BK164.o 2
    have hfz23_3 := zac BK164.o 3
    have hfz23_4 := zac BK164.o 4
    have hfz23_5 := zac BK164.o 5
    have hfz23_6 := zac BK164.o 6
    have hfz23_7 := zac BK164.o 7
    have hfz23_8 := zac BK164.o 8
    have hfz23_9 := zac BK164.o 9
    have hfz23_10 := zac BK164.o 10
    go_wp2_with (first | (go_at_call 62; (with_reducible refine (posmap_place_at.calls a0_0 _ _ l0_1 a0_2 a0_3 _ _ l0_4 a0_5 a0_6 a0_7 a0_8 a0_9 _ _ l0_10 (wrap64 (a0_2 + 1)) t166 _ ?side1 ?side2 ?side3 ?side4 ?side5 ?side6 A22.o).mono ?_); (case side1 => repeat (first | exact (Kd.C_below HR0_1.o HB.o) | (with_reducible first | refine Kd.C_alloc ?_ _ | refine Kd.C_drewN ?_ _ | refine Kd.C_drew ?_))); (case side2 => exact HC0_1.out); (case side3 => repeat (first | exact (Kd.C_below HR0_4.o HB.o) | (with_reducible first | refine Kd.C_alloc ?_ _ | refine Kd.C_drewN ?_ _ | refine Kd.C_drew ?_))); (case side4 => exact HC0_4.out); (case side5 => repeat (first | exact (Kd.C_below HR0_10.o HB.o) | (with_reducible first | refine Kd.C_alloc ?_ _ | refine Kd.C_drewN ?_ _ | refine Kd.C_drew ?_))); (case side6 => exact HC0_10.out); rintro e w24 ⟨v167, rfl, ho0, hb⟩; have n0_ := zab.mk (Kd.R_lower ho0 (zak (by repeat (first | (with_reducible first | exact HB.o | apply zad | apply zaf | apply zae | refine zag ?_ GE164.o) | exact HB.o)))); have n1_ := zab.mk (zam (by (with_reducible repeat (first | refine zaj ?_ _ | refine zah ?_ | refine zai ?_ _)); exact BK164.o) hb); have n2_ := zab.mk (zal (by repeat (first | (with_reducible first | exact HB.o | apply zad | apply zaf | apply zae | refine zag ?_ GE164.o) | exact HB.o)) hb); clear BK164; clear HB; have HO168 := n0_; have BK164 := n1_; have HB := n2_; clear n0_ n1_ n2_; (try clear hb); (try clear hb2); (try clear hk); (try clear hi); (try clear ho0)))
    repeat (go_quiet (first | (go_at_call 62; (with_reducible refine (posmap_place_at.calls a0_0 _ _ l0_1 a0_2 a0_3 _ _ l0_4 a0_5 a0_6 a0_7 a0_8 a0_9 _ _ l0_10 (wrap64 (a0_2 + 1)) t166 _ ?side1 ?side2 ?side3 ?side4 ?side5 ?side6 A22.o).mono ?_); (case side1 => repeat (first | exact (Kd.C_below HR0_1.o HB.o) | (with_reducible first | refine Kd.C_alloc ?_ _ | refine Kd.C_drewN ?_ _ | refine Kd.C_drew ?_))); (case side2 => exact HC0_1.out); (case side3 => repeat (first | exact (Kd.C_below HR0_4.o HB.o) | (with_reducible first | refine Kd.C_alloc ?_ _ | refine Kd.C_drewN ?_ _ | refine Kd.C_drew ?_))); (case side4 => exact HC0_4.out); (case side5 => repeat (first | exact (Kd.C_below HR0_10.o HB.o) | (with_reducible first | refine Kd.C_alloc ?_ _ | refine Kd.C_drewN ?_ _ | refine Kd.C_drew ?_))); (case side6 => exact HC0_10.out); rintro e w24 ⟨v167, rfl, ho0, hb⟩; have n0_ := zab.mk (Kd.R_lower ho0 (zak (by repeat (first | (with_reducible first | exact HB.o | apply zad | apply zaf | apply zae | refine zag ?_ GE164.o) | exact HB.o)))); have n1_ := zab.mk (zam (by (with_reducible repeat (first | refine zaj ?_ _ | refine zah ?_ | refine zai ?_ _)); exact BK164.o) hb); have n2_ := zab.mk (zal (by repeat (first | (with_reducible first | exact HB.o | apply zad | apply zaf | apply zae | refine zag ?_ GE164.o) | exact HB.o)) hb); clear BK164; clear HB; have HO168 := n0_; have BK164 := n1_; have HB := n2_; clear n0_ n1_ n2_; (try clear hb); (try clear hb2); (try clear hk); (try clear hi); (try clear ho0))); try go_wp2_with (first | (go_at_call 62; (with_reducible refine (posmap_place_at.calls a0_0 _ _ l0_1 a0_2 a0_3 _ _ l0_4 a0_5 a0_6 a0_7 a0_8 a0_9 _ _ l0_10 (wrap64 (a0_2 + 1)) t166 _ ?side1 ?side2 ?side3 ?side4 ?side5 ?side6 A22.o).mono ?_); (case side1 => repeat (first | exact (Kd.C_below HR0_1.o HB.o) | (with_reducible first | refine Kd.C_alloc ?_ _ | refine Kd.C_drewN ?_ _ | refine Kd.C_drew ?_))); (case side2 => exact HC0_1.out); (case side3 => repeat (first | exact (Kd.C_below HR0_4.o HB.o) | (with_reducible first | refine Kd.C_alloc ?_ _ | refine Kd.C_drewN ?_ _ | refine Kd.C_drew ?_))); (case side4 => exact HC0_4.out); (case side5 => repeat (first | exact (Kd.C_below HR0_10.o HB.o) | (with_reducible first | refine Kd.C_alloc ?_ _ | refine Kd.C_drewN ?_ _ | refine Kd.C_drew ?_))); (case side6 => exact HC0_10.out); rintro e w24 ⟨v167, rfl, ho0, hb⟩; have n0_ := zab.mk (Kd.R_lower ho0 (zak (by repeat (first | (with_reducible first | exact HB.o | apply zad | apply zaf | apply zae | refine zag ?_ GE164.o) | exact HB.o)))); have n1_ := zab.mk (zam (by (with_reducible repeat (first | refine zaj ?_ _ | refine zah ?_ | refine zai ?_ _)); exact BK164.o) hb); have n2_ := zab.mk (zal (by repeat (first | (with_reducible first | exact HB.o | apply zad | apply zaf | apply zae | refine zag ?_ GE164.o) | exact HB.o)) hb); clear BK164; clear HB; have HO168 := n0_; have BK164 := n1_; have HB := n2_; clear n0_ n1_ n2_; (try clear hb); (try clear hb2); (try clear hk); (try clear hi); (try clear ho0))))
    go_ret
    exact ⟨_, by first | rfl | (simp [errW_none, errW_some] <;> rfl) | (simp [*, errW_none, errW_some] <;> rfl), by (with_reducible repeat (first | apply Kd.R_alloc | apply Kd.R_drewN | apply Kd.R_drew)); exact HO168.o, by repeat (first | (with_reducible first | exact HB.o | apply zad | apply zaf | apply zae | refine zag ?_ GE164.o) | exact HB.o)⟩
   ·replace c21 := Bool.eq_false_iff.mpr c21
    subst c21
    have H1 : (if a0_8 < a0_2 then (posmap_place_wrap.j1 kj2 a0_2 a0_3 true a0_0 l0_1 a0_2 a0_3 l0_4 a0_5 a0_6 a0_7 a0_8 a0_9 l0_10) else ((posmap_place_offset.f a0_0 l0_1 a0_2 a0_3 l0_4 a0_5 a0_6 a0_7 a0_8 a0_9 l0_10).bind fun t169 => (if t169 = true then (posmap_place_wrap.j1 kj2 a0_2 a0_3 (a0_8 == a0_2) a0_0 l0_1 a0_2 a0_3 l0_4 a0_5 a0_6 a0_7 a0_8 a0_9 l0_10) else (posmap_place_wrap.j1 kj2 a0_2 a0_3 false a0_0 l0_1 a0_2 a0_3 l0_4 a0_5 a0_6 a0_7 a0_8 a0_9 l0_10)))) = some r := by rw [if_neg (show ¬ (false = true) by decide)] at H; exact H
    clear H
    have H := H1
    clear H1
    have HC25 := zab.mk H
    clear H
    go_upto_region 4 with (fail)
    repeat (go_quiet (fail); go_upto_region 4 with (fail))
    go_cut [33] (fun v33 wc => ∃ (kq : Nat) (x33_24 : Bool), v33 = .bool x33_24 ∧ zab (posmap_place_wrap.j1 kq a0_2 a0_3 x33_24 a0_0 l0_1 a0_2 a0_3 l0_4 a0_5 a0_6 a0_7 a0_8 a0_9 l0_10 = some r) ∧ zab (kq ≤ kj2) ∧ zab (wc.heap[gb164]? = some (.cells #[.int .i64 a0_0, (.slice A0_1 l0_1.length c0_1), .int .i64 a0_2, .int .i64 a0_3, (.slice A0_4 l0_4.length c0_4), .int .i64 a0_5, .string a0_6, .string a0_7, .int .i64 a0_8, .int .i64 a0_9, (.slice A0_10 l0_10.length c0_10)] 65 (0, 0))) ∧ zab (Below w.heap.size w wc))
    case first =>
     have H := HC25.out
     clear HC25
     by_cases c26 : a0_8 < a0_2
     ·rw [if_pos c26] at H
      have c26b0 : decide (a0_8 < a0_2) = true := decide_eq_true c26
      clear c26
      (first | rw [c26b0] | (simp only [i64_w, i32_w]; rw [c26b0]) | skip)
      have H' := zab.mk H
      clear H
      have hcz27_0 : wc.cell? ⟨gb164, 0, none⟩ = some (.int .i64 a0_0) := (zaa BK164.o 0).trans rfl
      have hcz27_1 : wc.cell? ⟨gb164, 1, none⟩ = some (.slice A0_1 l0_1.length c0_1) := (zaa BK164.o 1).trans rfl
      have hcz27_2 : wc.cell? ⟨gb164, 2, none⟩ = some (.int .i64 a0_2) := (zaa BK164.o 2).trans rfl
      have hcz27_3 : wc.cell? ⟨gb164, 3, none⟩ = some (.int .i64 a0_3) := (zaa BK164.o 3).trans rfl
      have hcz27_4 : wc.cell? ⟨gb164, 4, none⟩ = some (.slice A0_4 l0_4.length c0_4) := (zaa BK164.o 4).trans rfl
      have hcz27_5 : wc.cell? ⟨gb164, 5, none⟩ = some (.int .i64 a0_5) := (zaa BK164.o 5).trans rfl
      have hcz27_6 : wc.cell? ⟨gb164, 6, none⟩ = some (.string a0_6) := (zaa BK164.o 6).trans rfl
      have hcz27_7 : wc.cell? ⟨gb164, 7, none⟩ = some (.string a0_7) := (zaa BK164.o 7).trans rfl
      have hcz27_8 : wc.cell? ⟨gb164, 8, none⟩ = some (.int .i64 a0_8) := (zaa BK164.o 8).trans rfl
      have hcz27_9 : wc.cell? ⟨gb164, 9, none⟩ = some (.int .i64 a0_9) := (zaa BK164.o 9).trans rfl
      have hcz27_10 : wc.cell? ⟨gb164, 10, none⟩ = some (.slice A0_10 l0_10.length c0_10) := (zaa BK164.o 10).trans rfl
      have hfz27_0 := zac BK164.o 0
      have hfz27_1 := zac BK164.o 1
      have hfz27_2 := zac BK164.o 2
      have hfz27_3 := zac BK164.o 3
      have hfz27_4 := zac BK164.o 4
      have hfz27_5 := zac BK164.o 5
      have hfz27_6 := zac BK164.o 6
      have hfz27_7 := zac BK164.o 7
      have hfz27_8 := zac BK164.o 8
      have hfz27_9 := zac BK164.o 9
      have hfz27_10 := zac BK164.o 10
      go_wp2
      repeat (go_quiet (fail); try go_wp2)
      go_meet
      case rel => exact ⟨_, (true), (by first | rfl | (simp; done) | (simp [*]; done)), H', ⟨by have := HJ2.out; first | omega | exact Nat.le_refl _⟩, ⟨by (with_reducible repeat (first | refine zaj ?_ _ | refine zah ?_ | refine zai ?_ _)); exact BK164.o⟩, ⟨by repeat (first | (with_reducible first | exact HB.o | apply zad | apply zaf | apply zae | refine zag ?_ GE164.o) | exact HB.o)⟩⟩
     ·rw [if_neg c26] at H
      have c26b0 : decide (a0_8 < a0_2) = false := decide_eq_false c26
      clear c26
      (first | rw [c26b0] | (simp only [i64_w, i32_w]; rw [c26b0]) | skip)
      replace H := Option.bind_eq_some_iff.mp H
      obtain ⟨t169, A280, H⟩ := H
      replace H : (if t169 = true then (posmap_place_wrap.j1 kj2 a0_2 a0_3 (a0_8 == a0_2) a0_0 l0_1 a0_2 a0_3 l0_4 a0_5 a0_6 a0_7 a0_8 a0_9 l0_10) else (posmap_place_wrap.j1 kj2 a0_2 a0_3 false a0_0 l0_1 a0_2 a0_3 l0_4 a0_5 a0_6 a0_7 a0_8 a0_9 l0_10)) = some r := H
      have A28 := zab.mk A280
      clear A280
      by_cases c29 : t169 = true
      ·subst c29
       have H1 : (posmap_place_wrap.j1 kj2 a0_2 a0_3 (a0_8 == a0_2) a0_0 l0_1 a0_2 a0_3 l0_4 a0_5 a0_6 a0_7 a0_8 a0_9 l0_10) = some r := by rw [if_pos rfl] at H; exact H
       clear H
       have H := H1
       clear H1
       have H' := zab.mk H
       clear H
       have hcz30_0 : wc.cell? ⟨gb164, 0, none⟩ = some (.int .i64 a0_0) := (zaa BK164.o 0).trans rfl
       have hcz30_1 : wc.cell? ⟨gb164, 1, none⟩ = some (.slice A0_1 l0_1.length c0_1) := (zaa BK164.o 1).trans rfl
       have hcz30_2 : wc.cell? ⟨gb164, 2, none⟩ = some (.int .i64 a0_2) := (zaa BK164.o 2).trans rfl
       have hcz30_3 : wc.cell? ⟨gb164, 3, none⟩ = some (.int .i64 a0_3) := (zaa BK164.o 3).trans rfl
       have hcz30_4 : wc.cell? ⟨gb164, 4, none⟩ = some (.slice A0_4 l0_4.length c0_4) := (zaa BK164.o 4).trans rfl
       have hcz30_5 : wc.cell? ⟨gb164, 5, none⟩ = some (.int .i64 a0_5) := (zaa BK164.o 5).trans rfl
       have hcz30_6 : wc.cell? ⟨gb164, 6, none⟩ = some (.string a0_6) := (zaa BK164.o 6).trans rfl
       have hcz30_7 : wc.cell? ⟨gb164, 7, none⟩ = some (.string a0_7) := (zaa BK164.o 7).trans rfl
       have hcz30_8 : wc.cell? ⟨gb164, 8, none⟩ = some (.int .i64 a0_8) := (zaa BK164.o 8).trans rfl
       have hcz30_9 : wc.cell? ⟨gb164, 9, none⟩ = some (.int .i64 a0_9) := (zaa BK164.o 9).trans rfl
       have hcz30_10 : wc.cell? ⟨gb164, 10, none⟩ = some (.slice A0_10 l0_10.length c0_10) := (zaa BK164.o 10).trans rfl
       have hfz30_0 := zac BK164.o 0
       have hfz30_1 := zac BK164.o 1
       have hfz30_2 := zac BK164.o 2
       have hfz30_3 := zac BK164.o 3
       have hfz30_4 := zac BK164.o 4
       have hfz30_5 := zac BK164.o 5
       have hfz30_6 := zac BK164.o 6
       have hfz30_7 := zac BK164.o 7
       have hfz30_8 := zac BK164.o 8
       have hfz30_9 := zac BK164.o 9
       have hfz30_10 := zac BK164.o 10
       go_wp2_with (first | (go_at_call 48; (with_reducible refine (posmap_place_offset.calls a0_0 _ _ l0_1 a0_2 a0_3 _ _ l0_4 a0_5 a0_6 a0_7 a0_8 a0_9 _ _ l0_10 true _ ?side1 ?side2 ?side3 ?side4 ?side5 ?side6 A28.o).mono ?_); (case side1 => repeat (first | exact (Kd.C_below HR0_1.o HB.o) | (with_reducible first | refine Kd.C_alloc ?_ _ | refine Kd.C_drewN ?_ _ | refine Kd.C_drew ?_))); (case side2 => exact HC0_1.out); (case side3 => repeat (first | exact (Kd.C_below HR0_4.o HB.o) | (with_reducible first | refine Kd.C_alloc ?_ _ | refine Kd.C_drewN ?_ _ | refine Kd.C_drew ?_))); (case side4 => exact HC0_4.out); (case side5 => repeat (first | exact (Kd.C_below HR0_10.o HB.o) | (with_reducible first | refine Kd.C_alloc ?_ _ | refine Kd.C_drewN ?_ _ | refine Kd.C_drew ?_))); (case side6 => exact HC0_10.out); rintro e w31 ⟨rfl, hb⟩; have n0_ := zab.mk (zam (by (with_reducible repeat (first | refine zaj ?_ _ | refine zah ?_ | refine zai ?_ _)); exact BK164.o) hb); have n1_ := zab.mk (zal (by repeat (first | (with_reducible first | exact HB.o | apply zad | apply zaf | apply zae | refine zag ?_ GE164.o) | exact HB.o)) hb); clear BK164; clear HB; have BK164 := n0_; have HB := n1_; clear n0_ n1_; (try clear hb); (try clear hb2); (try clear hk); (try clear hi); obtain ⟨hcz32_0, hcz32_1, hcz32_2, hcz32_3, hcz32_4, hcz32_5, hcz32_6, hcz32_7, hcz32_8, hcz32_9, hcz32_10⟩ := cz11 BK164.o; obtain ⟨hfz32_0, hfz32_1, hfz32_2, hfz32_3, hfz32_4, hfz32_5, hfz32_6, hfz32_7, hfz32_8, hfz32_9, hfz32_10⟩ := fz11 BK164.o))
       repeat (go_quiet (first | (go_at_call 48; (with_reducible refine (posmap_place_offset.calls a0_0 _ _ l0_1 a0_2 a0_3 _ _ l0_4 a0_5 a0_6 a0_7 a0_8 a0_9 _ _ l0_10 true _ ?side1 ?side2 ?side3 ?side4 ?side5 ?side6 A28.o).mono ?_); (case side1 => repeat (first | exact (Kd.C_below HR0_1.o HB.o) | (with_reducible first | refine Kd.C_alloc ?_ _ | refine Kd.C_drewN ?_ _ | refine Kd.C_drew ?_))); (case side2 => exact HC0_1.out); (case side3 => repeat (first | exact (Kd.C_below HR0_4.o HB.o) | (with_reducible first | refine Kd.C_alloc ?_ _ | refine Kd.C_drewN ?_ _ | refine Kd.C_drew ?_))); (case side4 => exact HC0_4.out); (case side5 => repeat (first | exact (Kd.C_below HR0_10.o HB.o) | (with_reducible first | refine Kd.C_alloc ?_ _ | refine Kd.C_drewN ?_ _ | refine Kd.C_drew ?_))); (case side6 => exact HC0_10.out); rintro e w31 ⟨rfl, hb⟩; have n0_ := zab.mk (zam (by (with_reducible repeat (first | refine zaj ?_ _ | refine zah ?_ | refine zai ?_ _)); exact BK164.o) hb); have n1_ := zab.mk (zal (by repeat (first | (with_reducible first | exact HB.o | apply zad | apply zaf | apply zae | refine zag ?_ GE164.o) | exact HB.o)) hb); clear BK164; clear HB; have BK164 := n0_; have HB := n1_; clear n0_ n1_; (try clear hb); (try clear hb2); (try clear hk); (try clear hi); obtain ⟨hcz32_0, hcz32_1, hcz32_2, hcz32_3, hcz32_4, hcz32_5, hcz32_6, hcz32_7, hcz32_8, hcz32_9, hcz32_10⟩ := cz11 BK164.o; obtain ⟨hfz32_0, hfz32_1, hfz32_2, hfz32_3, hfz32_4, hfz32_5, hfz32_6, hfz32_7, hfz32_8, hfz32_9, hfz32_10⟩ := fz11 BK164.o)); try go_wp2_with (first | (go_at_call 48; (with_reducible refine (posmap_place_offset.calls a0_0 _ _ l0_1 a0_2 a0_3 _ _ l0_4 a0_5 a0_6 a0_7 a0_8 a0_9 _ _ l0_10 true _ ?side1 ?side2 ?side3 ?side4 ?side5 ?side6 A28.o).mono ?_); (case side1 => repeat (first | exact (Kd.C_below HR0_1.o HB.o) | (with_reducible first | refine Kd.C_alloc ?_ _ | refine Kd.C_drewN ?_ _ | refine Kd.C_drew ?_))); (case side2 => exact HC0_1.out); (case side3 => repeat (first | exact (Kd.C_below HR0_4.o HB.o) | (with_reducible first | refine Kd.C_alloc ?_ _ | refine Kd.C_drewN ?_ _ | refine Kd.C_drew ?_))); (case side4 => exact HC0_4.out); (case side5 => repeat (first | exact (Kd.C_below HR0_10.o HB.o) | (with_reducible first | refine Kd.C_alloc ?_ _ | refine Kd.C_drewN ?_ _ | refine Kd.C_drew ?_))); (case side6 => exact HC0_10.out); rintro e w31 ⟨rfl, hb⟩; have n0_ := zab.mk (zam (by (with_reducible repeat (first | refine zaj ?_ _ | refine zah ?_ | refine zai ?_ _)); exact BK164.o) hb); have n1_ := zab.mk (zal (by repeat (first | (with_reducible first | exact HB.o | apply zad | apply zaf | apply zae | refine zag ?_ GE164.o) | exact HB.o)) hb); clear BK164; clear HB; have BK164 := n0_; have HB := n1_; clear n0_ n1_; (try clear hb); (try clear hb2); (try clear hk); (try clear hi); obtain ⟨hcz32_0, hcz32_1, hcz32_2, hcz32_3, hcz32_4, hcz32_5, hcz32_6, hcz32_7, hcz32_8, hcz32_9, hcz32_10⟩ := cz11 BK164.o; obtain ⟨hfz32_0, hfz32_1, hfz32_2, hfz32_3, hfz32_4, hfz32_5, hfz32_6, hfz32_7, hfz32_8, hfz32_9, hfz32_10⟩ := fz11 BK164.o)))
       go_meet
       case rel => exact ⟨_, ((a0_8 == a0_2)), (by first | rfl | (simp; done) | (simp [*]; done)), H', ⟨by have := HJ2.out; first | omega | exact Nat.le_refl _⟩, ⟨by (with_reducible repeat (first | refine zaj ?_ _ | refine zah ?_ | refine zai ?_ _)); exact BK164.o⟩, ⟨by repeat (first | (with_reducible first | exact HB.o | apply zad | apply zaf | apply zae | refine zag ?_ GE164.o) | exact HB.o)⟩⟩
      ·replace c29 := Bool.eq_false_iff.mpr c29
       subst c29
       have H1 : (posmap_place_wrap.j1 kj2 a0_2 a0_3 false a0_0 l0_1 a0_2 a0_3 l0_4 a0_5 a0_6 a0_7 a0_8 a0_9 l0_10) = some r := by rw [if_neg (show ¬ (false = true) by decide)] at H; exact H
       clear H
       have H := H1
       clear H1
       have H' := zab.mk H
       clear H
       have hcz33_0 : wc.cell? ⟨gb164, 0, none⟩ = some (.int .i64 a0_0) := (zaa BK164.o 0).trans rfl
       have hcz33_1 : wc.cell? ⟨gb164, 1, none⟩ = some (.slice A0_1 l0_1.length c0_1) := (zaa BK164.o 1).trans rfl
       have hcz33_2 : wc.cell? ⟨gb164, 2, none⟩ = some (.int .i64 a0_2) := (zaa BK164.o 2).trans rfl
       have hcz33_3 : wc.cell? ⟨gb164, 3, none⟩ = some (.int .i64 a0_3) := (zaa BK164.o 3).trans rfl
       have hcz33_4 : wc.cell? ⟨gb164, 4, none⟩ = some (.slice A0_4 l0_4.length c0_4) := (zaa BK164.o 4).trans rfl
       have hcz33_5 : wc.cell? ⟨gb164, 5, none⟩ = some (.int .i64 a0_5) := (zaa BK164.o 5).trans rfl
       have hcz33_6 : wc.cell? ⟨gb164, 6, none⟩ = some (.string a0_6) := (zaa BK164.o 6).trans rfl
       have hcz33_7 : wc.cell? ⟨gb164, 7, none⟩ = some (.string a0_7) := (zaa BK164.o 7).trans rfl
       have hcz33_8 : wc.cell? ⟨gb164, 8, none⟩ = some (.int .i64 a0_8) := (zaa BK164.o 8).trans rfl
       have hcz33_9 : wc.cell? ⟨gb164, 9, none⟩ = some (.int .i64 a0_9) := (zaa BK164.o 9).trans rfl
       have hcz33_10 : wc.cell? ⟨gb164, 10, none⟩ = some (.slice A0_10 l0_10.length c0_10) := (zaa BK164.o 10).trans rfl
       have hfz33_0 := zac BK164.o 0
       have hfz33_1 := zac BK164.o 1
       have hfz33_2 := zac BK164.o 2
       have hfz33_3 := zac BK164.o 3
       have hfz33_4 := zac BK164.o 4
       have hfz33_5 := zac BK164.o 5
       have hfz33_6 := zac BK164.o 6
       have hfz33_7 := zac BK164.o 7
       have hfz33_8 := zac BK164.o 8
       have hfz33_9 := zac BK164.o 9
       have hfz33_10 := zac BK164.o 10
       go_wp2_with (first | (go_at_call 48; (with_reducible refine (posmap_place_offset.calls a0_0 _ _ l0_1 a0_2 a0_3 _ _ l0_4 a0_5 a0_6 a0_7 a0_8 a0_9 _ _ l0_10 false _ ?side1 ?side2 ?side3 ?side4 ?side5 ?side6 A28.o).mono ?_); (case side1 => repeat (first | exact (Kd.C_below HR0_1.o HB.o) | (with_reducible first | refine Kd.C_alloc ?_ _ | refine Kd.C_drewN ?_ _ | refine Kd.C_drew ?_))); (case side2 => exact HC0_1.out); (case side3 => repeat (first | exact (Kd.C_below HR0_4.o HB.o) | (with_reducible first | refine Kd.C_alloc ?_ _ | refine Kd.C_drewN ?_ _ | refine Kd.C_drew ?_))); (case side4 => exact HC0_4.out); (case side5 => repeat (first | exact (Kd.C_below HR0_10.o HB.o) | (with_reducible first | refine Kd.C_alloc ?_ _ | refine Kd.C_drewN ?_ _ | refine Kd.C_drew ?_))); (case side6 => exact HC0_10.out); rintro e w34 ⟨rfl, hb⟩; have n0_ := zab.mk (zam (by (with_reducible repeat (first | refine zaj ?_ _ | refine zah ?_ | refine zai ?_ _)); exact BK164.o) hb); have n1_ := zab.mk (zal (by repeat (first | (with_reducible first | exact HB.o | apply zad | apply zaf | apply zae | refine zag ?_ GE164.o) | exact HB.o)) hb); clear BK164; clear HB; have BK164 := n0_; have HB := n1_; clear n0_ n1_; (try clear hb); (try clear hb2); (try clear hk); (try clear hi)))
       repeat (go_quiet (first | (go_at_call 48; (with_reducible refine (posmap_place_offset.calls a0_0 _ _ l0_1 a0_2 a0_3 _ _ l0_4 a0_5 a0_6 a0_7 a0_8 a0_9 _ _ l0_10 false _ ?side1 ?side2 ?side3 ?side4 ?side5 ?side6 A28.o).mono ?_); (case side1 => repeat (first | exact (Kd.C_below HR0_1.o HB.o) | (with_reducible first | refine Kd.C_alloc ?_ _ | refine Kd.C_drewN ?_ _ | refine Kd.C_drew ?_))); (case side2 => exact HC0_1.out); (case side3 => repeat (first | exact (Kd.C_below HR0_4.o HB.o) | (with_reducible first | refine Kd.C_alloc ?_ _ | refine Kd.C_drewN ?_ _ | refine Kd.C_drew ?_))); (case side4 => exact HC0_4.out); (case side5 => repeat (first | exact (Kd.C_below HR0_10.o HB.o) | (with_reducible first | refine Kd.C_alloc ?_ _ | refine Kd.C_drewN ?_ _ | refine Kd.C_drew ?_))); (case side6 => exact HC0_10.out); rintro e w34 ⟨rfl, hb⟩; have n0_ := zab.mk (zam (by (with_reducible repeat (first | refine zaj ?_ _ | refine zah ?_ | refine zai ?_ _)); exact BK164.o) hb); have n1_ := zab.mk (zal (by repeat (first | (with_reducible first | exact HB.o | apply zad | apply zaf | apply zae | refine zag ?_ GE164.o) | exact HB.o)) hb); clear BK164; clear HB; have BK164 := n0_; have HB := n1_; clear n0_ n1_; (try clear hb); (try clear hb2); (try clear hk); (try clear hi))); try go_wp2_with (first | (go_at_call 48; (with_reducible refine (posmap_place_offset.calls a0_0 _ _ l0_1 a0_2 a0_3 _ _ l0_4 a0_5 a0_6 a0_7 a0_8 a0_9 _ _ l0_10 false _ ?side1 ?side2 ?side3 ?side4 ?side5 ?side6 A28.o).mono ?_); (case side1 => repeat (first | exact (Kd.C_below HR0_1.o HB.o) | (with_reducible first | refine Kd.C_alloc ?_ _ | refine Kd.C_drewN ?_ _ | refine Kd.C_drew ?_))); (case side2 => exact HC0_1.out); (case side3 => repeat (first | exact (Kd.C_below HR0_4.o HB.o) | (with_reducible first | refine Kd.C_alloc ?_ _ | refine Kd.C_drewN ?_ _ | refine Kd.C_drew ?_))); (case side4 => exact HC0_4.out); (case side5 => repeat (first | exact (Kd.C_below HR0_10.o HB.o) | (with_reducible first | refine Kd.C_alloc ?_ _ | refine Kd.C_drewN ?_ _ | refine Kd.C_drew ?_))); (case side6 => exact HC0_10.out); rintro e w34 ⟨rfl, hb⟩; have n0_ := zab.mk (zam (by (with_reducible repeat (first | refine zaj ?_ _ | refine zah ?_ | refine zai ?_ _)); exact BK164.o) hb); have n1_ := zab.mk (zal (by repeat (first | (with_reducible first | exact HB.o | apply zad | apply zaf | apply zae | refine zag ?_ GE164.o) | exact HB.o)) hb); clear BK164; clear HB; have BK164 := n0_; have HB := n1_; clear n0_ n1_; (try clear hb); (try clear hb2); (try clear hk); (try clear hi))))
       go_meet
       case rel => exact ⟨_, (false), (by first | rfl | (simp; done) | (simp [*]; done)), H', ⟨by have := HJ2.out; first | omega | exact Nat.le_refl _⟩, ⟨by (with_reducible repeat (first | refine zaj ?_ _ | refine zah ?_ | refine zai ?_ _)); exact BK164.o⟩, ⟨by repeat (first | (with_reducible first | exact HB.o | apply zad | apply zaf | apply zae | refine zag ?_ GE164.o) | exact HB.o)⟩⟩
    case rest =>
     clear HC25
     try clear c2
     try clear p2
     try clear c4
     try clear p6
     try clear c7
     try clear c8
     try clear c8b0
     try clear c8b1
     try clear c9
     try clear c9b0
     try clear c9b1
     try clear c21
     try clear c26
     try clear c26b0
     try clear c29
     try clear hcz10_0
     try clear hcz10_1
     try clear hcz10_10
     try clear hcz10_2
     try clear hcz10_3
     try clear hcz10_4
     try clear hcz10_5
     try clear hcz10_6
     try clear hcz10_7
     try clear hcz10_8
     try clear hcz10_9
     try clear hcz12_0
     try clear hcz12_1
     try clear hcz12_10
     try clear hcz12_2
     try clear hcz12_3
     try clear hcz12_4
     try clear hcz12_5
     try clear hcz12_6
     try clear hcz12_7
     try clear hcz12_8
     try clear hcz12_9
     try clear hcz13_0
     try clear hcz13_1
     try clear hcz13_10
     try clear hcz13_2
     try clear hcz13_3
     try clear hcz13_4
     try clear hcz13_5
     try clear hcz13_6
     try clear hcz13_7
     try clear hcz13_8
     try clear hcz13_9
     try clear hcz15_0
     try clear hcz15_1
     try clear hcz15_10
     try clear hcz15_2
     try clear hcz15_3
     try clear hcz15_4
     try clear hcz15_5
     try clear hcz15_6
     try clear hcz15_7
     try clear hcz15_8
     try clear hcz15_9
     try clear hcz16_0
     try clear hcz16_1
     try clear hcz16_10
     try clear hcz16_2
     try clear hcz16_3
     try clear hcz16_4
     try clear hcz16_5
     try clear hcz16_6
     try clear hcz16_7
     try clear hcz16_8
     try clear hcz16_9
     try clear hcz18_0
     try clear hcz18_1
     try clear hcz18_10
     try clear hcz18_2
     try clear hcz18_3
     try clear hcz18_4
     try clear hcz18_5
     try clear hcz18_6
     try clear hcz18_7
     try clear hcz18_8
     try clear hcz18_9
     try clear hcz19_0
     try clear hcz19_1
     try clear hcz19_10
     try clear hcz19_2
     try clear hcz19_3
     try clear hcz19_4
     try clear hcz19_5
     try clear hcz19_6
     try clear hcz19_7
     try clear hcz19_8
     try clear hcz19_9
     try clear hcz23_0
     try clear hcz23_1
     try clear hcz23_10
     try clear hcz23_2
     try clear hcz23_3
     try clear hcz23_4
     try clear hcz23_5
     try clear hcz23_6
     try clear hcz23_7
     try clear hcz23_8
     try clear hcz23_9
     try clear hcz27_0
     try clear hcz27_1
     try clear hcz27_10
     try clear hcz27_2
     try clear hcz27_3
     try clear hcz27_4
     try clear hcz27_5
     try clear hcz27_6
     try clear hcz27_7
     try clear hcz27_8
     try clear hcz27_9
     try clear hcz30_0
     try clear hcz30_1
     try clear hcz30_10
     try clear hcz30_2
     try clear hcz30_3
     try clear hcz30_4
     try clear hcz30_5
     try clear hcz30_6
     try clear hcz30_7
     try clear hcz30_8
     try clear hcz30_9
     try clear hcz32_0
     try clear hcz32_1
     try clear hcz32_10
     try clear hcz32_2
     try clear hcz32_3
     try clear hcz32_4
     try clear hcz32_5
     try clear hcz32_6
     try clear hcz32_7
     try clear hcz32_8
     try clear hcz32_9
     try clear hcz33_0
     try clear hcz33_1
     try clear hcz33_10
     try clear hcz33_2
     try clear hcz33_3
     try clear hcz33_4
     try clear hcz33_5
     try clear hcz33_6
     try clear hcz33_7
     try clear hcz33_8
     try clear hcz33_9
     try clear hcz5_0
     try clear hcz5_1
     try clear hcz5_10
     try clear hcz5_2
     try clear hcz5_3
     try clear hcz5_4
     try clear hcz5_5
     try clear hcz5_6
     try clear hcz5_7
     try clear hcz5_8
     try clear hcz5_9
     try clear hfz10_0
     try clear hfz10_1
     try clear hfz10_10
     try clear hfz10_2
     try clear hfz10_3
     try clear hfz10_4
     try clear hfz10_5
     try clear hfz10_6
     try clear hfz10_7
     try clear hfz10_8
     try clear hfz10_9
     try clear hfz12_0
     try clear hfz12_1
     try clear hfz12_10
     try clear hfz12_2
     try clear hfz12_3
     try clear hfz12_4
     try clear hfz12_5
     try clear hfz12_6
     try clear hfz12_7
     try clear hfz12_8
     try clear hfz12_9
     try clear hfz13_0
     try clear hfz13_1
     try clear hfz13_10
     try clear hfz13_2
     try clear hfz13_3
     try clear hfz13_4
     try clear hfz13_5
     try clear hfz13_6
     try clear hfz13_7
     try clear hfz13_8
     try clear hfz13_9
     try clear hfz15_0
     try clear hfz15_1
     try clear hfz15_10
     try clear hfz15_2
     try clear hfz15_3
     try clear hfz15_4
     try clear hfz15_5
     try clear hfz15_6
     try clear hfz15_7
     try clear hfz15_8
     try clear hfz15_9
     try clear hfz16_0
     try clear hfz16_1
     try clear hfz16_10
     try clear hfz16_2
     try clear hfz16_3
     try clear hfz16_4
     try clear hfz16_5
     try clear hfz16_6
     try clear hfz16_7
     try clear hfz16_8
     try clear hfz16_9
     try clear hfz18_0
     try clear hfz18_1
     try clear hfz18_10
     try clear hfz18_2
     try clear hfz18_3
     try clear hfz18_4
     try clear hfz18_5
     try clear hfz18_6
     try clear hfz18_7
     try clear hfz18_8
     try clear hfz18_9
     try clear hfz19_0
     try clear hfz19_1
     try clear hfz19_10
     try clear hfz19_2
     try clear hfz19_3
     try clear hfz19_4
     try clear hfz19_5
     try clear hfz19_6
     try clear hfz19_7
     try clear hfz19_8
     try clear hfz19_9
     try clear hfz23_0
     try clear hfz23_1
     try clear hfz23_10
     try clear hfz23_2
     try clear hfz23_3
     try clear hfz23_4
     try clear hfz23_5
     try clear hfz23_6
     try clear hfz23_7
     try clear hfz23_8
     try clear hfz23_9
     try clear hfz27_0
     try clear hfz27_1
     try clear hfz27_10
     try clear hfz27_2
     try clear hfz27_3
     try clear hfz27_4
     try clear hfz27_5
     try clear hfz27_6
     try clear hfz27_7
     try clear hfz27_8
     try clear hfz27_9
     try clear hfz30_0
     try clear hfz30_1
     try clear hfz30_10
     try clear hfz30_2
     try clear hfz30_3
     try clear hfz30_4
     try clear hfz30_5
     try clear hfz30_6
     try clear hfz30_7
     try clear hfz30_8
     try clear hfz30_9
     try clear hfz32_0
     try clear hfz32_1
     try clear hfz32_10
     try clear hfz32_2
     try clear hfz32_3
     try clear hfz32_4
     try clear hfz32_5
     try clear hfz32_6
     try clear hfz32_7
     try clear hfz32_8
     try clear hfz32_9
     try clear hfz33_0
     try clear hfz33_1
     try clear hfz33_10
     try clear hfz33_2
     try clear hfz33_3
     try clear hfz33_4
     try clear hfz33_5
     try clear hfz33_6
     try clear hfz33_7
     try clear hfz33_8
     try clear hfz33_9
     try clear hfz5_0
     try clear hfz5_1
     try clear hfz5_10
     try clear hfz5_2
     try clear hfz5_3
     try clear hfz5_4
     try clear hfz5_5
     try clear hfz5_6
     try clear hfz5_7
     try clear hfz5_8
     try clear hfz5_9
     try clear p2
     obtain ⟨kq, x33_24, rfl, HA, HJ24, BK164, HB⟩ := hcut
     cases kq with
     | zero => exact absurd HA.o (by simp [posmap_place_wrap.j1])
     | succ kj24 =>
      have H := HA.o
      clear HA
      simp only [posmap_place_wrap.j1] at H
      by_cases c35 : x33_24 = true
      ·subst c35
       have H1 : ((posmap_place_moved.f a0_0 l0_1 a0_2 a0_3 l0_4 a0_5 a0_6 a0_7 a0_8 a0_9 l0_10 0).bind fun t170 => (some t170)) = some r := by rw [if_pos rfl] at H; exact H
       clear H
       have H := H1
       clear H1
       replace H := Option.bind_eq_some_iff.mp H
       obtain ⟨t170, A360, H⟩ := H
       replace H : (some t170) = some r := H
       have A36 := zab.mk A360
       clear A360
       obtain rfl := Option.some.inj H
       have hcz37_0 : wc.cell? ⟨gb164, 0, none⟩ = some (.int .i64 a0_0) := (zaa BK164.o 0).trans rfl
       have hcz37_1 : wc.cell? ⟨gb164, 1, none⟩ = some (.slice A0_1 l0_1.length c0_1) := (zaa BK164.o 1).trans rfl
       have hcz37_2 : wc.cell? ⟨gb164, 2, none⟩ = some (.int .i64 a0_2) := (zaa BK164.o 2).trans rfl
       have hcz37_3 : wc.cell? ⟨gb164, 3, none⟩ = some (.int .i64 a0_3) := (zaa BK164.o 3).trans rfl
       have hcz37_4 : wc.cell? ⟨gb164, 4, none⟩ = some (.slice A0_4 l0_4.length c0_4) := (zaa BK164.o 4).trans rfl
       have hcz37_5 : wc.cell? ⟨gb164, 5, none⟩ = some (.int .i64 a0_5) := (zaa BK164.o 5).trans rfl
       have hcz37_6 : wc.cell? ⟨gb164, 6, none⟩ = some (.string a0_6) := (zaa BK164.o 6).trans rfl
       have hcz37_7 : wc.cell? ⟨gb164, 7, none⟩ = some (.string a0_7) := (zaa BK164.o 7).trans rfl
       have hcz37_8 : wc.cell? ⟨gb164, 8, none⟩ = some (.int .i64 a0_8) := (zaa BK164.o 8).trans rfl
       have hcz37_9 : wc.cell? ⟨gb164, 9, none⟩ = some (.int .i64 a0_9) := (zaa BK164.o 9).trans rfl
       have hcz37_10 : wc.cell? ⟨gb164, 10, none⟩ = some (.slice A0_10 l0_10.length c0_10) := (zaa BK164.o 10).trans rfl
       have hfz37_0 := zac BK164.o 0
       have hfz37_1 := zac BK164.o 1
       have hfz37_2 := zac BK164.o 2
       have hfz37_3 := zac BK164.o 3
       have hfz37_4 := zac BK164.o 4
       have hfz37_5 := zac BK164.o 5
       have hfz37_6 := zac BK164.o 6
       have hfz37_7 := zac BK164.o 7
       have hfz37_8 := zac BK164.o 8
       have hfz37_9 := zac BK164.o 9
       have hfz37_10 := zac BK164.o 10
       go_wp2_with (first | (go_at_call 61; (with_reducible refine (posmap_place_moved.calls a0_0 _ _ l0_1 a0_2 a0_3 _ _ l0_4 a0_5 a0_6 a0_7 a0_8 a0_9 _ _ l0_10 0 t170 _ ?side1 ?side2 ?side3 ?side4 ?side5 ?side6 A36.o).mono ?_); (case side1 => repeat (first | exact (Kd.C_below HR0_1.o HB.o) | (with_reducible first | refine Kd.C_alloc ?_ _ | refine Kd.C_drewN ?_ _ | refine Kd.C_drew ?_))); (case side2 => exact HC0_1.out); (case side3 => repeat (first | exact (Kd.C_below HR0_4.o HB.o) | (with_reducible first | refine Kd.C_alloc ?_ _ | refine Kd.C_drewN ?_ _ | refine Kd.C_drew ?_))); (case side4 => exact HC0_4.out); (case side5 => repeat (first | exact (Kd.C_below HR0_10.o HB.o) | (with_reducible first | refine Kd.C_alloc ?_ _ | refine Kd.C_drewN ?_ _ | refine Kd.C_drew ?_))); (case side6 => exact HC0_10.out); rintro e w38 ⟨v171, rfl, ho0, hb⟩; have n0_ := zab.mk (Kd.R_lower ho0 (zak (by repeat (first | (with_reducible first | exact HB.o | apply zad | apply zaf | apply zae | refine zag ?_ GE164.o) | exact HB.o)))); have n1_ := zab.mk (zam (by (with_reducible repeat (first | refine zaj ?_ _ | refine zah ?_ | refine zai ?_ _)); exact BK164.o) hb); have n2_ := zab.mk (zal (by repeat (first | (with_reducible first | exact HB.o | apply zad | apply zaf | apply zae | refine zag ?_ GE164.o) | exact HB.o)) hb); clear BK164; clear HB; have HO172 := n0_; have BK164 := n1_; have HB := n2_; clear n0_ n1_ n2_; (try clear hb); (try clear hb2); (try clear hk); (try clear hi); (try clear ho0)))
       repeat (go_quiet (first | (go_at_call 61; (with_reducible refine (posmap_place_moved.calls a0_0 _ _ l0_1 a0_2 a0_3 _ _ l0_4 a0_5 a0_6 a0_7 a0_8 a0_9 _ _ l0_10 0 t170 _ ?side1 ?side2 ?side3 ?side4 ?side5 ?side6 A36.o).mono ?_); (case side1 => repeat (first | exact (Kd.C_below HR0_1.o HB.o) | (with_reducible first | refine Kd.C_alloc ?_ _ | refine Kd.C_drewN ?_ _ | refine Kd.C_drew ?_))); (case side2 => exact HC0_1.out); (case side3 => repeat (first | exact (Kd.C_below HR0_4.o HB.o) | (with_reducible first | refine Kd.C_alloc ?_ _ | refine Kd.C_drewN ?_ _ | refine Kd.C_drew ?_))); (case side4 => exact HC0_4.out); (case side5 => repeat (first | exact (Kd.C_below HR0_10.o HB.o) | (with_reducible first | refine Kd.C_alloc ?_ _ | refine Kd.C_drewN ?_ _ | refine Kd.C_drew ?_))); (case side6 => exact HC0_10.out); rintro e w38 ⟨v171, rfl, ho0, hb⟩; have n0_ := zab.mk (Kd.R_lower ho0 (zak (by repeat (first | (with_reducible first | exact HB.o | apply zad | apply zaf | apply zae | refine zag ?_ GE164.o) | exact HB.o)))); have n1_ := zab.mk (zam (by (with_reducible repeat (first | refine zaj ?_ _ | refine zah ?_ | refine zai ?_ _)); exact BK164.o) hb); have n2_ := zab.mk (zal (by repeat (first | (with_reducible first | exact HB.o | apply zad | apply zaf | apply zae | refine zag ?_ GE164.o) | exact HB.o)) hb); clear BK164; clear HB; have HO172 := n0_; have BK164 := n1_; have HB := n2_; clear n0_ n1_ n2_; (try clear hb); (try clear hb2); (try clear hk); (try clear hi); (try clear ho0))); try go_wp2_with (first | (go_at_call 61; (with_reducible refine (posmap_place_moved.calls a0_0 _ _ l0_1 a0_2 a0_3 _ _ l0_4 a0_5 a0_6 a0_7 a0_8 a0_9 _ _ l0_10 0 t170 _ ?side1 ?side2 ?side3 ?side4 ?side5 ?side6 A36.o).mono ?_); (case side1 => repeat (first | exact (Kd.C_below HR0_1.o HB.o) | (with_reducible first | refine Kd.C_alloc ?_ _ | refine Kd.C_drewN ?_ _ | refine Kd.C_drew ?_))); (case side2 => exact HC0_1.out); (case side3 => repeat (first | exact (Kd.C_below HR0_4.o HB.o) | (with_reducible first | refine Kd.C_alloc ?_ _ | refine Kd.C_drewN ?_ _ | refine Kd.C_drew ?_))); (case side4 => exact HC0_4.out); (case side5 => repeat (first | exact (Kd.C_below HR0_10.o HB.o) | (with_reducible first | refine Kd.C_alloc ?_ _ | refine Kd.C_drewN ?_ _ | refine Kd.C_drew ?_))); (case side6 => exact HC0_10.out); rintro e w38 ⟨v171, rfl, ho0, hb⟩; have n0_ := zab.mk (Kd.R_lower ho0 (zak (by repeat (first | (with_reducible first | exact HB.o | apply zad | apply zaf | apply zae | refine zag ?_ GE164.o) | exact HB.o)))); have n1_ := zab.mk (zam (by (with_reducible repeat (first | refine zaj ?_ _ | refine zah ?_ | refine zai ?_ _)); exact BK164.o) hb); have n2_ := zab.mk (zal (by repeat (first | (with_reducible first | exact HB.o | apply zad | apply zaf | apply zae | refine zag ?_ GE164.o) | exact HB.o)) hb); clear BK164; clear HB; have HO172 := n0_; have BK164 := n1_; have HB := n2_; clear n0_ n1_ n2_; (try clear hb); (try clear hb2); (try clear hk); (try clear hi); (try clear ho0))))
       go_ret
       exact ⟨_, by first | rfl | (simp [errW_none, errW_some] <;> rfl) | (simp [*, errW_none, errW_some] <;> rfl), by (with_reducible repeat (first | apply Kd.R_alloc | apply Kd.R_drewN | apply Kd.R_drew)); exact HO172.o, by repeat (first | (with_reducible first | exact HB.o | apply zad | apply zaf | apply zae | refine zag ?_ GE164.o) | exact HB.o)⟩
      ·replace c35 := Bool.eq_false_iff.mpr c35
       subst c35
       have H1 : (if a0_8 < (wrap64 (a0_2 + a0_3)) then ((posmap_place_into.f a0_0 l0_1 a0_2 a0_3 l0_4 a0_5 a0_6 a0_7 a0_8 a0_9 l0_10).bind fun t173 => (some t173)) else ((posmap_place_moved.f a0_0 l0_1 a0_2 a0_3 l0_4 a0_5 a0_6 a0_7 a0_8 a0_9 l0_10 (wrap64 (1 - a0_3))).bind fun t176 => (some t176))) = some r := by rw [if_neg (show ¬ (false = true) by decide)] at H; exact H
       clear H
       have H := H1
       clear H1
       by_cases c39 : a0_8 < (wrap64 (a0_2 + a0_3))
       ·rw [if_pos c39] at H
        have c39b0 : decide (a0_8 < (wrap64 (a0_2 + a0_3))) = true := decide_eq_true c39
        clear c39
        replace H := Option.bind_eq_some_iff.mp H
        obtain ⟨t173, A400, H⟩ := H
        replace H : (some t173) = some r := H
        have A40 := zab.mk A400
        clear A400
        obtain rfl := Option.some.inj H
        have hcz41_0 : wc.cell? ⟨gb164, 0, none⟩ = some (.int .i64 a0_0) := (zaa BK164.o 0).trans rfl
        have hcz41_1 : wc.cell? ⟨gb164, 1, none⟩ = some (.slice A0_1 l0_1.length c0_1) := (zaa BK164.o 1).trans rfl
        have hcz41_2 : wc.cell? ⟨gb164, 2, none⟩ = some (.int .i64 a0_2) := (zaa BK164.o 2).trans rfl
        have hcz41_3 : wc.cell? ⟨gb164, 3, none⟩ = some (.int .i64 a0_3) := (zaa BK164.o 3).trans rfl
        have hcz41_4 : wc.cell? ⟨gb164, 4, none⟩ = some (.slice A0_4 l0_4.length c0_4) := (zaa BK164.o 4).trans rfl
        have hcz41_5 : wc.cell? ⟨gb164, 5, none⟩ = some (.int .i64 a0_5) := (zaa BK164.o 5).trans rfl
        have hcz41_6 : wc.cell? ⟨gb164, 6, none⟩ = some (.string a0_6) := (zaa BK164.o 6).trans rfl
        have hcz41_7 : wc.cell? ⟨gb164, 7, none⟩ = some (.string a0_7) := (zaa BK164.o 7).trans rfl
        have hcz41_8 : wc.cell? ⟨gb164, 8, none⟩ = some (.int .i64 a0_8) := (zaa BK164.o 8).trans rfl
        have hcz41_9 : wc.cell? ⟨gb164, 9, none⟩ = some (.int .i64 a0_9) := (zaa BK164.o 9).trans rfl
        have hcz41_10 : wc.cell? ⟨gb164, 10, none⟩ = some (.slice A0_10 l0_10.length c0_10) := (zaa BK164.o 10).trans rfl
        have hfz41_0 := zac BK164.o 0
        have hfz41_1 := zac BK164.o 1
        have hfz41_2 := zac BK164.o 2
        have hfz41_3 := zac BK164.o 3
        have hfz41_4 := zac BK164.o 4
        have hfz41_5 := zac BK164.o 5
        have hfz41_6 := zac BK164.o 6
        have hfz41_7 := zac BK164.o 7
        have hfz41_8 := zac BK164.o 8
        have hfz41_9 := zac BK164.o 9
        have hfz41_10 := zac BK164.o 10
        go_wp2_with (first | (go_at_call 63; (with_reducible refine (posmap_place_into.calls a0_0 _ _ l0_1 a0_2 a0_3 _ _ l0_4 a0_5 a0_6 a0_7 a0_8 a0_9 _ _ l0_10 t173 _ ?side1 ?side2 ?side3 ?side4 ?side5 ?side6 A40.o).mono ?_); (case side1 => repeat (first | exact (Kd.C_below HR0_1.o HB.o) | (with_reducible first | refine Kd.C_alloc ?_ _ | refine Kd.C_drewN ?_ _ | refine Kd.C_drew ?_))); (case side2 => exact HC0_1.out); (case side3 => repeat (first | exact (Kd.C_below HR0_4.o HB.o) | (with_reducible first | refine Kd.C_alloc ?_ _ | refine Kd.C_drewN ?_ _ | refine Kd.C_drew ?_))); (case side4 => exact HC0_4.out); (case side5 => repeat (first | exact (Kd.C_below HR0_10.o HB.o) | (with_reducible first | refine Kd.C_alloc ?_ _ | refine Kd.C_drewN ?_ _ | refine Kd.C_drew ?_))); (case side6 => exact HC0_10.out); rintro e w42 ⟨v174, rfl, ho0, hb⟩; have n0_ := zab.mk (Kd.R_lower ho0 (zak (by repeat (first | (with_reducible first | exact HB.o | apply zad | apply zaf | apply zae | refine zag ?_ GE164.o) | exact HB.o)))); have n1_ := zab.mk (zam (by (with_reducible repeat (first | refine zaj ?_ _ | refine zah ?_ | refine zai ?_ _)); exact BK164.o) hb); have n2_ := zab.mk (zal (by repeat (first | (with_reducible first | exact HB.o | apply zad | apply zaf | apply zae | refine zag ?_ GE164.o) | exact HB.o)) hb); clear BK164; clear HB; have HO175 := n0_; have BK164 := n1_; have HB := n2_; clear n0_ n1_ n2_; (try clear hb); (try clear hb2); (try clear hk); (try clear hi); (try clear ho0)))
        repeat (go_quiet (first | (go_at_call 63; (with_reducible refine (posmap_place_into.calls a0_0 _ _ l0_1 a0_2 a0_3 _ _ l0_4 a0_5 a0_6 a0_7 a0_8 a0_9 _ _ l0_10 t173 _ ?side1 ?side2 ?side3 ?side4 ?side5 ?side6 A40.o).mono ?_); (case side1 => repeat (first | exact (Kd.C_below HR0_1.o HB.o) | (with_reducible first | refine Kd.C_alloc ?_ _ | refine Kd.C_drewN ?_ _ | refine Kd.C_drew ?_))); (case side2 => exact HC0_1.out); (case side3 => repeat (first | exact (Kd.C_below HR0_4.o HB.o) | (with_reducible first | refine Kd.C_alloc ?_ _ | refine Kd.C_drewN ?_ _ | refine Kd.C_drew ?_))); (case side4 => exact HC0_4.out); (case side5 => repeat (first | exact (Kd.C_below HR0_10.o HB.o) | (with_reducible first | refine Kd.C_alloc ?_ _ | refine Kd.C_drewN ?_ _ | refine Kd.C_drew ?_))); (case side6 => exact HC0_10.out); rintro e w42 ⟨v174, rfl, ho0, hb⟩; have n0_ := zab.mk (Kd.R_lower ho0 (zak (by repeat (first | (with_reducible first | exact HB.o | apply zad | apply zaf | apply zae | refine zag ?_ GE164.o) | exact HB.o)))); have n1_ := zab.mk (zam (by (with_reducible repeat (first | refine zaj ?_ _ | refine zah ?_ | refine zai ?_ _)); exact BK164.o) hb); have n2_ := zab.mk (zal (by repeat (first | (with_reducible first | exact HB.o | apply zad | apply zaf | apply zae | refine zag ?_ GE164.o) | exact HB.o)) hb); clear BK164; clear HB; have HO175 := n0_; have BK164 := n1_; have HB := n2_; clear n0_ n1_ n2_; (try clear hb); (try clear hb2); (try clear hk); (try clear hi); (try clear ho0))); try go_wp2_with (first | (go_at_call 63; (with_reducible refine (posmap_place_into.calls a0_0 _ _ l0_1 a0_2 a0_3 _ _ l0_4 a0_5 a0_6 a0_7 a0_8 a0_9 _ _ l0_10 t173 _ ?side1 ?side2 ?side3 ?side4 ?side5 ?side6 A40.o).mono ?_); (case side1 => repeat (first | exact (Kd.C_below HR0_1.o HB.o) | (with_reducible first | refine Kd.C_alloc ?_ _ | refine Kd.C_drewN ?_ _ | refine Kd.C_drew ?_))); (case side2 => exact HC0_1.out); (case side3 => repeat (first | exact (Kd.C_below HR0_4.o HB.o) | (with_reducible first | refine Kd.C_alloc ?_ _ | refine Kd.C_drewN ?_ _ | refine Kd.C_drew ?_))); (case side4 => exact HC0_4.out); (case side5 => repeat (first | exact (Kd.C_below HR0_10.o HB.o) | (with_reducible first | refine Kd.C_alloc ?_ _ | refine Kd.C_drewN ?_ _ | refine Kd.C_drew ?_))); (case side6 => exact HC0_10.out); rintro e w42 ⟨v174, rfl, ho0, hb⟩; have n0_ := zab.mk (Kd.R_lower ho0 (zak (by repeat (first | (with_reducible first | exact HB.o | apply zad | apply zaf | apply zae | refine zag ?_ GE164.o) | exact HB.o)))); have n1_ := zab.mk (zam (by (with_reducible repeat (first | refine zaj ?_ _ | refine zah ?_ | refine zai ?_ _)); exact BK164.o) hb); have n2_ := zab.mk (zal (by repeat (first | (with_reducible first | exact HB.o | apply zad | apply zaf | apply zae | refine zag ?_ GE164.o) | exact HB.o)) hb); clear BK164; clear HB; have HO175 := n0_; have BK164 := n1_; have HB := n2_; clear n0_ n1_ n2_; (try clear hb); (try clear hb2); (try clear hk); (try clear hi); (try clear ho0))))
        go_ret
        exact ⟨_, by first | rfl | (simp [errW_none, errW_some] <;> rfl) | (simp [*, errW_none, errW_some] <;> rfl), by (with_reducible repeat (first | apply Kd.R_alloc | apply Kd.R_drewN | apply Kd.R_drew)); exact HO175.o, by repeat (first | (with_reducible first | exact HB.o | apply zad | apply zaf | apply zae | refine zag ?_ GE164.o) | exact HB.o)⟩
       ·rw [if_neg c39] at H
        have c39b0 : decide (a0_8 < (wrap64 (a0_2 + a0_3))) = false := decide_eq_false c39
        clear c39
        replace H := Option.bind_eq_some_iff.mp H
        obtain ⟨t176, A430, H⟩ := H
        replace H : (some t176) = some r := H
        have A43 := zab.mk A430
        clear A430
        obtain rfl := Option.some.inj H
        have hcz44_0 : wc.cell? ⟨gb164, 0, none⟩ = some (.int .i64 a0_0) := (zaa BK164.o 0).trans rfl
        have hcz44_1 : wc.cell? ⟨gb164, 1, none⟩ = some (.slice A0_1 l0_1.length c0_1) := (zaa BK164.o 1).trans rfl
        have hcz44_2 : wc.cell? ⟨gb164, 2, none⟩ = some (.int .i64 a0_2) := (zaa BK164.o 2).trans rfl
        have hcz44_3 : wc.cell? ⟨gb164, 3, none⟩ = some (.int .i64 a0_3) := (zaa BK164.o 3).trans rfl
        have hcz44_4 : wc.cell? ⟨gb164, 4, none⟩ = some (.slice A0_4 l0_4.length c0_4) := (zaa BK164.o 4).trans rfl
        have hcz44_5 : wc.cell? ⟨gb164, 5, none⟩ = some (.int .i64 a0_5) := (zaa BK164.o 5).trans rfl
        have hcz44_6 : wc.cell? ⟨gb164, 6, none⟩ = some (.string a0_6) := (zaa BK164.o 6).trans rfl
        have hcz44_7 : wc.cell? ⟨gb164, 7, none⟩ = some (.string a0_7) := (zaa BK164.o 7).trans rfl
        have hcz44_8 : wc.cell? ⟨gb164, 8, none⟩ = some (.int .i64 a0_8) := (zaa BK164.o 8).trans rfl
        have hcz44_9 : wc.cell? ⟨gb164, 9, none⟩ = some (.int .i64 a0_9) := (zaa BK164.o 9).trans rfl
        have hcz44_10 : wc.cell? ⟨gb164, 10, none⟩ = some (.slice A0_10 l0_10.length c0_10) := (zaa BK164.o 10).trans rfl
        have hfz44_0 := zac BK164.o 0
        have hfz44_1 := zac BK164.o 1
        have hfz44_2 := zac BK164.o 2
        have hfz44_3 := zac BK164.o 3
        have hfz44_4 := zac BK164.o 4
        have hfz44_5 := zac BK164.o 5
        have hfz44_6 := zac BK164.o 6
        have hfz44_7 := zac BK164.o 7
        have hfz44_8 := zac BK164.o 8
        have hfz44_9 := zac BK164.o 9
        have hfz44_10 := zac BK164.o 10
        go_wp2_with (first | (go_at_call 61; (with_reducible refine (posmap_place_moved.calls a0_0 _ _ l0_1 a0_2 a0_3 _ _ l0_4 a0_5 a0_6 a0_7 a0_8 a0_9 _ _ l0_10 (wrap64 (1 - a0_3)) t176 _ ?side1 ?side2 ?side3 ?side4 ?side5 ?side6 A43.o).mono ?_); (case side1 => repeat (first | exact (Kd.C_below HR0_1.o HB.o) | (with_reducible first | refine Kd.C_alloc ?_ _ | refine Kd.C_drewN ?_ _ | refine Kd.C_drew ?_))); (case side2 => exact HC0_1.out); (case side3 => repeat (first | exact (Kd.C_below HR0_4.o HB.o) | (with_reducible first | refine Kd.C_alloc ?_ _ | refine Kd.C_drewN ?_ _ | refine Kd.C_drew ?_))); (case side4 => exact HC0_4.out); (case side5 => repeat (first | exact (Kd.C_below HR0_10.o HB.o) | (with_reducible first | refine Kd.C_alloc ?_ _ | refine Kd.C_drewN ?_ _ | refine Kd.C_drew ?_))); (case side6 => exact HC0_10.out); rintro e w45 ⟨v177, rfl, ho0, hb⟩; have n0_ := zab.mk (Kd.R_lower ho0 (zak (by repeat (first | (with_reducible first | exact HB.o | apply zad | apply zaf | apply zae | refine zag ?_ GE164.o) | exact HB.o)))); have n1_ := zab.mk (zam (by (with_reducible repeat (first | refine zaj ?_ _ | refine zah ?_ | refine zai ?_ _)); exact BK164.o) hb); have n2_ := zab.mk (zal (by repeat (first | (with_reducible first | exact HB.o | apply zad | apply zaf | apply zae | refine zag ?_ GE164.o) | exact HB.o)) hb); clear BK164; clear HB; have HO178 := n0_; have BK164 := n1_; have HB := n2_; clear n0_ n1_ n2_; (try clear hb); (try clear hb2); (try clear hk); (try clear hi); (try clear ho0)))
        repeat (go_quiet (first | (go_at_call 61; (with_reducible refine (posmap_place_moved.calls a0_0 _ _ l0_1 a0_2 a0_3 _ _ l0_4 a0_5 a0_6 a0_7 a0_8 a0_9 _ _ l0_10 (wrap64 (1 - a0_3)) t176 _ ?side1 ?side2 ?side3 ?side4 ?side5 ?side6 A43.o).mono ?_); (case side1 => repeat (first | exact (Kd.C_below HR0_1.o HB.o) | (with_reducible first | refine Kd.C_alloc ?_ _ | refine Kd.C_drewN ?_ _ | refine Kd.C_drew ?_))); (case side2 => exact HC0_1.out); (case side3 => repeat (first | exact (Kd.C_below HR0_4.o HB.o) | (with_reducible first | refine Kd.C_alloc ?_ _ | refine Kd.C_drewN ?_ _ | refine Kd.C_drew ?_))); (case side4 => exact HC0_4.out); (case side5 => repeat (first | exact (Kd.C_below HR0_10.o HB.o) | (with_reducible first | refine Kd.C_alloc ?_ _ | refine Kd.C_drewN ?_ _ | refine Kd.C_drew ?_))); (case side6 => exact HC0_10.out); rintro e w45 ⟨v177, rfl, ho0, hb⟩; have n0_ := zab.mk (Kd.R_lower ho0 (zak (by repeat (first | (with_reducible first | exact HB.o | apply zad | apply zaf | apply zae | refine zag ?_ GE164.o) | exact HB.o)))); have n1_ := zab.mk (zam (by (with_reducible repeat (first | refine zaj ?_ _ | refine zah ?_ | refine zai ?_ _)); exact BK164.o) hb); have n2_ := zab.mk (zal (by repeat (first | (with_reducible first | exact HB.o | apply zad | apply zaf | apply zae | refine zag ?_ GE164.o) | exact HB.o)) hb); clear BK164; clear HB; have HO178 := n0_; have BK164 := n1_; have HB := n2_; clear n0_ n1_ n2_; (try clear hb); (try clear hb2); (try clear hk); (try clear hi); (try clear ho0))); try go_wp2_with (first | (go_at_call 61; (with_reducible refine (posmap_place_moved.calls a0_0 _ _ l0_1 a0_2 a0_3 _ _ l0_4 a0_5 a0_6 a0_7 a0_8 a0_9 _ _ l0_10 (wrap64 (1 - a0_3)) t176 _ ?side1 ?side2 ?side3 ?side4 ?side5 ?side6 A43.o).mono ?_); (case side1 => repeat (first | exact (Kd.C_below HR0_1.o HB.o) | (with_reducible first | refine Kd.C_alloc ?_ _ | refine Kd.C_drewN ?_ _ | refine Kd.C_drew ?_))); (case side2 => exact HC0_1.out); (case side3 => repeat (first | exact (Kd.C_below HR0_4.o HB.o) | (with_reducible first | refine Kd.C_alloc ?_ _ | refine Kd.C_drewN ?_ _ | refine Kd.C_drew ?_))); (case side4 => exact HC0_4.out); (case side5 => repeat (first | exact (Kd.C_below HR0_10.o HB.o) | (with_reducible first | refine Kd.C_alloc ?_ _ | refine Kd.C_drewN ?_ _ | refine Kd.C_drew ?_))); (case side6 => exact HC0_10.out); rintro e w45 ⟨v177, rfl, ho0, hb⟩; have n0_ := zab.mk (Kd.R_lower ho0 (zak (by repeat (first | (with_reducible first | exact HB.o | apply zad | apply zaf | apply zae | refine zag ?_ GE164.o) | exact HB.o)))); have n1_ := zab.mk (zam (by (with_reducible repeat (first | refine zaj ?_ _ | refine zah ?_ | refine zai ?_ _)); exact BK164.o) hb); have n2_ := zab.mk (zal (by repeat (first | (with_reducible first | exact HB.o | apply zad | apply zaf | apply zae | refine zag ?_ GE164.o) | exact HB.o)) hb); clear BK164; clear HB; have HO178 := n0_; have BK164 := n1_; have HB := n2_; clear n0_ n1_ n2_; (try clear hb); (try clear hb2); (try clear hk); (try clear hi); (try clear ho0))))
        go_ret
        exact ⟨_, by first | rfl | (simp [errW_none, errW_some] <;> rfl) | (simp [*, errW_none, errW_some] <;> rfl), by (with_reducible repeat (first | apply Kd.R_alloc | apply Kd.R_drewN | apply Kd.R_drew)); exact HO178.o, by repeat (first | (with_reducible first | exact HB.o | apply zad | apply zaf | apply zae | refine zag ?_ GE164.o) | exact HB.o)⟩

end Go.Proofs.Ytikgflpobacndaa.P
