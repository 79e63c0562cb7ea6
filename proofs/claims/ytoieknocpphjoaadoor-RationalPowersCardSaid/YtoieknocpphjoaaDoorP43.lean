--m
/- Written by wip/tool/hprint.py (the kit's print.py with hand-proved contracts set in): contracts of the functions that the statements of this seat reach, without conditions beyond those named in each theorem. -/
import Derived.Test.YtoieknocpphjoaaDoorP0
import Derived.Test.YtoieknocpphjoaaDoorP2
import Derived.Test.YtoieknocpphjoaaDoorP12
import Derived.Test.YtoieknocpphjoaaDoorP14
import Derived.Test.YtoieknocpphjoaaDoorP33
namespace Go.Proofs.YtoieknocpphjoaaDoor.P
open Go.RowKit Go.Proofs.YtoieknocpphjoaaDoorW.PrintWords Go.Proofs.YtoieknocpphjoaaDoorW.PrintLast Go.Proofs.YtoieknocpphjoaaDoorW.PrintMore
attribute [local go_sem] zax zay zaz zaA zaB zaC zaD zaE   -- for this text's walks alone
set_option linter.unusedVariables false
set_option linter.unusedSimpArgs false

attribute [local go_sem high] eqA28
/-! ### vinculumref02_Pow: function 38 -/
mutual
def vinculumref02_Pow.j0 : Nat → Int → Bool → Int → Int → Int → Int → Option (Int × Int × Int)
 | 0, _, _, _, _, _, _ => none
 | k + 1, x1, x17, x439000, x439001, x441000, x441001 => if x17 = true then (some (x441000, x441001, 0)) else (if x439000 = 0 then (vinculumref02_Pow.j1 k x1 (decide (x1 < 0)) x439000 x439001 x441000 x441001) else (vinculumref02_Pow.j1 k x1 false x439000 x439001 x441000 x441001))
def vinculumref02_Pow.j1 : Nat → Int → Bool → Int → Int → Int → Int → Option (Int × Int × Int)
 | 0, _, _, _, _, _, _ => none
 | k + 1, x1, x26, x439000, x439001, x441000, x441001 => if x26 = true then (some (0, 0, 10)) else (if x439000 = 0 then (some (x439000, x439001, 0)) else (if (x439000 == (-1) && (x439001 == 1)) = true then (if (Int.tmod x1 2) = 0 then (some (x441000, x441001, 0)) else (some (x439000, x439001, 0))) else (if x1 < (-31) then (vinculumref02_Pow.j2 k x1 true x439000 x439001 x441000 x441001) else (vinculumref02_Pow.j2 k x1 (decide (x1 > 31)) x439000 x439001 x441000 x441001))))
def vinculumref02_Pow.j2 : Nat → Int → Bool → Int → Int → Int → Int → Option (Int × Int × Int)
 | 0, _, _, _, _, _, _ => none
 | k + 1, x1, x49, x439000, x439001, x441000, x441001 => if x49 = true then (some (0, 0, 2)) else (if x1 < 0 then ((vinculumref02_Make.f k x439001 x439000).bind fun bt442 => ((vinculumref02_Pow.f k bt442.1 bt442.2.1 (wrap64 (-x1))).bind fun bt445 => (some (bt445.1, bt445.2.1, bt445.2.2)))) else (vinculumref02_Pow.l0 k x1 0 x439000 x439001 x441000 x441001))
def vinculumref02_Pow.l0 : Nat → Int → Int → Int → Int → Int → Int → Option (Int × Int × Int)
 | 0, _, _, _, _, _, _ => none
 | k + 1, x1, x8, x439000, x439001, x449000, x449001 => if x8 < x1 then ((vinculumref02_Mul.f k x449000 x449001 x439000 x439001).bind fun bt449 => (if bt449.2.2 = 0 then (vinculumref02_Pow.l0 k x1 (wrap64 (x8 + 1)) x439000 x439001 bt449.1 bt449.2.1) else (some (0, 0, bt449.2.2)))) else (some (x449000, x449001, 0))
def vinculumref02_Pow.f : Nat → Int → Int → Int → Option (Int × Int × Int)
 | 0, _, _, _ => none
 | k + 1, a0_0, a0_1, a1 => (vinculumref02_Valid.f k a0_0 a0_1).bind fun t441 => (if t441 = true then (if a1 = 0 then (vinculumref02_Pow.j0 k a1 true a0_0 a0_1 1 1) else (vinculumref02_Pow.j0 k a1 (a0_0 == 1 && (a0_1 == 1)) a0_0 a0_1 1 1)) else (some (0, 0, 1)))
end
theorem vinculumref02_Pow.mono_l : ∀ k, (∀ y0 y1 y2, LeO (vinculumref02_Pow.f k y0 y1 y2) (vinculumref02_Pow.f (k + 1) y0 y1 y2)) ∧ (∀ y0 y1 y2 y3 y4 y5, LeO (vinculumref02_Pow.j0 k y0 y1 y2 y3 y4 y5) (vinculumref02_Pow.j0 (k + 1) y0 y1 y2 y3 y4 y5)) ∧ (∀ y0 y1 y2 y3 y4 y5, LeO (vinculumref02_Pow.j1 k y0 y1 y2 y3 y4 y5) (vinculumref02_Pow.j1 (k + 1) y0 y1 y2 y3 y4 y5)) ∧ (∀ y0 y1 y2 y3 y4 y5, LeO (vinculumref02_Pow.j2 k y0 y1 y2 y3 y4 y5) (vinculumref02_Pow.j2 (k + 1) y0 y1 y2 y3 y4 y5)) ∧ (∀ y0 y1 y2 y3 y4 y5, LeO (vinculumref02_Pow.l0 k y0 y1 y2 y3 y4 y5) (vinculumref02_Pow.l0 (k + 1) y0 y1 y2 y3 y4 y5))
 | 0 => ⟨fun _ _ _ r h => by simp [vinculumref02_Pow.f] at h, fun _ _ _ _ _ _ r h => by simp [vinculumref02_Pow.j0] at h, fun _ _ _ _ _ _ r h => by simp [vinculumref02_Pow.j1] at h, fun _ _ _ _ _ _ r h => by simp [vinculumref02_Pow.j2] at h, fun _ _ _ _ _ _ r h => by simp [vinculumref02_Pow.l0] at h⟩
 | k + 1 => by
  obtain ⟨ih0, ih1, ih2, ih3, ih4⟩ := vinculumref02_Pow.mono_l k
  refine ⟨?_, ?_, ?_, ?_, ?_⟩
  ·intro y0 y1 y2
   unfold vinculumref02_Pow.f
   repeat' first
   | (with_reducible exact ih0 _ _ _)
   | (with_reducible exact ih1 _ _ _ _ _ _)
   | (with_reducible exact ih2 _ _ _ _ _ _)
   | (with_reducible exact ih3 _ _ _ _ _ _)
   | (with_reducible exact ih4 _ _ _ _ _ _)
   | (with_reducible exact vinculumref02_Make.mono _ _ _)
   | (with_reducible exact vinculumref02_Mul.mono _ _ _ _ _)
   | (with_reducible exact vinculumref02_Valid.mono _ _ _)
   | (with_reducible exact LeO.refl _)
   | (with_reducible exact LeO.none _)
   | (with_reducible refine LeO.ite ?_ ?_)
   | (with_reducible refine LeO.bind ?_ (fun _ => ?_))
   | exact ih0 _ _ _
   | exact ih1 _ _ _ _ _ _
   | exact ih2 _ _ _ _ _ _
   | exact ih3 _ _ _ _ _ _
   | exact ih4 _ _ _ _ _ _
   | exact vinculumref02_Make.mono _ _ _
   | exact vinculumref02_Mul.mono _ _ _ _ _
   | exact vinculumref02_Valid.mono _ _ _
   | exact LeO.none _
   | refine LeO.ite ?_ ?_
   | refine LeO.bind ?_ (fun _ => ?_)
  ·intro y0 y1 y2 y3 y4 y5
   unfold vinculumref02_Pow.j0
   repeat' first
   | (with_reducible exact ih0 _ _ _)
   | (with_reducible exact ih1 _ _ _ _ _ _)
   | (with_reducible exact ih2 _ _ _ _ _ _)
   | (with_reducible exact ih3 _ _ _ _ _ _)
   | (with_reducible exact ih4 _ _ _ _ _ _)
   | (with_reducible exact vinculumref02_Make.mono _ _ _)
   | (with_reducible exact vinculumref02_Mul.mono _ _ _ _ _)
   | (with_reducible exact vinculumref02_Valid.mono _ _ _)
   | (with_reducible exact LeO.refl _)
   | (with_reducible exact LeO.none _)
   | (with_reducible refine LeO.ite ?_ ?_)
   | (with_reducible refine LeO.bind ?_ (fun _ => ?_))
   | exact ih0 _ _ _
   | exact ih1 _ _ _ _ _ _
   | exact ih2 _ _ _ _ _ _
   | exact ih3 _ _ _ _ _ _
   | exact ih4 _ _ _ _ _ _
   | exact vinculumref02_Make.mono _ _ _
   | exact vinculumref02_Mul.mono _ _ _ _ _
   | exact vinculumref02_Valid.mono _ _ _
   | exact LeO.none _
   | refine LeO.ite ?_ ?_
   | refine LeO.bind ?_ (fun _ => ?_)
  ·intro y0 y1 y2 y3 y4 y5
   unfold vinculumref02_Pow.j1
   repeat' first
   | (with_reducible exact ih0 _ _ _)
   | (with_reducible exact ih1 _ _ _ _ _ _)
   | (with_reducible exact ih2 _ _ _ _ _ _)
   | (with_reducible exact ih3 _ _ _ _ _ _)
   | (with_reducible exact ih4 _ _ _ _ _ _)
   | (with_reducible exact vinculumref02_Make.mono _ _ _)
   | (with_reducible exact vinculumref02_Mul.mono _ _ _ _ _)
   | (with_reducible exact vinculumref02_Valid.mono _ _ _)
   | (with_reducible exact LeO.refl _)
   | (with_reducible exact LeO.none _)
   | (with_reducible refine LeO.ite ?_ ?_)
   | (with_reducible refine LeO.bind ?_ (fun _ => ?_))
   | exact ih0 _ _ _
   | exact ih1 _ _ _ _ _ _
   | exact ih2 _ _ _ _ _ _
   | exact ih3 _ _ _ _ _ _
   | exact ih4 _ _ _ _ _ _
   | exact vinculumref02_Make.mono _ _ _
   | exact vinculumref02_Mul.mono _ _ _ _ _
   | exact vinculumref02_Valid.mono _ _ _
   | exact LeO.none _
   | refine LeO.ite ?_ ?_
   | refine LeO.bind ?_ (fun _ => ?_)
  ·intro y0 y1 y2 y3 y4 y5
   unfold vinculumref02_Pow.j2
   repeat' first
   | (with_reducible exact ih0 _ _ _)
   | (with_reducible exact ih1 _ _ _ _ _ _)
   | (with_reducible exact ih2 _ _ _ _ _ _)
   | (with_reducible exact ih3 _ _ _ _ _ _)
   | (with_reducible exact ih4 _ _ _ _ _ _)
   | (with_reducible exact vinculumref02_Make.mono _ _ _)
   | (with_reducible exact vinculumref02_Mul.mono _ _ _ _ _)
   | (with_reducible exact vinculumref02_Valid.mono _ _ _)
   | (with_reducible exact LeO.refl _)
   | (with_reducible exact LeO.none _)
   | (with_reducible refine LeO.ite ?_ ?_)
   | (with_reducible refine LeO.bind ?_ (fun _ => ?_))
   | exact ih0 _ _ _
   | exact ih1 _ _ _ _ _ _
   | exact ih2 _ _ _ _ _ _
   | exact ih3 _ _ _ _ _ _
   | exact ih4 _ _ _ _ _ _
   | exact vinculumref02_Make.mono _ _ _
   | exact vinculumref02_Mul.mono _ _ _ _ _
   | exact vinculumref02_Valid.mono _ _ _
   | exact LeO.none _
   | refine LeO.ite ?_ ?_
   | refine LeO.bind ?_ (fun _ => ?_)
  ·intro y0 y1 y2 y3 y4 y5
   unfold vinculumref02_Pow.l0
   repeat' first
   | (with_reducible exact ih0 _ _ _)
   | (with_reducible exact ih1 _ _ _ _ _ _)
   | (with_reducible exact ih2 _ _ _ _ _ _)
   | (with_reducible exact ih3 _ _ _ _ _ _)
   | (with_reducible exact ih4 _ _ _ _ _ _)
   | (with_reducible exact vinculumref02_Make.mono _ _ _)
   | (with_reducible exact vinculumref02_Mul.mono _ _ _ _ _)
   | (with_reducible exact vinculumref02_Valid.mono _ _ _)
   | (with_reducible exact LeO.refl _)
   | (with_reducible exact LeO.none _)
   | (with_reducible refine LeO.ite ?_ ?_)
   | (with_reducible refine LeO.bind ?_ (fun _ => ?_))
   | exact ih0 _ _ _
   | exact ih1 _ _ _ _ _ _
   | exact ih2 _ _ _ _ _ _
   | exact ih3 _ _ _ _ _ _
   | exact ih4 _ _ _ _ _ _
   | exact vinculumref02_Make.mono _ _ _
   | exact vinculumref02_Mul.mono _ _ _ _ _
   | exact vinculumref02_Valid.mono _ _ _
   | exact LeO.none _
   | refine LeO.ite ?_ ?_
   | refine LeO.bind ?_ (fun _ => ?_)
theorem vinculumref02_Pow.mono : ∀ a0 a1 a2 k, LeO (vinculumref02_Pow.f k a0 a1 a2) (vinculumref02_Pow.f (k + 1) a0 a1 a2) := by
 intro a0 a1 a2 k
 obtain ⟨ih0, ih1, ih2, ih3, ih4⟩ := vinculumref02_Pow.mono_l k
 exact ih0 a0 a1 a2
set_option maxHeartbeats 8000000 in
set_option maxRecDepth 100000 in
theorem vinculumref02_Pow.calls (k : Nat) : ∀ (a0_0 : Int) (a0_1 : Int) (a1 : Int) (r1 : Int) (r2 : Int) (r3 : Int) (w : World) (h : vinculumref02_Pow.f k a0_0 a0_1 a1 = some (r1, r2, r3)),
  Calls Tryd.prog 38 #[.agg #[.int .i64 a0_0, .int .i64 a0_1], .int .i64 a1] w fun e w' => e = .returned (.tuple #[.agg #[.int .i64 r1, .int .i64 r2], .int .i64 r3]) ∧ Below w.heap.size w w' := by
 induction k using Nat.strongRecOn with
 | _ k ih =>
 intro a0_0 a0_1 a1 r1 r2 r3 w h
 cases k with
 | zero => exact absurd h (by simp [vinculumref02_Pow.f])
 | succ k =>
 simp only [vinculumref02_Pow.f] at h
 have hu28 := Tryd.underlying28
 have HB := zaa.mk (Below.refl w.heap.size w)
 have H : ((vinculumref02_Valid.f k a0_0 a0_1).bind fun t441 => (if t441 = true then (if a1 = 0 then (vinculumref02_Pow.j0 k a1 true a0_0 a0_1 1 1) else (vinculumref02_Pow.j0 k a1 (a0_0 == 1 && (a0_1 == 1)) a0_0 a0_1 1 1)) else (some (0, 0, 1)))) = some (r1, r2, r3) := h
 clear h
 replace H := Option.bind_eq_some_iff.mp H
 obtain ⟨t441, A30, H⟩ := H
 replace H : (if t441 = true then (if a1 = 0 then (vinculumref02_Pow.j0 k a1 true a0_0 a0_1 1 1) else (vinculumref02_Pow.j0 k a1 (a0_0 == 1 && (a0_1 == 1)) a0_0 a0_1 1 1)) else (some (0, 0, 1))) = some (r1, r2, r3) := H
 have A3 := zaa.mk A30
 clear A30
 by_cases c4 : t441 = true
 ·subst c4
  have H1 : (if a1 = 0 then (vinculumref02_Pow.j0 k a1 true a0_0 a0_1 1 1) else (vinculumref02_Pow.j0 k a1 (a0_0 == 1 && (a0_1 == 1)) a0_0 a0_1 1 1)) = some (r1, r2, r3) := by rw [if_pos rfl] at H; exact H
  clear H
  have H := H1
  clear H1
  have HC5 := zaa.mk H
  clear H
  go_enter Tryd.func38, Tryd.ntmps38
  go_upto_region 4 with (first | ((with_reducible refine zaq (N := 2) rfl ?_); refine zar ?hg (N := 2) ?hd (cs := #[.int .i64 a0_0, .int .i64 a0_1]) (t := 28) ?hr ?_; (case hd => rfl); (case hg => rfl); (case hr => first | (go_simp; done) | (go_simp; rfl)); intro gb438 hg w6 hbox hb; have n0_ := zaa.mk (zao (by repeat (first | (with_reducible first | exact HB.o | apply zaf | apply zah | apply zag) | exact HB.o)) hb); have n1_ := zaa.mk (hbox); have n2_ := zaa.mk ((by rw [hg]; exact (zan (by repeat (first | (with_reducible first | exact HB.o | apply zaf | apply zah | apply zag) | exact HB.o))) : w.heap.size ≤ gb438)); have n3_ := zaa.mk ((by rw [hg]; exact (zan (by repeat (first | (with_reducible first | exact HB.o | apply zaf | apply zah | apply zag) | exact HB.o))) : w.heap.size ≤ gb438)); clear HB; have HB := n0_; have BK438 := n1_; have GW438 := n2_; have GE438 := n3_; clear n0_ n1_ n2_ n3_; clear hb hbox hg) | ((with_reducible refine zaq (N := 4) rfl ?_); refine zar ?hg (N := 4) ?hd (cs := #[.int .i64 0, .int .i64 0]) (t := 28) ?hr ?_; (case hd => rfl); (case hg => rfl); (case hr => first | (go_simp; done) | (go_simp; rfl)); intro gb439 hg w7 hbox hb; have n0_ := zaa.mk (zai (by (with_reducible repeat (first | refine zad ?_ _ | refine zab ?_ | refine zac ?_ _)); exact BK438.o) hb); have n1_ := zaa.mk (zao (by repeat (first | (with_reducible first | exact HB.o | apply zaf | apply zah | apply zag | refine zae ?_ GE438.o) | exact HB.o)) hb); have n2_ := zaa.mk (hbox); have n3_ := zaa.mk ((by rw [hg]; exact (zan (by repeat (first | (with_reducible first | exact HB.o | apply zaf | apply zah | apply zag | refine zae ?_ GE438.o) | exact HB.o))) : w.heap.size ≤ gb439)); have n4_ := zaa.mk ((by rw [hg]; exact (zan (by repeat (first | (with_reducible first | exact HB.o | apply zaf | apply zah | apply zag | refine zae ?_ GE438.o) | exact HB.o))) : w.heap.size ≤ gb439)); have n5_ := zaa.mk ((by rw [hg]; exact Nat.ne_of_lt (zak (g := gb438) (o := .cells #[.int .i64 a0_0, .int .i64 a0_1] 28 (0, 0)) (by (with_reducible repeat (first | refine zad ?_ _ | refine zab ?_ | refine zac ?_ _)); exact BK438.o)) : gb438 ≠ gb439)); have n6_ := zaa.mk ((by rw [hg]; exact Nat.ne_of_gt (zak (g := gb438) (o := .cells #[.int .i64 a0_0, .int .i64 a0_1] 28 (0, 0)) (by (with_reducible repeat (first | refine zad ?_ _ | refine zab ?_ | refine zac ?_ _)); exact BK438.o)) : gb439 ≠ gb438)); clear BK438; clear HB; have BK438 := n0_; have HB := n1_; have BK439 := n2_; have GW439 := n3_; have GE439 := n4_; have NB438_439 := n5_; have NB439_438 := n6_; clear n0_ n1_ n2_ n3_ n4_ n5_ n6_; clear hb hbox hg) | ((with_reducible refine zaq (N := 6) rfl ?_); refine zar ?hg (N := 6) ?hd (cs := #[.int .i64 0, .int .i64 0]) (t := 28) ?hr ?_; (case hd => rfl); (case hg => rfl); (case hr => first | (go_simp; done) | (go_simp; rfl)); intro gb440 hg w8 hbox hb; have n0_ := zaa.mk (zai (by (with_reducible repeat (first | refine zad ?_ _ | refine zab ?_ | refine zac ?_ _)); exact BK438.o) hb); have n1_ := zaa.mk (zai (by (with_reducible repeat (first | refine zad ?_ _ | refine zab ?_ | refine zac ?_ _)); exact BK439.o) hb); have n2_ := zaa.mk (zao (by repeat (first | (with_reducible first | exact HB.o | apply zaf | apply zah | apply zag | refine zae ?_ GE438.o | refine zae ?_ GE439.o) | exact HB.o)) hb); have n3_ := zaa.mk (hbox); have n4_ := zaa.mk ((by rw [hg]; exact (zan (by repeat (first | (with_reducible first | exact HB.o | apply zaf | apply zah | apply zag | refine zae ?_ GE438.o | refine zae ?_ GE439.o) | exact HB.o))) : w.heap.size ≤ gb440)); have n5_ := zaa.mk ((by rw [hg]; exact (zan (by repeat (first | (with_reducible first | exact HB.o | apply zaf | apply zah | apply zag | refine zae ?_ GE438.o | refine zae ?_ GE439.o) | exact HB.o))) : w.heap.size ≤ gb440)); have n6_ := zaa.mk ((by rw [hg]; exact Nat.ne_of_lt (zak (g := gb438) (o := .cells #[.int .i64 a0_0, .int .i64 a0_1] 28 (0, 0)) (by (with_reducible repeat (first | refine zad ?_ _ | refine zab ?_ | refine zac ?_ _)); exact BK438.o)) : gb438 ≠ gb440)); have n7_ := zaa.mk ((by rw [hg]; exact Nat.ne_of_gt (zak (g := gb438) (o := .cells #[.int .i64 a0_0, .int .i64 a0_1] 28 (0, 0)) (by (with_reducible repeat (first | refine zad ?_ _ | refine zab ?_ | refine zac ?_ _)); exact BK438.o)) : gb440 ≠ gb438)); have n8_ := zaa.mk ((by rw [hg]; exact Nat.ne_of_lt (zak (g := gb439) (o := .cells #[.int .i64 0, .int .i64 0] 28 (0, 0)) (by (with_reducible repeat (first | refine zad ?_ _ | refine zab ?_ | refine zac ?_ _)); exact BK439.o)) : gb439 ≠ gb440)); have n9_ := zaa.mk ((by rw [hg]; exact Nat.ne_of_gt (zak (g := gb439) (o := .cells #[.int .i64 0, .int .i64 0] 28 (0, 0)) (by (with_reducible repeat (first | refine zad ?_ _ | refine zab ?_ | refine zac ?_ _)); exact BK439.o)) : gb440 ≠ gb439)); clear BK438; clear BK439; clear HB; have BK438 := n0_; have BK439 := n1_; have HB := n2_; have BK440 := n3_; have GW440 := n4_; have GE440 := n5_; have NB438_440 := n6_; have NB440_438 := n7_; have NB439_440 := n8_; have NB440_439 := n9_; clear n0_ n1_ n2_ n3_ n4_ n5_ n6_ n7_ n8_ n9_; clear hb hbox hg; have hnb9 := NB440_438.o; have hnc9 := NB438_440.o; have hnb10 := NB440_439.o; have hnc10 := NB439_440.o; obtain ⟨hcz11_0, hcz11_1⟩ := cz2 BK440.o; obtain ⟨hfz11_0, hfz11_1⟩ := fz2 BK440.o; have hnb12 := NB438_439.o; have hnc12 := NB439_438.o; obtain ⟨hcz13_0, hcz13_1⟩ := cz2 BK438.o; obtain ⟨hfz13_0, hfz13_1⟩ := fz2 BK438.o) | ((with_reducible refine zas (f := 19) rfl ?_); refine zat (some 14) rfl rfl Tryd.func19 (by kernel_rfl) rfl #[.agg #[.int .i64 a0_0, .int .i64 a0_1]] rfl (by (try simp only [List.map_toArray, List.map_cons, List.map_nil]); first | done | rfl | (simp only [List.length_drop, List.length_take]; rfl)) ?_; (with_reducible refine (vinculumref02_Valid.calls k a0_0 a0_1 true _ A3.o).mono ?_); rintro e w14 ⟨rfl, hb⟩; refine ⟨_, rfl, ?_⟩; have n0_ := zaa.mk (zai (g := gb438) (o := .cells #[.int .i64 a0_0, .int .i64 a0_1] 28 (0, 0)) (by (with_reducible repeat (first | refine zad ?_ _ | refine zab ?_ | refine zac ?_ _)); refine zam ?_ NB438_440.o _; (with_reducible repeat (first | refine zad ?_ _ | refine zab ?_ | refine zac ?_ _)); refine zam ?_ NB438_440.o _; (with_reducible repeat (first | refine zad ?_ _ | refine zab ?_ | refine zac ?_ _)); exact BK438.o) hb); have n1_ := zaa.mk (zai (g := gb439) (o := .cells #[.int .i64 0, .int .i64 0] 28 (0, 0)) (by (with_reducible repeat (first | refine zad ?_ _ | refine zab ?_ | refine zac ?_ _)); refine zam ?_ NB439_440.o _; (with_reducible repeat (first | refine zad ?_ _ | refine zab ?_ | refine zac ?_ _)); refine zam ?_ NB439_440.o _; (with_reducible repeat (first | refine zad ?_ _ | refine zab ?_ | refine zac ?_ _)); exact BK439.o) hb); have n2_ := zaa.mk (zai (g := gb440) (o := .cells #[.int .i64 1, .int .i64 1] 28 (0, 0)) (by (with_reducible repeat (first | refine zad ?_ _ | refine zab ?_ | refine zac ?_ _)); refine zap (cs := #[.int .i64 1, .int .i64 0]) ?_ 1 _ rfl; (with_reducible repeat (first | refine zad ?_ _ | refine zab ?_ | refine zac ?_ _)); refine zap (cs := #[.int .i64 0, .int .i64 0]) ?_ 0 _ rfl; (with_reducible repeat (first | refine zad ?_ _ | refine zab ?_ | refine zac ?_ _)); exact BK440.o) hb); have n3_ := zaa.mk (zao (by repeat (first | (with_reducible first | exact HB.o | apply zaf | apply zah | apply zag | refine zae ?_ GE438.o | refine zae ?_ GE439.o | refine zae ?_ GE440.o) | exact HB.o)) hb); clear BK438; clear BK439; clear BK440; clear HB; have BK438 := n0_; have BK439 := n1_; have BK440 := n2_; have HB := n3_; clear n0_ n1_ n2_ n3_; (try clear hb); (try clear hb2); (try clear hk); (try clear hi)))
  (try simp only [Act.put, List.setIfInBounds_toArray, List.set_cons_zero, List.set_cons_succ])
  go_cut [17] (fun v17 wc => ∃ (kq : Nat) (x17_4 : Bool), v17 = .bool x17_4 ∧ zaa (vinculumref02_Pow.j0 kq a1 x17_4 a0_0 a0_1 1 1 = some (r1, r2, r3)) ∧ zaa (kq ≤ k) ∧ zaa (wc.heap[gb438]? = some (.cells #[.int .i64 a0_0, .int .i64 a0_1] 28 (0, 0))) ∧ zaa (wc.heap[gb439]? = some (.cells #[.int .i64 0, .int .i64 0] 28 (0, 0))) ∧ zaa (wc.heap[gb440]? = some (.cells #[.int .i64 1, .int .i64 1] 28 (0, 0))) ∧ zaa (Below w.heap.size w wc))
  case first =>
   have H := HC5.out
   clear HC5
   by_cases c15 : a1 = 0
   ·rw [if_pos c15] at H
    have c15b0 : (a1 == 0) = true := beq_iff_eq.mpr c15
    have c15b1 : (a1 != 0) = false := bne_eq_false_iff_eq.mpr c15
    clear c15
    (first | rw [c15b0] | (simp only [i64_w, i32_w]; rw [c15b0]) | skip)
    have H' := zaa.mk H
    clear H
    go_wp2
    go_meet
    case rel => exact ⟨_, (true), (by first | rfl | (simp; done) | (simp [*]; done)), H', ⟨by first | omega | exact Nat.le_refl _⟩, ⟨by (with_reducible repeat (first | refine zad ?_ _ | refine zab ?_ | refine zac ?_ _)); exact BK438.o⟩, ⟨by (with_reducible repeat (first | refine zad ?_ _ | refine zab ?_ | refine zac ?_ _)); exact BK439.o⟩, ⟨by (with_reducible repeat (first | refine zad ?_ _ | refine zab ?_ | refine zac ?_ _)); exact BK440.o⟩, ⟨by repeat (first | (with_reducible first | exact HB.o | apply zaf | apply zah | apply zag | refine zae ?_ GE438.o | refine zae ?_ GE439.o | refine zae ?_ GE440.o) | exact HB.o)⟩⟩
   ·rw [if_neg c15] at H
    have c15b0 : (a1 == 0) = false := beq_eq_false_iff_ne.mpr c15
    have c15b1 : (a1 != 0) = true := bne_iff_ne.mpr c15
    (first | rw [c15b0] | (simp only [i64_w, i32_w]; rw [c15b0]) | skip)
    have H' := zaa.mk H
    clear H
    have hnb16 := NB438_439.o
    have hnc16 := NB439_438.o
    have hnb17 := NB438_440.o
    have hnc17 := NB440_438.o
    have hcz18_0 : w14.cell? ⟨gb438, 0, none⟩ = some (.int .i64 a0_0) := (zaj BK438.o 0).trans rfl
    have hcz18_1 : w14.cell? ⟨gb438, 1, none⟩ = some (.int .i64 a0_1) := (zaj BK438.o 1).trans rfl
    have hfz18_0 := zal BK438.o 0
    have hfz18_1 := zal BK438.o 1
    have hnb19 := NB440_439.o
    have hnc19 := NB439_440.o
    have hcz20_0 : w14.cell? ⟨gb440, 0, none⟩ = some (.int .i64 1) := (zaj BK440.o 0).trans rfl
    have hcz20_1 : w14.cell? ⟨gb440, 1, none⟩ = some (.int .i64 1) := (zaj BK440.o 1).trans rfl
    have hfz20_0 := zal BK440.o 0
    have hfz20_1 := zal BK440.o 1
    go_wp2
    go_meet
    case rel => exact ⟨_, ((a0_0 == 1 && (a0_1 == 1))), (by first | rfl | (simp; done) | (simp [*]; done)), H', ⟨by first | omega | exact Nat.le_refl _⟩, ⟨by (with_reducible repeat (first | refine zad ?_ _ | refine zab ?_ | refine zac ?_ _)); exact BK438.o⟩, ⟨by (with_reducible repeat (first | refine zad ?_ _ | refine zab ?_ | refine zac ?_ _)); exact BK439.o⟩, ⟨by (with_reducible repeat (first | refine zad ?_ _ | refine zab ?_ | refine zac ?_ _)); exact BK440.o⟩, ⟨by repeat (first | (with_reducible first | exact HB.o | apply zaf | apply zah | apply zag | refine zae ?_ GE438.o | refine zae ?_ GE439.o | refine zae ?_ GE440.o) | exact HB.o)⟩⟩
  case rest =>
   clear HC5
   try clear c1
   try clear p2
   try clear c3
   try clear c4
   try clear c9
   try clear c10
   try clear c12
   try clear c15
   try clear c15b0
   try clear c15b1
   try clear c16
   try clear c17
   try clear c19
   try clear hcz11_0
   try clear hcz11_1
   try clear hcz13_0
   try clear hcz13_1
   try clear hcz18_0
   try clear hcz18_1
   try clear hcz20_0
   try clear hcz20_1
   try clear hfz11_0
   try clear hfz11_1
   try clear hfz13_0
   try clear hfz13_1
   try clear hfz18_0
   try clear hfz18_1
   try clear hfz20_0
   try clear hfz20_1
   obtain ⟨kq, x17_4, rfl, HA, HJ4, BK438, BK439, BK440, HB⟩ := hcut
   cases kq with
   | zero => exact absurd HA.o (by simp [vinculumref02_Pow.j0])
   | succ kj4 =>
    have H := HA.o
    clear HA
    simp only [vinculumref02_Pow.j0] at H
    by_cases c21 : x17_4 = true
    ·subst c21
     have H1 : (some (1, 1, 0)) = some (r1, r2, r3) := by rw [if_pos rfl] at H; exact H
     clear H
     have H := H1
     clear H1
     simp only [Option.some.injEq, Prod.mk.injEq] at H
     obtain ⟨rfl, rfl, rfl⟩ := H
     have hnb22 := NB440_438.o
     have hnc22 := NB438_440.o
     have hnb23 := NB440_439.o
     have hnc23 := NB439_440.o
     have hcz24_0 : wc.cell? ⟨gb440, 0, none⟩ = some (.int .i64 1) := (zaj BK440.o 0).trans rfl
     have hcz24_1 : wc.cell? ⟨gb440, 1, none⟩ = some (.int .i64 1) := (zaj BK440.o 1).trans rfl
     have hfz24_0 := zal BK440.o 0
     have hfz24_1 := zal BK440.o 1
     have hnb25 := NB439_438.o
     have hnc25 := NB438_439.o
     have hcz26_0 : wc.cell? ⟨gb439, 0, none⟩ = some (.int .i64 0) := (zaj BK439.o 0).trans rfl
     have hcz26_1 : wc.cell? ⟨gb439, 1, none⟩ = some (.int .i64 0) := (zaj BK439.o 1).trans rfl
     have hfz26_0 := zal BK439.o 0
     have hfz26_1 := zal BK439.o 1
     go_wp2
     refine bodyPost_ret (zaw rfl _ _ gb439 28 #[.int .i64 1, .int .i64 1] (0, 0) _ rfl (by (with_reducible repeat (first | refine zad ?_ _ | refine zab ?_ | refine zac ?_ _)); refine zap (cs := #[.int .i64 1, .int .i64 0]) ?_ 1 _ rfl; (with_reducible repeat (first | refine zad ?_ _ | refine zab ?_ | refine zac ?_ _)); refine zap (cs := #[.int .i64 0, .int .i64 0]) ?_ 0 _ rfl; (with_reducible repeat (first | refine zad ?_ _ | refine zab ?_ | refine zac ?_ _)); exact BK439.o) Tryd.underlying28 rfl (by kernel_rfl)) rfl ?_
     exact ⟨by first | rfl | (simp [errW_none, errW_some] <;> rfl) | (simp [*, errW_none, errW_some] <;> rfl), by repeat (first | (with_reducible first | exact HB.o | apply zaf | apply zah | apply zag | refine zae ?_ GE438.o | refine zae ?_ GE439.o | refine zae ?_ GE440.o) | exact HB.o)⟩
    ·replace c21 := Bool.eq_false_iff.mpr c21
     subst c21
     have H1 : (if a0_0 = 0 then (vinculumref02_Pow.j1 kj4 a1 (decide (a1 < 0)) a0_0 a0_1 1 1) else (vinculumref02_Pow.j1 kj4 a1 false a0_0 a0_1 1 1)) = some (r1, r2, r3) := by rw [if_neg (show ¬ (false = true) by decide)] at H; exact H
     clear H
     have H := H1
     clear H1
     have HC27 := zaa.mk H
     clear H
     go_upto_region 6 with (fail)
     go_cut [26] (fun v26 wc => ∃ (kq : Nat) (x26_26 : Bool), v26 = .bool x26_26 ∧ zaa (vinculumref02_Pow.j1 kq a1 x26_26 a0_0 a0_1 1 1 = some (r1, r2, r3)) ∧ zaa (kq ≤ kj4) ∧ zaa (wc.heap[gb438]? = some (.cells #[.int .i64 a0_0, .int .i64 a0_1] 28 (0, 0))) ∧ zaa (wc.heap[gb439]? = some (.cells #[.int .i64 0, .int .i64 0] 28 (0, 0))) ∧ zaa (wc.heap[gb440]? = some (.cells #[.int .i64 1, .int .i64 1] 28 (0, 0))) ∧ zaa (Below w.heap.size w wc))
     case first =>
      have H := HC27.out
      clear HC27
      by_cases c28 : a0_0 = 0
      ·rw [if_pos c28] at H
       have c28b0 : (a0_0 == 0) = true := beq_iff_eq.mpr c28
       have c28b1 : (a0_0 != 0) = false := bne_eq_false_iff_eq.mpr c28
       clear c28
       (first | rw [c28b0] | (simp only [i64_w, i32_w]; rw [c28b0]) | skip)
       have H' := zaa.mk H
       clear H
       have hnb29 := NB438_439.o
       have hnc29 := NB439_438.o
       have hnb30 := NB438_440.o
       have hnc30 := NB440_438.o
       have hcz31_0 : wc.cell? ⟨gb438, 0, none⟩ = some (.int .i64 a0_0) := (zaj BK438.o 0).trans rfl
       have hcz31_1 : wc.cell? ⟨gb438, 1, none⟩ = some (.int .i64 a0_1) := (zaj BK438.o 1).trans rfl
       have hfz31_0 := zal BK438.o 0
       have hfz31_1 := zal BK438.o 1
       go_wp2
       go_meet
       case rel => exact ⟨_, (decide (a1 < 0)), (by first | rfl | (simp; done) | (simp [*]; done)), H', ⟨by have := HJ4.out; first | omega | exact Nat.le_refl _⟩, ⟨by (with_reducible repeat (first | refine zad ?_ _ | refine zab ?_ | refine zac ?_ _)); exact BK438.o⟩, ⟨by (with_reducible repeat (first | refine zad ?_ _ | refine zab ?_ | refine zac ?_ _)); exact BK439.o⟩, ⟨by (with_reducible repeat (first | refine zad ?_ _ | refine zab ?_ | refine zac ?_ _)); exact BK440.o⟩, ⟨by repeat (first | (with_reducible first | exact HB.o | apply zaf | apply zah | apply zag | refine zae ?_ GE438.o | refine zae ?_ GE439.o | refine zae ?_ GE440.o) | exact HB.o)⟩⟩
      ·rw [if_neg c28] at H
       have c28b0 : (a0_0 == 0) = false := beq_eq_false_iff_ne.mpr c28
       have c28b1 : (a0_0 != 0) = true := bne_iff_ne.mpr c28
       (first | rw [c28b0] | (simp only [i64_w, i32_w]; rw [c28b0]) | skip)
       have H' := zaa.mk H
       clear H
       have hnb32 := NB438_439.o
       have hnc32 := NB439_438.o
       have hnb33 := NB438_440.o
       have hnc33 := NB440_438.o
       have hcz34_0 : wc.cell? ⟨gb438, 0, none⟩ = some (.int .i64 a0_0) := (zaj BK438.o 0).trans rfl
       have hcz34_1 : wc.cell? ⟨gb438, 1, none⟩ = some (.int .i64 a0_1) := (zaj BK438.o 1).trans rfl
       have hfz34_0 := zal BK438.o 0
       have hfz34_1 := zal BK438.o 1
       go_wp2
       go_meet
       case rel => exact ⟨_, (false), (by first | rfl | (simp; done) | (simp [*]; done)), H', ⟨by have := HJ4.out; first | omega | exact Nat.le_refl _⟩, ⟨by (with_reducible repeat (first | refine zad ?_ _ | refine zab ?_ | refine zac ?_ _)); exact BK438.o⟩, ⟨by (with_reducible repeat (first | refine zad ?_ _ | refine zab ?_ | refine zac ?_ _)); exact BK439.o⟩, ⟨by (with_reducible repeat (first | refine zad ?_ _ | refine zab ?_ | refine zac ?_ _)); exact BK440.o⟩, ⟨by repeat (first | (with_reducible first | exact HB.o | apply zaf | apply zah | apply zag | refine zae ?_ GE438.o | refine zae ?_ GE439.o | refine zae ?_ GE440.o) | exact HB.o)⟩⟩
     case rest =>
      clear HC27
      try clear c1
      try clear c2
      try clear p2
      try clear c3
      try clear c4
      try clear c9
      try clear c10
      try clear c12
      try clear c15
      try clear c15b0
      try clear c15b1
      try clear c16
      try clear c17
      try clear c19
      try clear c21
      try clear c22
      try clear c23
      try clear c25
      try clear c28
      try clear c28b0
      try clear c28b1
      try clear c29
      try clear c30
      try clear c32
      try clear c33
      try clear hcz11_0
      try clear hcz11_1
      try clear hcz13_0
      try clear hcz13_1
      try clear hcz18_0
      try clear hcz18_1
      try clear hcz20_0
      try clear hcz20_1
      try clear hcz24_0
      try clear hcz24_1
      try clear hcz26_0
      try clear hcz26_1
      try clear hcz31_0
      try clear hcz31_1
      try clear hcz34_0
      try clear hcz34_1
      try clear hfz11_0
      try clear hfz11_1
      try clear hfz13_0
      try clear hfz13_1
      try clear hfz18_0
      try clear hfz18_1
      try clear hfz20_0
      try clear hfz20_1
      try clear hfz24_0
      try clear hfz24_1
      try clear hfz26_0
      try clear hfz26_1
      try clear hfz31_0
      try clear hfz31_1
      try clear hfz34_0
      try clear hfz34_1
      try clear p2
      obtain ⟨kq, x26_26, rfl, HA, HJ26, BK438, BK439, BK440, HB⟩ := hcut
      cases kq with
      | zero => exact absurd HA.o (by simp [vinculumref02_Pow.j1])
      | succ kj26 =>
       have H := HA.o
       clear HA
       simp only [vinculumref02_Pow.j1] at H
       by_cases c35 : x26_26 = true
       ·subst c35
        have H1 : (some (0, 0, 10)) = some (r1, r2, r3) := by rw [if_pos rfl] at H; exact H
        clear H
        have H := H1
        clear H1
        simp only [Option.some.injEq, Prod.mk.injEq] at H
        obtain ⟨rfl, rfl, rfl⟩ := H
        have hnb36 := NB439_438.o
        have hnc36 := NB438_439.o
        have hnb37 := NB439_440.o
        have hnc37 := NB440_439.o
        have hcz38_0 : wc.cell? ⟨gb439, 0, none⟩ = some (.int .i64 0) := (zaj BK439.o 0).trans rfl
        have hcz38_1 : wc.cell? ⟨gb439, 1, none⟩ = some (.int .i64 0) := (zaj BK439.o 1).trans rfl
        have hfz38_0 := zal BK439.o 0
        have hfz38_1 := zal BK439.o 1
        go_wp2
        refine bodyPost_ret (zaw rfl _ _ gb439 28 #[.int .i64 0, .int .i64 0] (0, 0) _ rfl (by (with_reducible repeat (first | refine zad ?_ _ | refine zab ?_ | refine zac ?_ _)); refine zap (cs := #[.int .i64 0, .int .i64 0]) ?_ 1 _ rfl; (with_reducible repeat (first | refine zad ?_ _ | refine zab ?_ | refine zac ?_ _)); refine zap (cs := #[.int .i64 0, .int .i64 0]) ?_ 0 _ rfl; (with_reducible repeat (first | refine zad ?_ _ | refine zab ?_ | refine zac ?_ _)); exact BK439.o) Tryd.underlying28 rfl (by kernel_rfl)) rfl ?_
        exact ⟨by first | rfl | (simp [errW_none, errW_some] <;> rfl) | (simp [*, errW_none, errW_some] <;> rfl), by repeat (first | (with_reducible first | exact HB.o | apply zaf | apply zah | apply zag | refine zae ?_ GE438.o | refine zae ?_ GE439.o | refine zae ?_ GE440.o) | exact HB.o)⟩
       ·replace c35 := Bool.eq_false_iff.mpr c35
        subst c35
        have H1 : (if a0_0 = 0 then (some (a0_0, a0_1, 0)) else (if (a0_0 == (-1) && (a0_1 == 1)) = true then (if (Int.tmod a1 2) = 0 then (some (1, 1, 0)) else (some (a0_0, a0_1, 0))) else (if a1 < (-31) then (vinculumref02_Pow.j2 kj26 a1 true a0_0 a0_1 1 1) else (vinculumref02_Pow.j2 kj26 a1 (decide (a1 > 31)) a0_0 a0_1 1 1)))) = some (r1, r2, r3) := by rw [if_neg (show ¬ (false = true) by decide)] at H; exact H
        clear H
        have H := H1
        clear H1
        by_cases c39 : a0_0 = 0
        ·rw [if_pos c39] at H
         have c39b0 : (a0_0 == 0) = true := beq_iff_eq.mpr c39
         have c39b1 : (a0_0 != 0) = false := bne_eq_false_iff_eq.mpr c39
         clear c39
         simp only [Option.some.injEq, Prod.mk.injEq] at H
         obtain ⟨rfl, rfl, rfl⟩ := H
         have hnb40 := NB438_439.o
         have hnc40 := NB439_438.o
         have hnb41 := NB438_440.o
         have hnc41 := NB440_438.o
         have hcz42_0 : wc.cell? ⟨gb438, 0, none⟩ = some (.int .i64 a0_0) := (zaj BK438.o 0).trans rfl
         have hcz42_1 : wc.cell? ⟨gb438, 1, none⟩ = some (.int .i64 a0_1) := (zaj BK438.o 1).trans rfl
         have hfz42_0 := zal BK438.o 0
         have hfz42_1 := zal BK438.o 1
         have hnb43 := NB439_440.o
         have hnc43 := NB440_439.o
         have hcz44_0 : wc.cell? ⟨gb439, 0, none⟩ = some (.int .i64 0) := (zaj BK439.o 0).trans rfl
         have hcz44_1 : wc.cell? ⟨gb439, 1, none⟩ = some (.int .i64 0) := (zaj BK439.o 1).trans rfl
         have hfz44_0 := zal BK439.o 0
         have hfz44_1 := zal BK439.o 1
         go_wp2
         refine bodyPost_ret (zaw rfl _ _ gb439 28 #[.int .i64 a0_0, .int .i64 a0_1] (0, 0) _ rfl (by (with_reducible repeat (first | refine zad ?_ _ | refine zab ?_ | refine zac ?_ _)); refine zap (cs := #[.int .i64 a0_0, .int .i64 0]) ?_ 1 _ rfl; (with_reducible repeat (first | refine zad ?_ _ | refine zab ?_ | refine zac ?_ _)); refine zap (cs := #[.int .i64 0, .int .i64 0]) ?_ 0 _ rfl; (with_reducible repeat (first | refine zad ?_ _ | refine zab ?_ | refine zac ?_ _)); exact BK439.o) Tryd.underlying28 rfl (by kernel_rfl)) rfl ?_
         exact ⟨by first | rfl | (simp [errW_none, errW_some] <;> rfl) | (simp [*, errW_none, errW_some] <;> rfl), by repeat (first | (with_reducible first | exact HB.o | apply zaf | apply zah | apply zag | refine zae ?_ GE438.o | refine zae ?_ GE439.o | refine zae ?_ GE440.o) | exact HB.o)⟩
        ·rw [if_neg c39] at H
         have c39b0 : (a0_0 == 0) = false := beq_eq_false_iff_ne.mpr c39
         have c39b1 : (a0_0 != 0) = true := bne_iff_ne.mpr c39
         by_cases c45 : (a0_0 == (-1) && (a0_1 == 1)) = true
         ·rw [if_pos c45] at H
          have c45b0 : (a0_0 == (-1) && (a0_1 == 1)) = true := c45
          (try (have c45b1 : decide (a0_0 = (-1) && (a0_1 == 1)) = true := by simpa using c45))
          (try (have c45b2 : (a0_0 == (-1) && (a0_1 == 1)) = true := by simpa using c45))
          clear c45
          by_cases c46 : (Int.tmod a1 2) = 0
          ·rw [if_pos c46] at H
           have c46b0 : ((Int.tmod a1 2) == 0) = true := beq_iff_eq.mpr c46
           have c46b1 : ((Int.tmod a1 2) != 0) = false := bne_eq_false_iff_eq.mpr c46
           clear c46
           simp only [Option.some.injEq, Prod.mk.injEq] at H
           obtain ⟨rfl, rfl, rfl⟩ := H
           have hnb47 := NB438_439.o
           have hnc47 := NB439_438.o
           have hnb48 := NB438_440.o
           have hnc48 := NB440_438.o
           have hcz49_0 : wc.cell? ⟨gb438, 0, none⟩ = some (.int .i64 a0_0) := (zaj BK438.o 0).trans rfl
           have hcz49_1 : wc.cell? ⟨gb438, 1, none⟩ = some (.int .i64 a0_1) := (zaj BK438.o 1).trans rfl
           have hfz49_0 := zal BK438.o 0
           have hfz49_1 := zal BK438.o 1
           have hnb50 := NB440_439.o
           have hnc50 := NB439_440.o
           have hcz51_0 : wc.cell? ⟨gb440, 0, none⟩ = some (.int .i64 1) := (zaj BK440.o 0).trans rfl
           have hcz51_1 : wc.cell? ⟨gb440, 1, none⟩ = some (.int .i64 1) := (zaj BK440.o 1).trans rfl
           have hfz51_0 := zal BK440.o 0
           have hfz51_1 := zal BK440.o 1
           have hcz52_0 : wc.cell? ⟨gb439, 0, none⟩ = some (.int .i64 0) := (zaj BK439.o 0).trans rfl
           have hcz52_1 : wc.cell? ⟨gb439, 1, none⟩ = some (.int .i64 0) := (zaj BK439.o 1).trans rfl
           have hfz52_0 := zal BK439.o 0
           have hfz52_1 := zal BK439.o 1
           go_wp2
           refine bodyPost_ret (zaw rfl _ _ gb439 28 #[.int .i64 1, .int .i64 1] (0, 0) _ rfl (by (with_reducible repeat (first | refine zad ?_ _ | refine zab ?_ | refine zac ?_ _)); refine zap (cs := #[.int .i64 1, .int .i64 0]) ?_ 1 _ rfl; (with_reducible repeat (first | refine zad ?_ _ | refine zab ?_ | refine zac ?_ _)); refine zap (cs := #[.int .i64 0, .int .i64 0]) ?_ 0 _ rfl; (with_reducible repeat (first | refine zad ?_ _ | refine zab ?_ | refine zac ?_ _)); exact BK439.o) Tryd.underlying28 rfl (by kernel_rfl)) rfl ?_
           exact ⟨by first | rfl | (simp [errW_none, errW_some] <;> rfl) | (simp [*, errW_none, errW_some] <;> rfl), by repeat (first | (with_reducible first | exact HB.o | apply zaf | apply zah | apply zag | refine zae ?_ GE438.o | refine zae ?_ GE439.o | refine zae ?_ GE440.o) | exact HB.o)⟩
          ·rw [if_neg c46] at H
           have c46b0 : ((Int.tmod a1 2) == 0) = false := beq_eq_false_iff_ne.mpr c46
           have c46b1 : ((Int.tmod a1 2) != 0) = true := bne_iff_ne.mpr c46
           simp only [Option.some.injEq, Prod.mk.injEq] at H
           obtain ⟨rfl, rfl, rfl⟩ := H
           have hnb53 := NB438_439.o
           have hnc53 := NB439_438.o
           have hnb54 := NB438_440.o
           have hnc54 := NB440_438.o
           have hcz55_0 : wc.cell? ⟨gb438, 0, none⟩ = some (.int .i64 a0_0) := (zaj BK438.o 0).trans rfl
           have hcz55_1 : wc.cell? ⟨gb438, 1, none⟩ = some (.int .i64 a0_1) := (zaj BK438.o 1).trans rfl
           have hfz55_0 := zal BK438.o 0
           have hfz55_1 := zal BK438.o 1
           have hnb56 := NB439_440.o
           have hnc56 := NB440_439.o
           have hcz57_0 : wc.cell? ⟨gb439, 0, none⟩ = some (.int .i64 0) := (zaj BK439.o 0).trans rfl
           have hcz57_1 : wc.cell? ⟨gb439, 1, none⟩ = some (.int .i64 0) := (zaj BK439.o 1).trans rfl
           have hfz57_0 := zal BK439.o 0
           have hfz57_1 := zal BK439.o 1
           go_wp2
           refine bodyPost_ret (zaw rfl _ _ gb439 28 #[.int .i64 a0_0, .int .i64 a0_1] (0, 0) _ rfl (by (with_reducible repeat (first | refine zad ?_ _ | refine zab ?_ | refine zac ?_ _)); refine zap (cs := #[.int .i64 a0_0, .int .i64 0]) ?_ 1 _ rfl; (with_reducible repeat (first | refine zad ?_ _ | refine zab ?_ | refine zac ?_ _)); refine zap (cs := #[.int .i64 0, .int .i64 0]) ?_ 0 _ rfl; (with_reducible repeat (first | refine zad ?_ _ | refine zab ?_ | refine zac ?_ _)); exact BK439.o) Tryd.underlying28 rfl (by kernel_rfl)) rfl ?_
           exact ⟨by first | rfl | (simp [errW_none, errW_some] <;> rfl) | (simp [*, errW_none, errW_some] <;> rfl), by repeat (first | (with_reducible first | exact HB.o | apply zaf | apply zah | apply zag | refine zae ?_ GE438.o | refine zae ?_ GE439.o | refine zae ?_ GE440.o) | exact HB.o)⟩
         ·rw [if_neg c45] at H
          have c45b0 : (a0_0 == (-1) && (a0_1 == 1)) = false := by simpa using c45
          (try (have c45b1 : decide (a0_0 = (-1) && (a0_1 == 1)) = false := by simpa using c45))
          (try (have c45b2 : (a0_0 == (-1) && (a0_1 == 1)) = false := by simpa using c45))
          (try (have c45b3 : ¬ (a0_0 = (-1) && (a0_1 == 1)) := by simpa using c45))
          clear c45
          have HC58 := zaa.mk H
          clear H
          have hnb59 := NB438_439.o
          have hnc59 := NB439_438.o
          have hnb60 := NB438_440.o
          have hnc60 := NB440_438.o
          have hcz61_0 : wc.cell? ⟨gb438, 0, none⟩ = some (.int .i64 a0_0) := (zaj BK438.o 0).trans rfl
          have hcz61_1 : wc.cell? ⟨gb438, 1, none⟩ = some (.int .i64 a0_1) := (zaj BK438.o 1).trans rfl
          have hfz61_0 := zal BK438.o 0
          have hfz61_1 := zal BK438.o 1
          go_upto_region 14 with (fail)
          go_cut [49] (fun v49 wc => ∃ (kq : Nat) (x49_57 : Bool), v49 = .bool x49_57 ∧ zaa (vinculumref02_Pow.j2 kq a1 x49_57 a0_0 a0_1 1 1 = some (r1, r2, r3)) ∧ zaa (kq ≤ kj26) ∧ zaa (wc.heap[gb438]? = some (.cells #[.int .i64 a0_0, .int .i64 a0_1] 28 (0, 0))) ∧ zaa (wc.heap[gb439]? = some (.cells #[.int .i64 0, .int .i64 0] 28 (0, 0))) ∧ zaa (wc.heap[gb440]? = some (.cells #[.int .i64 1, .int .i64 1] 28 (0, 0))) ∧ zaa (Below w.heap.size w wc))
          case first =>
           have H := HC58.out
           clear HC58
           by_cases c62 : a1 < (-31)
           ·rw [if_pos c62] at H
            have c62b0 : decide (a1 < (-31)) = true := decide_eq_true c62
            clear c62
            (first | rw [c62b0] | (simp only [i64_w, i32_w]; rw [c62b0]) | skip)
            have H' := zaa.mk H
            clear H
            go_wp2
            go_meet
            case rel => exact ⟨_, (true), (by first | rfl | (simp; done) | (simp [*]; done)), H', ⟨by have := HJ4.out; have := HJ26.out; first | omega | exact Nat.le_refl _⟩, ⟨by (with_reducible repeat (first | refine zad ?_ _ | refine zab ?_ | refine zac ?_ _)); exact BK438.o⟩, ⟨by (with_reducible repeat (first | refine zad ?_ _ | refine zab ?_ | refine zac ?_ _)); exact BK439.o⟩, ⟨by (with_reducible repeat (first | refine zad ?_ _ | refine zab ?_ | refine zac ?_ _)); exact BK440.o⟩, ⟨by repeat (first | (with_reducible first | exact HB.o | apply zaf | apply zah | apply zag | refine zae ?_ GE438.o | refine zae ?_ GE439.o | refine zae ?_ GE440.o) | exact HB.o)⟩⟩
           ·rw [if_neg c62] at H
            have c62b0 : decide (a1 < (-31)) = false := decide_eq_false c62
            clear c62
            (first | rw [c62b0] | (simp only [i64_w, i32_w]; rw [c62b0]) | skip)
            have H' := zaa.mk H
            clear H
            go_wp2
            go_meet
            case rel => exact ⟨_, (decide (a1 > 31)), (by first | rfl | (simp; done) | (simp [*]; done)), H', ⟨by have := HJ4.out; have := HJ26.out; first | omega | exact Nat.le_refl _⟩, ⟨by (with_reducible repeat (first | refine zad ?_ _ | refine zab ?_ | refine zac ?_ _)); exact BK438.o⟩, ⟨by (with_reducible repeat (first | refine zad ?_ _ | refine zab ?_ | refine zac ?_ _)); exact BK439.o⟩, ⟨by (with_reducible repeat (first | refine zad ?_ _ | refine zab ?_ | refine zac ?_ _)); exact BK440.o⟩, ⟨by repeat (first | (with_reducible first | exact HB.o | apply zaf | apply zah | apply zag | refine zae ?_ GE438.o | refine zae ?_ GE439.o | refine zae ?_ GE440.o) | exact HB.o)⟩⟩
          case rest =>
           clear HC58
           try clear c1
           try clear c2
           try clear p2
           try clear c3
           try clear c4
           try clear c5
           try clear c6
           try clear c9
           try clear c10
           try clear c12
           try clear c15
           try clear c15b0
           try clear c15b1
           try clear c16
           try clear c17
           try clear c19
           try clear c21
           try clear c22
           try clear c23
           try clear c25
           try clear c28
           try clear c28b0
           try clear c28b1
           try clear c29
           try clear c30
           try clear c32
           try clear c33
           try clear c35
           try clear c36
           try clear c37
           try clear c38
           try clear c39
           try clear c39b0
           try clear c39b1
           try clear c40
           try clear c41
           try clear c43
           try clear c45
           try clear c45b0
           try clear c45b1
           try clear c45b2
           try clear c46
           try clear c46b0
           try clear c46b1
           try clear c47
           try clear c48
           try clear c50
           try clear c53
           try clear c54
           try clear c56
           try clear c59
           try clear c60
           try clear c62
           try clear c62b0
           try clear hcz11_0
           try clear hcz11_1
           try clear hcz13_0
           try clear hcz13_1
           try clear hcz18_0
           try clear hcz18_1
           try clear hcz20_0
           try clear hcz20_1
           try clear hcz24_0
           try clear hcz24_1
           try clear hcz26_0
           try clear hcz26_1
           try clear hcz31_0
           try clear hcz31_1
           try clear hcz34_0
           try clear hcz34_1
           try clear hcz38_0
           try clear hcz38_1
           try clear hcz42_0
           try clear hcz42_1
           try clear hcz44_0
           try clear hcz44_1
           try clear hcz49_0
           try clear hcz49_1
           try clear hcz51_0
           try clear hcz51_1
           try clear hcz52_0
           try clear hcz52_1
           try clear hcz55_0
           try clear hcz55_1
           try clear hcz57_0
           try clear hcz57_1
           try clear hcz61_0
           try clear hcz61_1
           try clear hfz11_0
           try clear hfz11_1
           try clear hfz13_0
           try clear hfz13_1
           try clear hfz18_0
           try clear hfz18_1
           try clear hfz20_0
           try clear hfz20_1
           try clear hfz24_0
           try clear hfz24_1
           try clear hfz26_0
           try clear hfz26_1
           try clear hfz31_0
           try clear hfz31_1
           try clear hfz34_0
           try clear hfz34_1
           try clear hfz38_0
           try clear hfz38_1
           try clear hfz42_0
           try clear hfz42_1
           try clear hfz44_0
           try clear hfz44_1
           try clear hfz49_0
           try clear hfz49_1
           try clear hfz51_0
           try clear hfz51_1
           try clear hfz52_0
           try clear hfz52_1
           try clear hfz55_0
           try clear hfz55_1
           try clear hfz57_0
           try clear hfz57_1
           try clear hfz61_0
           try clear hfz61_1
           try clear p2
           obtain ⟨kq, x49_57, rfl, HA, HJ57, BK438, BK439, BK440, HB⟩ := hcut
           cases kq with
           | zero => exact absurd HA.o (by simp [vinculumref02_Pow.j2])
           | succ kj57 =>
            have H := HA.o
            clear HA
            simp only [vinculumref02_Pow.j2] at H
            by_cases c63 : x49_57 = true
            ·subst c63
             have H1 : (some (0, 0, 2)) = some (r1, r2, r3) := by rw [if_pos rfl] at H; exact H
             clear H
             have H := H1
             clear H1
             simp only [Option.some.injEq, Prod.mk.injEq] at H
             obtain ⟨rfl, rfl, rfl⟩ := H
             have hnb64 := NB439_438.o
             have hnc64 := NB438_439.o
             have hnb65 := NB439_440.o
             have hnc65 := NB440_439.o
             have hcz66_0 : wc.cell? ⟨gb439, 0, none⟩ = some (.int .i64 0) := (zaj BK439.o 0).trans rfl
             have hcz66_1 : wc.cell? ⟨gb439, 1, none⟩ = some (.int .i64 0) := (zaj BK439.o 1).trans rfl
             have hfz66_0 := zal BK439.o 0
             have hfz66_1 := zal BK439.o 1
             go_wp2
             refine bodyPost_ret (zaw rfl _ _ gb439 28 #[.int .i64 0, .int .i64 0] (0, 0) _ rfl (by (with_reducible repeat (first | refine zad ?_ _ | refine zab ?_ | refine zac ?_ _)); refine zap (cs := #[.int .i64 0, .int .i64 0]) ?_ 1 _ rfl; (with_reducible repeat (first | refine zad ?_ _ | refine zab ?_ | refine zac ?_ _)); refine zap (cs := #[.int .i64 0, .int .i64 0]) ?_ 0 _ rfl; (with_reducible repeat (first | refine zad ?_ _ | refine zab ?_ | refine zac ?_ _)); exact BK439.o) Tryd.underlying28 rfl (by kernel_rfl)) rfl ?_
             exact ⟨by first | rfl | (simp [errW_none, errW_some] <;> rfl) | (simp [*, errW_none, errW_some] <;> rfl), by repeat (first | (with_reducible first | exact HB.o | apply zaf | apply zah | apply zag | refine zae ?_ GE438.o | refine zae ?_ GE439.o | refine zae ?_ GE440.o) | exact HB.o)⟩
            ·replace c63 := Bool.eq_false_iff.mpr c63
             subst c63
             have H1 : (if a1 < 0 then ((vinculumref02_Make.f kj57 a0_1 a0_0).bind fun bt442 => ((vinculumref02_Pow.f kj57 bt442.1 bt442.2.1 (wrap64 (-a1))).bind fun bt445 => (some (bt445.1, bt445.2.1, bt445.2.2)))) else (vinculumref02_Pow.l0 kj57 a1 0 a0_0 a0_1 1 1)) = some (r1, r2, r3) := by rw [if_neg (show ¬ (false = true) by decide)] at H; exact H
             clear H
             have H := H1
             clear H1
             by_cases c67 : a1 < 0
             ·rw [if_pos c67] at H
              have c67b0 : decide (a1 < 0) = true := decide_eq_true c67
              clear c67
              replace H := Option.bind_eq_some_iff.mp H
              obtain ⟨⟨t442, t443, t444⟩, A680, H⟩ := H
              replace H : ((vinculumref02_Pow.f kj57 t442 t443 (wrap64 (-a1))).bind fun bt445 => (some (bt445.1, bt445.2.1, bt445.2.2))) = some (r1, r2, r3) := H
              have A68 := zaa.mk A680
              clear A680
              replace H := Option.bind_eq_some_iff.mp H
              obtain ⟨⟨t445, t446, t447⟩, A690, H⟩ := H
              replace H : (some (t445, t446, t447)) = some (r1, r2, r3) := H
              have A69 := zaa.mk A690
              clear A690
              simp only [Option.some.injEq, Prod.mk.injEq] at H
              obtain ⟨rfl, rfl, rfl⟩ := H
              have hnb70 := NB438_439.o
              have hnc70 := NB439_438.o
              have hnb71 := NB438_440.o
              have hnc71 := NB440_438.o
              have hcz72_0 : wc.cell? ⟨gb438, 0, none⟩ = some (.int .i64 a0_0) := (zaj BK438.o 0).trans rfl
              have hcz72_1 : wc.cell? ⟨gb438, 1, none⟩ = some (.int .i64 a0_1) := (zaj BK438.o 1).trans rfl
              have hfz72_0 := zal BK438.o 0
              have hfz72_1 := zal BK438.o 1
              go_wp2_with (first | ((with_reducible refine zas (f := 14) rfl ?_); refine zat (some 65) rfl rfl Tryd.func14 (by kernel_rfl) rfl #[.int .i64 a0_1, .int .i64 a0_0] rfl (by (try simp only [List.map_toArray, List.map_cons, List.map_nil]); first | done | rfl | (simp only [List.length_drop, List.length_take]; rfl)) ?_; (with_reducible refine (vinculumref02_Make.calls kj57 a0_1 a0_0 t442 t443 t444 _ A68.o).mono ?_); rintro e w73 ⟨rfl, hb⟩; refine ⟨_, rfl, ?_⟩; have n0_ := zaa.mk (zai (by (with_reducible repeat (first | refine zad ?_ _ | refine zab ?_ | refine zac ?_ _)); exact BK438.o) hb); have n1_ := zaa.mk (zai (by (with_reducible repeat (first | refine zad ?_ _ | refine zab ?_ | refine zac ?_ _)); exact BK439.o) hb); have n2_ := zaa.mk (zai (by (with_reducible repeat (first | refine zad ?_ _ | refine zab ?_ | refine zac ?_ _)); exact BK440.o) hb); have n3_ := zaa.mk (zao (by repeat (first | (with_reducible first | exact HB.o | apply zaf | apply zah | apply zag | refine zae ?_ GE438.o | refine zae ?_ GE439.o | refine zae ?_ GE440.o) | exact HB.o)) hb); clear BK438; clear BK439; clear BK440; clear HB; have BK438 := n0_; have BK439 := n1_; have BK440 := n2_; have HB := n3_; clear n0_ n1_ n2_ n3_; (try clear hb); (try clear hb2); (try clear hk); (try clear hi); obtain ⟨hcz74_0, hcz74_1⟩ := cz2 BK438.o; obtain ⟨hfz74_0, hfz74_1⟩ := fz2 BK438.o) | ((with_reducible refine zas (f := 38) rfl ?_); refine zat (some 71) rfl rfl Tryd.func38 (by kernel_rfl) rfl #[.agg #[.int .i64 t442, .int .i64 t443], .int .i64 (wrap64 (-a1))] rfl (by (try simp only [List.map_toArray, List.map_cons, List.map_nil]); first | done | rfl | (simp only [List.length_drop, List.length_take]; rfl)) ?_; (with_reducible refine (ih kj57 (by have := HJ4.out; have := HJ26.out; have := HJ57.out; omega) t442 t443 (wrap64 (-a1)) t445 t446 t447 _ A69.o).mono ?_); rintro e w75 ⟨rfl, hb⟩; refine ⟨_, rfl, ?_⟩; have n0_ := zaa.mk (zai (g := gb438) (o := .cells #[.int .i64 t442, .int .i64 t443] 28 (0, 0)) (by (with_reducible repeat (first | refine zad ?_ _ | refine zab ?_ | refine zac ?_ _)); refine zap (cs := #[.int .i64 t442, .int .i64 a0_1]) ?_ 1 _ rfl; (with_reducible repeat (first | refine zad ?_ _ | refine zab ?_ | refine zac ?_ _)); refine zap (cs := #[.int .i64 a0_0, .int .i64 a0_1]) ?_ 0 _ rfl; (with_reducible repeat (first | refine zad ?_ _ | refine zab ?_ | refine zac ?_ _)); exact BK438.o) hb); have n1_ := zaa.mk (zai (g := gb439) (o := .cells #[.int .i64 0, .int .i64 0] 28 (0, 0)) (by (with_reducible repeat (first | refine zad ?_ _ | refine zab ?_ | refine zac ?_ _)); refine zam ?_ NB439_438.o _; (with_reducible repeat (first | refine zad ?_ _ | refine zab ?_ | refine zac ?_ _)); refine zam ?_ NB439_438.o _; (with_reducible repeat (first | refine zad ?_ _ | refine zab ?_ | refine zac ?_ _)); exact BK439.o) hb); have n2_ := zaa.mk (zai (g := gb440) (o := .cells #[.int .i64 1, .int .i64 1] 28 (0, 0)) (by (with_reducible repeat (first | refine zad ?_ _ | refine zab ?_ | refine zac ?_ _)); refine zam ?_ NB440_438.o _; (with_reducible repeat (first | refine zad ?_ _ | refine zab ?_ | refine zac ?_ _)); refine zam ?_ NB440_438.o _; (with_reducible repeat (first | refine zad ?_ _ | refine zab ?_ | refine zac ?_ _)); exact BK440.o) hb); have n3_ := zaa.mk (zao (by repeat (first | (with_reducible first | exact HB.o | apply zaf | apply zah | apply zag | refine zae ?_ GE438.o | refine zae ?_ GE439.o | refine zae ?_ GE440.o) | exact HB.o)) hb); clear BK438; clear BK439; clear BK440; clear HB; have BK438 := n0_; have BK439 := n1_; have BK440 := n2_; have HB := n3_; clear n0_ n1_ n2_ n3_; (try clear hb); (try clear hb2); (try clear hk); (try clear hi); have hnb76 := NB439_440.o; have hnc76 := NB440_439.o; obtain ⟨hcz77_0, hcz77_1⟩ := cz2 BK439.o; obtain ⟨hfz77_0, hfz77_1⟩ := fz2 BK439.o))
              refine bodyPost_ret (zaw rfl _ _ gb439 28 #[.int .i64 t445, .int .i64 t446] (0, 0) _ rfl (by (with_reducible repeat (first | refine zad ?_ _ | refine zab ?_ | refine zac ?_ _)); refine zap (cs := #[.int .i64 t445, .int .i64 0]) ?_ 1 _ rfl; (with_reducible repeat (first | refine zad ?_ _ | refine zab ?_ | refine zac ?_ _)); refine zap (cs := #[.int .i64 0, .int .i64 0]) ?_ 0 _ rfl; (with_reducible repeat (first | refine zad ?_ _ | refine zab ?_ | refine zac ?_ _)); exact BK439.o) Tryd.underlying28 rfl (by kernel_rfl)) rfl ?_
              exact ⟨by first | rfl | (simp [errW_none, errW_some] <;> rfl) | (simp [*, errW_none, errW_some] <;> rfl), by repeat (first | (with_reducible first | exact HB.o | apply zaf | apply zah | apply zag | refine zae ?_ GE438.o | refine zae ?_ GE439.o | refine zae ?_ GE440.o) | exact HB.o)⟩
             ·rw [if_neg c67] at H
              have c67b0 : decide (a1 < 0) = false := decide_eq_false c67
              clear c67
              have H' := zaa.mk H
              clear H
              have hnb78 := NB440_438.o
              have hnc78 := NB438_440.o
              have hnb79 := NB440_439.o
              have hnc79 := NB439_440.o
              have hcz80_0 : wc.cell? ⟨gb440, 0, none⟩ = some (.int .i64 1) := (zaj BK440.o 0).trans rfl
              have hcz80_1 : wc.cell? ⟨gb440, 1, none⟩ = some (.int .i64 1) := (zaj BK440.o 1).trans rfl
              have hfz80_0 := zal BK440.o 0
              have hfz80_1 := zal BK440.o 1
              go_wp2_with (first | ((with_reducible refine zaq (N := 7) rfl ?_); refine zar ?hg (N := 7) ?hd (cs := #[.int .i64 0, .int .i64 0]) (t := 28) ?hr ?_; (case hd => rfl); (case hg => rfl); (case hr => first | (go_simp; done) | (go_simp; rfl)); intro gb448 hg w81 hbox hb; have n0_ := zaa.mk (zai (by (with_reducible repeat (first | refine zad ?_ _ | refine zab ?_ | refine zac ?_ _)); exact BK438.o) hb); have n1_ := zaa.mk (zai (by (with_reducible repeat (first | refine zad ?_ _ | refine zab ?_ | refine zac ?_ _)); exact BK439.o) hb); have n2_ := zaa.mk (zai (by (with_reducible repeat (first | refine zad ?_ _ | refine zab ?_ | refine zac ?_ _)); exact BK440.o) hb); have n3_ := zaa.mk (zao (by repeat (first | (with_reducible first | exact HB.o | apply zaf | apply zah | apply zag | refine zae ?_ GE438.o | refine zae ?_ GE439.o | refine zae ?_ GE440.o) | exact HB.o)) hb); have n4_ := zaa.mk (hbox); have n5_ := zaa.mk ((by rw [hg]; exact (zan (by repeat (first | (with_reducible first | exact HB.o | apply zaf | apply zah | apply zag | refine zae ?_ GE438.o | refine zae ?_ GE439.o | refine zae ?_ GE440.o) | exact HB.o))) : w.heap.size ≤ gb448)); have n6_ := zaa.mk ((by rw [hg]; exact (zan (by repeat (first | (with_reducible first | exact HB.o | apply zaf | apply zah | apply zag | refine zae ?_ GE438.o | refine zae ?_ GE439.o | refine zae ?_ GE440.o) | exact HB.o))) : w.heap.size ≤ gb448)); have n7_ := zaa.mk ((by rw [hg]; exact Nat.ne_of_lt (zak (g := gb438) (o := .cells #[.int .i64 a0_0, .int .i64 a0_1] 28 (0, 0)) (by (with_reducible repeat (first | refine zad ?_ _ | refine zab ?_ | refine zac ?_ _)); exact BK438.o)) : gb438 ≠ gb448)); have n8_ := zaa.mk ((by rw [hg]; exact Nat.ne_of_gt (zak (g := gb438) (o := .cells #[.int .i64 a0_0, .int .i64 a0_1] 28 (0, 0)) (by (with_reducible repeat (first | refine zad ?_ _ | refine zab ?_ | refine zac ?_ _)); exact BK438.o)) : gb448 ≠ gb438)); have n9_ := zaa.mk ((by rw [hg]; exact Nat.ne_of_lt (zak (g := gb439) (o := .cells #[.int .i64 0, .int .i64 0] 28 (0, 0)) (by (with_reducible repeat (first | refine zad ?_ _ | refine zab ?_ | refine zac ?_ _)); exact BK439.o)) : gb439 ≠ gb448)); have n10_ := zaa.mk ((by rw [hg]; exact Nat.ne_of_gt (zak (g := gb439) (o := .cells #[.int .i64 0, .int .i64 0] 28 (0, 0)) (by (with_reducible repeat (first | refine zad ?_ _ | refine zab ?_ | refine zac ?_ _)); exact BK439.o)) : gb448 ≠ gb439)); have n11_ := zaa.mk ((by rw [hg]; exact Nat.ne_of_lt (zak (g := gb440) (o := .cells #[.int .i64 1, .int .i64 1] 28 (0, 0)) (by (with_reducible repeat (first | refine zad ?_ _ | refine zab ?_ | refine zac ?_ _)); exact BK440.o)) : gb440 ≠ gb448)); have n12_ := zaa.mk ((by rw [hg]; exact Nat.ne_of_gt (zak (g := gb440) (o := .cells #[.int .i64 1, .int .i64 1] 28 (0, 0)) (by (with_reducible repeat (first | refine zad ?_ _ | refine zab ?_ | refine zac ?_ _)); exact BK440.o)) : gb448 ≠ gb440)); clear BK438; clear BK439; clear BK440; clear HB; have BK438 := n0_; have BK439 := n1_; have BK440 := n2_; have HB := n3_; have BK448 := n4_; have GW448 := n5_; have GE448 := n6_; have NB438_448 := n7_; have NB448_438 := n8_; have NB439_448 := n9_; have NB448_439 := n10_; have NB440_448 := n11_; have NB448_440 := n12_; clear n0_ n1_ n2_ n3_ n4_ n5_ n6_ n7_ n8_ n9_ n10_ n11_ n12_; clear hb hbox hg; have hnb82 := NB448_438.o; have hnc82 := NB438_448.o; have hnb83 := NB448_439.o; have hnc83 := NB439_448.o; have hnb84 := NB448_440.o; have hnc84 := NB440_448.o; obtain ⟨hcz85_0, hcz85_1⟩ := cz2 BK448.o; obtain ⟨hfz85_0, hfz85_1⟩ := fz2 BK448.o))
              go_loopg [8] kj57 (fun kq v8 w' => ∃ (x8_4 : Int) (x440000_4 : Int) (x440001_4 : Int) (x449000_4 : Int) (x449001_4 : Int), v8 = .int .i64 x8_4 ∧ zaa (vinculumref02_Pow.l0 kq a1 x8_4 a0_0 a0_1 x449000_4 x449001_4 = some (r1, r2, r3)) ∧ zaa (kq ≤ kj57) ∧ zaa (w'.heap[gb438]? = some (.cells #[.int .i64 a0_0, .int .i64 a0_1] 28 (0, 0))) ∧ zaa (w'.heap[gb439]? = some (.cells #[.int .i64 x440000_4, .int .i64 x440001_4] 28 (0, 0))) ∧ zaa (w'.heap[gb440]? = some (.cells #[.int .i64 1, .int .i64 1] 28 (0, 0))) ∧ zaa (w'.heap[gb448]? = some (.cells #[.int .i64 x449000_4, .int .i64 x449001_4] 28 (0, 0))) ∧ zaa (Below w.heap.size w w'))
              case atStart => exact ⟨(0), (0), (0), (1), (1), (by first | rfl | (simp; done) | (simp [*]; done)), H', ⟨Nat.le_refl _⟩, ⟨by (with_reducible repeat (first | refine zad ?_ _ | refine zab ?_ | refine zac ?_ _)); refine zam ?_ NB438_448.o _; (with_reducible repeat (first | refine zad ?_ _ | refine zab ?_ | refine zac ?_ _)); refine zam ?_ NB438_448.o _; (with_reducible repeat (first | refine zad ?_ _ | refine zab ?_ | refine zac ?_ _)); exact BK438.o⟩, ⟨by (with_reducible repeat (first | refine zad ?_ _ | refine zab ?_ | refine zac ?_ _)); refine zam ?_ NB439_448.o _; (with_reducible repeat (first | refine zad ?_ _ | refine zab ?_ | refine zac ?_ _)); refine zam ?_ NB439_448.o _; (with_reducible repeat (first | refine zad ?_ _ | refine zab ?_ | refine zac ?_ _)); exact BK439.o⟩, ⟨by (with_reducible repeat (first | refine zad ?_ _ | refine zab ?_ | refine zac ?_ _)); refine zam ?_ NB440_448.o _; (with_reducible repeat (first | refine zad ?_ _ | refine zab ?_ | refine zac ?_ _)); refine zam ?_ NB440_448.o _; (with_reducible repeat (first | refine zad ?_ _ | refine zab ?_ | refine zac ?_ _)); exact BK440.o⟩, ⟨by (with_reducible repeat (first | refine zad ?_ _ | refine zab ?_ | refine zac ?_ _)); refine zap (cs := #[.int .i64 1, .int .i64 0]) ?_ 1 _ rfl; (with_reducible repeat (first | refine zad ?_ _ | refine zab ?_ | refine zac ?_ _)); refine zap (cs := #[.int .i64 0, .int .i64 0]) ?_ 0 _ rfl; (with_reducible repeat (first | refine zad ?_ _ | refine zab ?_ | refine zac ?_ _)); exact BK448.o⟩, ⟨by repeat (first | (with_reducible first | exact HB.o | apply zaf | apply zah | apply zag | refine zae ?_ GE438.o | refine zae ?_ GE439.o | refine zae ?_ GE440.o | refine zae ?_ GE448.o) | exact HB.o)⟩⟩
              case round =>
               clear H'
               try clear c1
               try clear c2
               try clear p2
               try clear c3
               try clear c4
               try clear c5
               try clear c6
               try clear p6
               try clear c7
               try clear c8
               try clear c9
               try clear c10
               try clear c12
               try clear c14
               try clear c15
               try clear c15b0
               try clear c15b1
               try clear c16
               try clear c17
               try clear c19
               try clear c21
               try clear c22
               try clear c23
               try clear c25
               try clear c28
               try clear c28b0
               try clear c28b1
               try clear c29
               try clear c30
               try clear c32
               try clear c33
               try clear c35
               try clear c36
               try clear c37
               try clear c38
               try clear c39
               try clear c39b0
               try clear c39b1
               try clear c40
               try clear c41
               try clear c43
               try clear c45
               try clear c45b0
               try clear c45b1
               try clear c45b2
               try clear c46
               try clear c46b0
               try clear c46b1
               try clear c47
               try clear c48
               try clear c50
               try clear c53
               try clear c54
               try clear c56
               try clear c59
               try clear c60
               try clear c62
               try clear c62b0
               try clear c63
               try clear c64
               try clear p64
               try clear c65
               try clear c67
               try clear c67b0
               try clear c70
               try clear c71
               try clear c76
               try clear c78
               try clear c79
               try clear c82
               try clear c83
               try clear c84
               try clear hcz11_0
               try clear hcz11_1
               try clear hcz13_0
               try clear hcz13_1
               try clear hcz18_0
               try clear hcz18_1
               try clear hcz20_0
               try clear hcz20_1
               try clear hcz24_0
               try clear hcz24_1
               try clear hcz26_0
               try clear hcz26_1
               try clear hcz31_0
               try clear hcz31_1
               try clear hcz34_0
               try clear hcz34_1
               try clear hcz38_0
               try clear hcz38_1
               try clear hcz42_0
               try clear hcz42_1
               try clear hcz44_0
               try clear hcz44_1
               try clear hcz49_0
               try clear hcz49_1
               try clear hcz51_0
               try clear hcz51_1
               try clear hcz52_0
               try clear hcz52_1
               try clear hcz55_0
               try clear hcz55_1
               try clear hcz57_0
               try clear hcz57_1
               try clear hcz61_0
               try clear hcz61_1
               try clear hcz66_0
               try clear hcz66_1
               try clear hcz72_0
               try clear hcz72_1
               try clear hcz74_0
               try clear hcz74_1
               try clear hcz77_0
               try clear hcz77_1
               try clear hcz80_0
               try clear hcz80_1
               try clear hcz85_0
               try clear hcz85_1
               try clear hfz11_0
               try clear hfz11_1
               try clear hfz13_0
               try clear hfz13_1
               try clear hfz18_0
               try clear hfz18_1
               try clear hfz20_0
               try clear hfz20_1
               try clear hfz24_0
               try clear hfz24_1
               try clear hfz26_0
               try clear hfz26_1
               try clear hfz31_0
               try clear hfz31_1
               try clear hfz34_0
               try clear hfz34_1
               try clear hfz38_0
               try clear hfz38_1
               try clear hfz42_0
               try clear hfz42_1
               try clear hfz44_0
               try clear hfz44_1
               try clear hfz49_0
               try clear hfz49_1
               try clear hfz51_0
               try clear hfz51_1
               try clear hfz52_0
               try clear hfz52_1
               try clear hfz55_0
               try clear hfz55_1
               try clear hfz57_0
               try clear hfz57_1
               try clear hfz61_0
               try clear hfz61_1
               try clear hfz66_0
               try clear hfz66_1
               try clear hfz72_0
               try clear hfz72_1
               try clear hfz74_0
               try clear hfz74_1
               try clear hfz77_0
               try clear hfz77_1
               try clear hfz80_0
               try clear hfz80_1
               try clear hfz85_0
               try clear hfz85_1
               try clear p2
               obtain ⟨x8_4, x440000_4, x440001_4, x449000_4, x449001_4, rfl, HA, HK4, BK438, BK439, BK440, BK448, HB⟩ := hrel
               cases gk with
               | zero => exact absurd HA.o (by simp [vinculumref02_Pow.l0])
               | succ k4 =>
                have H := HA.o
                clear HA
                simp only [vinculumref02_Pow.l0] at H
                by_cases c86 : x8_4 < a1
                ·rw [if_pos c86] at H
                 have c86b0 : decide (x8_4 < a1) = true := decide_eq_true c86
                 clear c86
                 replace H := Option.bind_eq_some_iff.mp H
                 obtain ⟨⟨t449, t450, t451⟩, A870, H⟩ := H
                 replace H : (if t451 = 0 then (vinculumref02_Pow.l0 k4 a1 (wrap64 (x8_4 + 1)) a0_0 a0_1 t449 t450) else (some (0, 0, t451))) = some (r1, r2, r3) := H
                 have A87 := zaa.mk A870
                 clear A870
                 by_cases c88 : t451 = 0
                 ·rw [if_pos c88] at H
                  have c88b0 : (t451 == 0) = true := beq_iff_eq.mpr c88
                  have c88b1 : (t451 != 0) = false := bne_eq_false_iff_eq.mpr c88
                  clear c88
                  have H' := zaa.mk H
                  clear H
                  have hnb89 := NB448_438.o
                  have hnc89 := NB438_448.o
                  have hnb90 := NB448_439.o
                  have hnc90 := NB439_448.o
                  have hnb91 := NB448_440.o
                  have hnc91 := NB440_448.o
                  have hcz92_0 : wr.cell? ⟨gb448, 0, none⟩ = some (.int .i64 x449000_4) := (zaj BK448.o 0).trans rfl
                  have hcz92_1 : wr.cell? ⟨gb448, 1, none⟩ = some (.int .i64 x449001_4) := (zaj BK448.o 1).trans rfl
                  have hfz92_0 := zal BK448.o 0
                  have hfz92_1 := zal BK448.o 1
                  have hnb93 := NB438_439.o
                  have hnc93 := NB439_438.o
                  have hnb94 := NB438_440.o
                  have hnc94 := NB440_438.o
                  have hcz95_0 : wr.cell? ⟨gb438, 0, none⟩ = some (.int .i64 a0_0) := (zaj BK438.o 0).trans rfl
                  have hcz95_1 : wr.cell? ⟨gb438, 1, none⟩ = some (.int .i64 a0_1) := (zaj BK438.o 1).trans rfl
                  have hfz95_0 := zal BK438.o 0
                  have hfz95_1 := zal BK438.o 1
                  go_wp2_with (first | ((with_reducible refine zas (f := 33) rfl ?_); refine zat (some 83) rfl rfl Tryd.func33 (by kernel_rfl) rfl #[.agg #[.int .i64 x449000_4, .int .i64 x449001_4], .agg #[.int .i64 a0_0, .int .i64 a0_1]] rfl (by (try simp only [List.map_toArray, List.map_cons, List.map_nil]); first | done | rfl | (simp only [List.length_drop, List.length_take]; rfl)) ?_; (with_reducible refine (vinculumref02_Mul.calls k4 x449000_4 x449001_4 a0_0 a0_1 t449 t450 t451 _ A87.o).mono ?_); rintro e w96 ⟨rfl, hb⟩; refine ⟨_, rfl, ?_⟩; have n0_ := zaa.mk (zai (by (with_reducible repeat (first | refine zad ?_ _ | refine zab ?_ | refine zac ?_ _)); exact BK438.o) hb); have n1_ := zaa.mk (zai (by (with_reducible repeat (first | refine zad ?_ _ | refine zab ?_ | refine zac ?_ _)); exact BK439.o) hb); have n2_ := zaa.mk (zai (by (with_reducible repeat (first | refine zad ?_ _ | refine zab ?_ | refine zac ?_ _)); exact BK440.o) hb); have n3_ := zaa.mk (zai (by (with_reducible repeat (first | refine zad ?_ _ | refine zab ?_ | refine zac ?_ _)); exact BK448.o) hb); have n4_ := zaa.mk (zao (by repeat (first | (with_reducible first | exact HB.o | apply zaf | apply zah | apply zag | refine zae ?_ GE438.o | refine zae ?_ GE439.o | refine zae ?_ GE440.o | refine zae ?_ GE448.o) | exact HB.o)) hb); clear BK438; clear BK439; clear BK440; clear BK448; clear HB; have BK438 := n0_; have BK439 := n1_; have BK440 := n2_; have BK448 := n3_; have HB := n4_; clear n0_ n1_ n2_ n3_ n4_; (try clear hb); (try clear hb2); (try clear hk); (try clear hi)) | ((with_reducible refine zaq (N := 9) rfl ?_); refine zar ?hg (N := 9) ?hd (cs := #[.int .i64 0, .int .i64 0]) (t := 28) ?hr ?_; (case hd => rfl); (case hg => rfl); (case hr => first | (go_simp; done) | (go_simp; rfl)); intro gb452 hg w97 hbox hb; have n0_ := zaa.mk (zai (by (with_reducible repeat (first | refine zad ?_ _ | refine zab ?_ | refine zac ?_ _)); exact BK438.o) hb); have n1_ := zaa.mk (zai (by (with_reducible repeat (first | refine zad ?_ _ | refine zab ?_ | refine zac ?_ _)); exact BK439.o) hb); have n2_ := zaa.mk (zai (by (with_reducible repeat (first | refine zad ?_ _ | refine zab ?_ | refine zac ?_ _)); exact BK440.o) hb); have n3_ := zaa.mk (zai (by (with_reducible repeat (first | refine zad ?_ _ | refine zab ?_ | refine zac ?_ _)); exact BK448.o) hb); have n4_ := zaa.mk (zao (by repeat (first | (with_reducible first | exact HB.o | apply zaf | apply zah | apply zag | refine zae ?_ GE438.o | refine zae ?_ GE439.o | refine zae ?_ GE440.o | refine zae ?_ GE448.o) | exact HB.o)) hb); have n5_ := zaa.mk (hbox); have n6_ := zaa.mk ((by rw [hg]; exact (zan (by repeat (first | (with_reducible first | exact HB.o | apply zaf | apply zah | apply zag | refine zae ?_ GE438.o | refine zae ?_ GE439.o | refine zae ?_ GE440.o | refine zae ?_ GE448.o) | exact HB.o))) : w.heap.size ≤ gb452)); have n7_ := zaa.mk ((by rw [hg]; exact (zan (by repeat (first | (with_reducible first | exact HB.o | apply zaf | apply zah | apply zag | refine zae ?_ GE438.o | refine zae ?_ GE439.o | refine zae ?_ GE440.o | refine zae ?_ GE448.o) | exact HB.o))) : w.heap.size ≤ gb452)); have n8_ := zaa.mk ((by rw [hg]; exact Nat.ne_of_lt (zak (g := gb438) (o := .cells #[.int .i64 a0_0, .int .i64 a0_1] 28 (0, 0)) (by (with_reducible repeat (first | refine zad ?_ _ | refine zab ?_ | refine zac ?_ _)); exact BK438.o)) : gb438 ≠ gb452)); have n9_ := zaa.mk ((by rw [hg]; exact Nat.ne_of_gt (zak (g := gb438) (o := .cells #[.int .i64 a0_0, .int .i64 a0_1] 28 (0, 0)) (by (with_reducible repeat (first | refine zad ?_ _ | refine zab ?_ | refine zac ?_ _)); exact BK438.o)) : gb452 ≠ gb438)); have n10_ := zaa.mk ((by rw [hg]; exact Nat.ne_of_lt (zak (g := gb439) (o := .cells #[.int .i64 x440000_4, .int .i64 x440001_4] 28 (0, 0)) (by (with_reducible repeat (first | refine zad ?_ _ | refine zab ?_ | refine zac ?_ _)); exact BK439.o)) : gb439 ≠ gb452)); have n11_ := zaa.mk ((by rw [hg]; exact Nat.ne_of_gt (zak (g := gb439) (o := .cells #[.int .i64 x440000_4, .int .i64 x440001_4] 28 (0, 0)) (by (with_reducible repeat (first | refine zad ?_ _ | refine zab ?_ | refine zac ?_ _)); exact BK439.o)) : gb452 ≠ gb439)); have n12_ := zaa.mk ((by rw [hg]; exact Nat.ne_of_lt (zak (g := gb440) (o := .cells #[.int .i64 1, .int .i64 1] 28 (0, 0)) (by (with_reducible repeat (first | refine zad ?_ _ | refine zab ?_ | refine zac ?_ _)); exact BK440.o)) : gb440 ≠ gb452)); have n13_ := zaa.mk ((by rw [hg]; exact Nat.ne_of_gt (zak (g := gb440) (o := .cells #[.int .i64 1, .int .i64 1] 28 (0, 0)) (by (with_reducible repeat (first | refine zad ?_ _ | refine zab ?_ | refine zac ?_ _)); exact BK440.o)) : gb452 ≠ gb440)); have n14_ := zaa.mk ((by rw [hg]; exact Nat.ne_of_lt (zak (g := gb448) (o := .cells #[.int .i64 x449000_4, .int .i64 x449001_4] 28 (0, 0)) (by (with_reducible repeat (first | refine zad ?_ _ | refine zab ?_ | refine zac ?_ _)); exact BK448.o)) : gb448 ≠ gb452)); have n15_ := zaa.mk ((by rw [hg]; exact Nat.ne_of_gt (zak (g := gb448) (o := .cells #[.int .i64 x449000_4, .int .i64 x449001_4] 28 (0, 0)) (by (with_reducible repeat (first | refine zad ?_ _ | refine zab ?_ | refine zac ?_ _)); exact BK448.o)) : gb452 ≠ gb448)); clear BK438; clear BK439; clear BK440; clear BK448; clear HB; have BK438 := n0_; have BK439 := n1_; have BK440 := n2_; have BK448 := n3_; have HB := n4_; have BK452 := n5_; have GW452 := n6_; have GE452 := n7_; have NB438_452 := n8_; have NB452_438 := n9_; have NB439_452 := n10_; have NB452_439 := n11_; have NB440_452 := n12_; have NB452_440 := n13_; have NB448_452 := n14_; have NB452_448 := n15_; clear n0_ n1_ n2_ n3_ n4_ n5_ n6_ n7_ n8_ n9_ n10_ n11_ n12_ n13_ n14_ n15_; clear hb hbox hg; have hnb98 := NB452_438.o; have hnc98 := NB438_452.o; have hnb99 := NB452_439.o; have hnc99 := NB439_452.o; have hnb100 := NB452_440.o; have hnc100 := NB440_452.o; have hnb101 := NB452_448.o; have hnc101 := NB448_452.o; obtain ⟨hcz102_0, hcz102_1⟩ := cz2 BK452.o; obtain ⟨hfz102_0, hfz102_1⟩ := fz2 BK452.o; obtain ⟨hcz103_0, hcz103_1⟩ := cz2 BK448.o; obtain ⟨hfz103_0, hfz103_1⟩ := fz2 BK448.o))
                  go_roundg k4
                  case measure => have := HJ4.out; have := HJ26.out; have := HJ57.out; have := HK4.o; omega
                  case rel => exact ⟨(wrap64 (x8_4 + 1)), (x440000_4), (x440001_4), (t449), (t450), (by first | rfl | (simp; done) | (simp [*]; done)), H', ⟨by have := HJ4.out; have := HJ26.out; have := HJ57.out; have := HK4.o; omega⟩, ⟨by (with_reducible repeat (first | refine zad ?_ _ | refine zab ?_ | refine zac ?_ _)); refine zam ?_ NB438_448.o _; (with_reducible repeat (first | refine zad ?_ _ | refine zab ?_ | refine zac ?_ _)); refine zam ?_ NB438_448.o _; (with_reducible repeat (first | refine zad ?_ _ | refine zab ?_ | refine zac ?_ _)); refine zam ?_ NB438_452.o _; (with_reducible repeat (first | refine zad ?_ _ | refine zab ?_ | refine zac ?_ _)); refine zam ?_ NB438_452.o _; (with_reducible repeat (first | refine zad ?_ _ | refine zab ?_ | refine zac ?_ _)); exact BK438.o⟩, ⟨by (with_reducible repeat (first | refine zad ?_ _ | refine zab ?_ | refine zac ?_ _)); refine zam ?_ NB439_448.o _; (with_reducible repeat (first | refine zad ?_ _ | refine zab ?_ | refine zac ?_ _)); refine zam ?_ NB439_448.o _; (with_reducible repeat (first | refine zad ?_ _ | refine zab ?_ | refine zac ?_ _)); refine zam ?_ NB439_452.o _; (with_reducible repeat (first | refine zad ?_ _ | refine zab ?_ | refine zac ?_ _)); refine zam ?_ NB439_452.o _; (with_reducible repeat (first | refine zad ?_ _ | refine zab ?_ | refine zac ?_ _)); exact BK439.o⟩, ⟨by (with_reducible repeat (first | refine zad ?_ _ | refine zab ?_ | refine zac ?_ _)); refine zam ?_ NB440_448.o _; (with_reducible repeat (first | refine zad ?_ _ | refine zab ?_ | refine zac ?_ _)); refine zam ?_ NB440_448.o _; (with_reducible repeat (first | refine zad ?_ _ | refine zab ?_ | refine zac ?_ _)); refine zam ?_ NB440_452.o _; (with_reducible repeat (first | refine zad ?_ _ | refine zab ?_ | refine zac ?_ _)); refine zam ?_ NB440_452.o _; (with_reducible repeat (first | refine zad ?_ _ | refine zab ?_ | refine zac ?_ _)); exact BK440.o⟩, ⟨by (with_reducible repeat (first | refine zad ?_ _ | refine zab ?_ | refine zac ?_ _)); refine zap (cs := #[.int .i64 t449, .int .i64 x449001_4]) ?_ 1 _ rfl; (with_reducible repeat (first | refine zad ?_ _ | refine zab ?_ | refine zac ?_ _)); refine zap (cs := #[.int .i64 x449000_4, .int .i64 x449001_4]) ?_ 0 _ rfl; (with_reducible repeat (first | refine zad ?_ _ | refine zab ?_ | refine zac ?_ _)); refine zam ?_ NB448_452.o _; (with_reducible repeat (first | refine zad ?_ _ | refine zab ?_ | refine zac ?_ _)); refine zam ?_ NB448_452.o _; (with_reducible repeat (first | refine zad ?_ _ | refine zab ?_ | refine zac ?_ _)); exact BK448.o⟩, ⟨by repeat (first | (with_reducible first | exact HB.o | apply zaf | apply zah | apply zag | refine zae ?_ GE438.o | refine zae ?_ GE439.o | refine zae ?_ GE440.o | refine zae ?_ GE448.o | refine zae ?_ GE452.o) | exact HB.o)⟩⟩
                 ·rw [if_neg c88] at H
                  have c88b0 : (t451 == 0) = false := beq_eq_false_iff_ne.mpr c88
                  have c88b1 : (t451 != 0) = true := bne_iff_ne.mpr c88
                  simp only [Option.some.injEq, Prod.mk.injEq] at H
                  obtain ⟨rfl, rfl, rfl⟩ := H
                  have hnb104 := NB448_438.o
                  have hnc104 := NB438_448.o
                  have hnb105 := NB448_439.o
                  have hnc105 := NB439_448.o
                  have hnb106 := NB448_440.o
                  have hnc106 := NB440_448.o
                  have hcz107_0 : wr.cell? ⟨gb448, 0, none⟩ = some (.int .i64 x449000_4) := (zaj BK448.o 0).trans rfl
                  have hcz107_1 : wr.cell? ⟨gb448, 1, none⟩ = some (.int .i64 x449001_4) := (zaj BK448.o 1).trans rfl
                  have hfz107_0 := zal BK448.o 0
                  have hfz107_1 := zal BK448.o 1
                  have hnb108 := NB438_439.o
                  have hnc108 := NB439_438.o
                  have hnb109 := NB438_440.o
                  have hnc109 := NB440_438.o
                  have hcz110_0 : wr.cell? ⟨gb438, 0, none⟩ = some (.int .i64 a0_0) := (zaj BK438.o 0).trans rfl
                  have hcz110_1 : wr.cell? ⟨gb438, 1, none⟩ = some (.int .i64 a0_1) := (zaj BK438.o 1).trans rfl
                  have hfz110_0 := zal BK438.o 0
                  have hfz110_1 := zal BK438.o 1
                  go_wp2_with (first | ((with_reducible refine zas (f := 33) rfl ?_); refine zat (some 83) rfl rfl Tryd.func33 (by kernel_rfl) rfl #[.agg #[.int .i64 x449000_4, .int .i64 x449001_4], .agg #[.int .i64 a0_0, .int .i64 a0_1]] rfl (by (try simp only [List.map_toArray, List.map_cons, List.map_nil]); first | done | rfl | (simp only [List.length_drop, List.length_take]; rfl)) ?_; (with_reducible refine (vinculumref02_Mul.calls k4 x449000_4 x449001_4 a0_0 a0_1 t449 t450 t451 _ A87.o).mono ?_); rintro e w111 ⟨rfl, hb⟩; refine ⟨_, rfl, ?_⟩; have n0_ := zaa.mk (zai (by (with_reducible repeat (first | refine zad ?_ _ | refine zab ?_ | refine zac ?_ _)); exact BK438.o) hb); have n1_ := zaa.mk (zai (by (with_reducible repeat (first | refine zad ?_ _ | refine zab ?_ | refine zac ?_ _)); exact BK439.o) hb); have n2_ := zaa.mk (zai (by (with_reducible repeat (first | refine zad ?_ _ | refine zab ?_ | refine zac ?_ _)); exact BK440.o) hb); have n3_ := zaa.mk (zai (by (with_reducible repeat (first | refine zad ?_ _ | refine zab ?_ | refine zac ?_ _)); exact BK448.o) hb); have n4_ := zaa.mk (zao (by repeat (first | (with_reducible first | exact HB.o | apply zaf | apply zah | apply zag | refine zae ?_ GE438.o | refine zae ?_ GE439.o | refine zae ?_ GE440.o | refine zae ?_ GE448.o) | exact HB.o)) hb); clear BK438; clear BK439; clear BK440; clear BK448; clear HB; have BK438 := n0_; have BK439 := n1_; have BK440 := n2_; have BK448 := n3_; have HB := n4_; clear n0_ n1_ n2_ n3_ n4_; (try clear hb); (try clear hb2); (try clear hk); (try clear hi)) | ((with_reducible refine zaq (N := 9) rfl ?_); refine zar ?hg (N := 9) ?hd (cs := #[.int .i64 0, .int .i64 0]) (t := 28) ?hr ?_; (case hd => rfl); (case hg => rfl); (case hr => first | (go_simp; done) | (go_simp; rfl)); intro gb452 hg w112 hbox hb; have n0_ := zaa.mk (zai (by (with_reducible repeat (first | refine zad ?_ _ | refine zab ?_ | refine zac ?_ _)); exact BK438.o) hb); have n1_ := zaa.mk (zai (by (with_reducible repeat (first | refine zad ?_ _ | refine zab ?_ | refine zac ?_ _)); exact BK439.o) hb); have n2_ := zaa.mk (zai (by (with_reducible repeat (first | refine zad ?_ _ | refine zab ?_ | refine zac ?_ _)); exact BK440.o) hb); have n3_ := zaa.mk (zai (by (with_reducible repeat (first | refine zad ?_ _ | refine zab ?_ | refine zac ?_ _)); exact BK448.o) hb); have n4_ := zaa.mk (zao (by repeat (first | (with_reducible first | exact HB.o | apply zaf | apply zah | apply zag | refine zae ?_ GE438.o | refine zae ?_ GE439.o | refine zae ?_ GE440.o | refine zae ?_ GE448.o) | exact HB.o)) hb); have n5_ := zaa.mk (hbox); have n6_ := zaa.mk ((by rw [hg]; exact (zan (by repeat (first | (with_reducible first | exact HB.o | apply zaf | apply zah | apply zag | refine zae ?_ GE438.o | refine zae ?_ GE439.o | refine zae ?_ GE440.o | refine zae ?_ GE448.o) | exact HB.o))) : w.heap.size ≤ gb452)); have n7_ := zaa.mk ((by rw [hg]; exact (zan (by repeat (first | (with_reducible first | exact HB.o | apply zaf | apply zah | apply zag | refine zae ?_ GE438.o | refine zae ?_ GE439.o | refine zae ?_ GE440.o | refine zae ?_ GE448.o) | exact HB.o))) : w.heap.size ≤ gb452)); have n8_ := zaa.mk ((by rw [hg]; exact Nat.ne_of_lt (zak (g := gb438) (o := .cells #[.int .i64 a0_0, .int .i64 a0_1] 28 (0, 0)) (by (with_reducible repeat (first | refine zad ?_ _ | refine zab ?_ | refine zac ?_ _)); exact BK438.o)) : gb438 ≠ gb452)); have n9_ := zaa.mk ((by rw [hg]; exact Nat.ne_of_gt (zak (g := gb438) (o := .cells #[.int .i64 a0_0, .int .i64 a0_1] 28 (0, 0)) (by (with_reducible repeat (first | refine zad ?_ _ | refine zab ?_ | refine zac ?_ _)); exact BK438.o)) : gb452 ≠ gb438)); have n10_ := zaa.mk ((by rw [hg]; exact Nat.ne_of_lt (zak (g := gb439) (o := .cells #[.int .i64 x440000_4, .int .i64 x440001_4] 28 (0, 0)) (by (with_reducible repeat (first | refine zad ?_ _ | refine zab ?_ | refine zac ?_ _)); exact BK439.o)) : gb439 ≠ gb452)); have n11_ := zaa.mk ((by rw [hg]; exact Nat.ne_of_gt (zak (g := gb439) (o := .cells #[.int .i64 x440000_4, .int .i64 x440001_4] 28 (0, 0)) (by (with_reducible repeat (first | refine zad ?_ _ | refine zab ?_ | refine zac ?_ _)); exact BK439.o)) : gb452 ≠ gb439)); have n12_ := zaa.mk ((by rw [hg]; exact Nat.ne_of_lt (zak (g := gb440) (o := .cells #[.int .i64 1, .int .i64 1] 28 (0, 0)) (by (with_reducible repeat (first | refine zad ?_ _ | refine zab ?_ | refine zac ?_ _)); exact BK440.o)) : gb440 ≠ gb452)); have n13_ := zaa.mk ((by rw [hg]; exact Nat.ne_of_gt (zak (g := gb440) (o := .cells #[.int .i64 1, .int .i64 1] 28 (0, 0)) (by (with_reducible repeat (first | refine zad ?_ _ | refine zab ?_ | refine zac ?_ _)); exact BK440.o)) : gb452 ≠ gb440)); have n14_ := zaa.mk ((by rw [hg]; exact Nat.ne_of_lt (zak (g := gb448) (o := .cells #[.int .i64 x449000_4, .int .i64 x449001_4] 28 (0, 0)) (by (with_reducible repeat (first | refine zad ?_ _ | refine zab ?_ | refine zac ?_ _)); exact BK448.o)) : gb448 ≠ gb452)); have n15_ := zaa.mk ((by rw [hg]; exact Nat.ne_of_gt (zak (g := gb448) (o := .cells #[.int .i64 x449000_4, .int .i64 x449001_4] 28 (0, 0)) (by (with_reducible repeat (first | refine zad ?_ _ | refine zab ?_ | refine zac ?_ _)); exact BK448.o)) : gb452 ≠ gb448)); clear BK438; clear BK439; clear BK440; clear BK448; clear HB; have BK438 := n0_; have BK439 := n1_; have BK440 := n2_; have BK448 := n3_; have HB := n4_; have BK452 := n5_; have GW452 := n6_; have GE452 := n7_; have NB438_452 := n8_; have NB452_438 := n9_; have NB439_452 := n10_; have NB452_439 := n11_; have NB440_452 := n12_; have NB452_440 := n13_; have NB448_452 := n14_; have NB452_448 := n15_; clear n0_ n1_ n2_ n3_ n4_ n5_ n6_ n7_ n8_ n9_ n10_ n11_ n12_ n13_ n14_ n15_; clear hb hbox hg; have hnb113 := NB452_438.o; have hnc113 := NB438_452.o; have hnb114 := NB452_439.o; have hnc114 := NB439_452.o; have hnb115 := NB452_440.o; have hnc115 := NB440_452.o; have hnb116 := NB452_448.o; have hnc116 := NB448_452.o; obtain ⟨hcz117_0, hcz117_1⟩ := cz2 BK452.o; obtain ⟨hfz117_0, hfz117_1⟩ := fz2 BK452.o; have hnb118 := NB439_440.o; have hnc118 := NB440_439.o; obtain ⟨hcz119_0, hcz119_1⟩ := cz2 BK439.o; obtain ⟨hfz119_0, hfz119_1⟩ := fz2 BK439.o))
                  refine bodyPost_ret (zaw rfl _ _ gb439 28 #[.int .i64 0, .int .i64 0] (0, 0) _ rfl (by (with_reducible repeat (first | refine zad ?_ _ | refine zab ?_ | refine zac ?_ _)); refine zap (cs := #[.int .i64 0, .int .i64 x440001_4]) ?_ 1 _ rfl; (with_reducible repeat (first | refine zad ?_ _ | refine zab ?_ | refine zac ?_ _)); refine zap (cs := #[.int .i64 x440000_4, .int .i64 x440001_4]) ?_ 0 _ rfl; (with_reducible repeat (first | refine zad ?_ _ | refine zab ?_ | refine zac ?_ _)); refine zam ?_ NB439_452.o _; (with_reducible repeat (first | refine zad ?_ _ | refine zab ?_ | refine zac ?_ _)); refine zam ?_ NB439_452.o _; (with_reducible repeat (first | refine zad ?_ _ | refine zab ?_ | refine zac ?_ _)); exact BK439.o) Tryd.underlying28 rfl (by kernel_rfl)) rfl ?_
                  exact ⟨by first | rfl | (simp [errW_none, errW_some] <;> rfl) | (simp [*, errW_none, errW_some] <;> rfl), by repeat (first | (with_reducible first | exact HB.o | apply zaf | apply zah | apply zag | refine zae ?_ GE438.o | refine zae ?_ GE439.o | refine zae ?_ GE440.o | refine zae ?_ GE448.o | refine zae ?_ GE452.o) | exact HB.o)⟩
                ·rw [if_neg c86] at H
                 have c86b0 : decide (x8_4 < a1) = false := decide_eq_false c86
                 clear c86
                 simp only [Option.some.injEq, Prod.mk.injEq] at H
                 obtain ⟨rfl, rfl, rfl⟩ := H
                 have hnb120 := NB448_438.o
                 have hnc120 := NB438_448.o
                 have hnb121 := NB448_439.o
                 have hnc121 := NB439_448.o
                 have hnb122 := NB448_440.o
                 have hnc122 := NB440_448.o
                 have hcz123_0 : wr.cell? ⟨gb448, 0, none⟩ = some (.int .i64 x449000_4) := (zaj BK448.o 0).trans rfl
                 have hcz123_1 : wr.cell? ⟨gb448, 1, none⟩ = some (.int .i64 x449001_4) := (zaj BK448.o 1).trans rfl
                 have hfz123_0 := zal BK448.o 0
                 have hfz123_1 := zal BK448.o 1
                 have hnb124 := NB439_438.o
                 have hnc124 := NB438_439.o
                 have hnb125 := NB439_440.o
                 have hnc125 := NB440_439.o
                 have hcz126_0 : wr.cell? ⟨gb439, 0, none⟩ = some (.int .i64 x440000_4) := (zaj BK439.o 0).trans rfl
                 have hcz126_1 : wr.cell? ⟨gb439, 1, none⟩ = some (.int .i64 x440001_4) := (zaj BK439.o 1).trans rfl
                 have hfz126_0 := zal BK439.o 0
                 have hfz126_1 := zal BK439.o 1
                 go_wp2
                 refine bodyPost_ret (zaw rfl _ _ gb439 28 #[.int .i64 x449000_4, .int .i64 x449001_4] (0, 0) _ rfl (by (with_reducible repeat (first | refine zad ?_ _ | refine zab ?_ | refine zac ?_ _)); refine zap (cs := #[.int .i64 x449000_4, .int .i64 x440001_4]) ?_ 1 _ rfl; (with_reducible repeat (first | refine zad ?_ _ | refine zab ?_ | refine zac ?_ _)); refine zap (cs := #[.int .i64 x440000_4, .int .i64 x440001_4]) ?_ 0 _ rfl; (with_reducible repeat (first | refine zad ?_ _ | refine zab ?_ | refine zac ?_ _)); exact BK439.o) Tryd.underlying28 rfl (by kernel_rfl)) rfl ?_
                 exact ⟨by first | rfl | (simp [errW_none, errW_some] <;> rfl) | (simp [*, errW_none, errW_some] <;> rfl), by repeat (first | (with_reducible first | exact HB.o | apply zaf | apply zah | apply zag | refine zae ?_ GE438.o | refine zae ?_ GE439.o | refine zae ?_ GE440.o | refine zae ?_ GE448.o) | exact HB.o)⟩
 ·replace c4 := Bool.eq_false_iff.mpr c4
  subst c4
  have H1 : (some (0, 0, 1)) = some (r1, r2, r3) := by rw [if_neg (show ¬ (false = true) by decide)] at H; exact H
  clear H
  have H := H1
  clear H1
  simp only [Option.some.injEq, Prod.mk.injEq] at H
  obtain ⟨rfl, rfl, rfl⟩ := H
  go_enter Tryd.func38, Tryd.ntmps38
  go_wp2_with (first | ((with_reducible refine zaq (N := 2) rfl ?_); refine zar ?hg (N := 2) ?hd (cs := #[.int .i64 a0_0, .int .i64 a0_1]) (t := 28) ?hr ?_; (case hd => rfl); (case hg => rfl); (case hr => first | (go_simp; done) | (go_simp; rfl)); intro gb438 hg w127 hbox hb; have n0_ := zaa.mk (zao (by repeat (first | (with_reducible first | exact HB.o | apply zaf | apply zah | apply zag) | exact HB.o)) hb); have n1_ := zaa.mk (hbox); have n2_ := zaa.mk ((by rw [hg]; exact (zan (by repeat (first | (with_reducible first | exact HB.o | apply zaf | apply zah | apply zag) | exact HB.o))) : w.heap.size ≤ gb438)); have n3_ := zaa.mk ((by rw [hg]; exact (zan (by repeat (first | (with_reducible first | exact HB.o | apply zaf | apply zah | apply zag) | exact HB.o))) : w.heap.size ≤ gb438)); clear HB; have HB := n0_; have BK438 := n1_; have GW438 := n2_; have GE438 := n3_; clear n0_ n1_ n2_ n3_; clear hb hbox hg) | ((with_reducible refine zaq (N := 4) rfl ?_); refine zar ?hg (N := 4) ?hd (cs := #[.int .i64 0, .int .i64 0]) (t := 28) ?hr ?_; (case hd => rfl); (case hg => rfl); (case hr => first | (go_simp; done) | (go_simp; rfl)); intro gb439 hg w128 hbox hb; have n0_ := zaa.mk (zai (by (with_reducible repeat (first | refine zad ?_ _ | refine zab ?_ | refine zac ?_ _)); exact BK438.o) hb); have n1_ := zaa.mk (zao (by repeat (first | (with_reducible first | exact HB.o | apply zaf | apply zah | apply zag | refine zae ?_ GE438.o) | exact HB.o)) hb); have n2_ := zaa.mk (hbox); have n3_ := zaa.mk ((by rw [hg]; exact (zan (by repeat (first | (with_reducible first | exact HB.o | apply zaf | apply zah | apply zag | refine zae ?_ GE438.o) | exact HB.o))) : w.heap.size ≤ gb439)); have n4_ := zaa.mk ((by rw [hg]; exact (zan (by repeat (first | (with_reducible first | exact HB.o | apply zaf | apply zah | apply zag | refine zae ?_ GE438.o) | exact HB.o))) : w.heap.size ≤ gb439)); have n5_ := zaa.mk ((by rw [hg]; exact Nat.ne_of_lt (zak (g := gb438) (o := .cells #[.int .i64 a0_0, .int .i64 a0_1] 28 (0, 0)) (by (with_reducible repeat (first | refine zad ?_ _ | refine zab ?_ | refine zac ?_ _)); exact BK438.o)) : gb438 ≠ gb439)); have n6_ := zaa.mk ((by rw [hg]; exact Nat.ne_of_gt (zak (g := gb438) (o := .cells #[.int .i64 a0_0, .int .i64 a0_1] 28 (0, 0)) (by (with_reducible repeat (first | refine zad ?_ _ | refine zab ?_ | refine zac ?_ _)); exact BK438.o)) : gb439 ≠ gb438)); clear BK438; clear HB; have BK438 := n0_; have HB := n1_; have BK439 := n2_; have GW439 := n3_; have GE439 := n4_; have NB438_439 := n5_; have NB439_438 := n6_; clear n0_ n1_ n2_ n3_ n4_ n5_ n6_; clear hb hbox hg) | ((with_reducible refine zaq (N := 6) rfl ?_); refine zar ?hg (N := 6) ?hd (cs := #[.int .i64 0, .int .i64 0]) (t := 28) ?hr ?_; (case hd => rfl); (case hg => rfl); (case hr => first | (go_simp; done) | (go_simp; rfl)); intro gb440 hg w129 hbox hb; have n0_ := zaa.mk (zai (by (with_reducible repeat (first | refine zad ?_ _ | refine zab ?_ | refine zac ?_ _)); exact BK438.o) hb); have n1_ := zaa.mk (zai (by (with_reducible repeat (first | refine zad ?_ _ | refine zab ?_ | refine zac ?_ _)); exact BK439.o) hb); have n2_ := zaa.mk (zao (by repeat (first | (with_reducible first | exact HB.o | apply zaf | apply zah | apply zag | refine zae ?_ GE438.o | refine zae ?_ GE439.o) | exact HB.o)) hb); have n3_ := zaa.mk (hbox); have n4_ := zaa.mk ((by rw [hg]; exact (zan (by repeat (first | (with_reducible first | exact HB.o | apply zaf | apply zah | apply zag | refine zae ?_ GE438.o | refine zae ?_ GE439.o) | exact HB.o))) : w.heap.size ≤ gb440)); have n5_ := zaa.mk ((by rw [hg]; exact (zan (by repeat (first | (with_reducible first | exact HB.o | apply zaf | apply zah | apply zag | refine zae ?_ GE438.o | refine zae ?_ GE439.o) | exact HB.o))) : w.heap.size ≤ gb440)); have n6_ := zaa.mk ((by rw [hg]; exact Nat.ne_of_lt (zak (g := gb438) (o := .cells #[.int .i64 a0_0, .int .i64 a0_1] 28 (0, 0)) (by (with_reducible repeat (first | refine zad ?_ _ | refine zab ?_ | refine zac ?_ _)); exact BK438.o)) : gb438 ≠ gb440)); have n7_ := zaa.mk ((by rw [hg]; exact Nat.ne_of_gt (zak (g := gb438) (o := .cells #[.int .i64 a0_0, .int .i64 a0_1] 28 (0, 0)) (by (with_reducible repeat (first | refine zad ?_ _ | refine zab ?_ | refine zac ?_ _)); exact BK438.o)) : gb440 ≠ gb438)); have n8_ := zaa.mk ((by rw [hg]; exact Nat.ne_of_lt (zak (g := gb439) (o := .cells #[.int .i64 0, .int .i64 0] 28 (0, 0)) (by (with_reducible repeat (first | refine zad ?_ _ | refine zab ?_ | refine zac ?_ _)); exact BK439.o)) : gb439 ≠ gb440)); have n9_ := zaa.mk ((by rw [hg]; exact Nat.ne_of_gt (zak (g := gb439) (o := .cells #[.int .i64 0, .int .i64 0] 28 (0, 0)) (by (with_reducible repeat (first | refine zad ?_ _ | refine zab ?_ | refine zac ?_ _)); exact BK439.o)) : gb440 ≠ gb439)); clear BK438; clear BK439; clear HB; have BK438 := n0_; have BK439 := n1_; have HB := n2_; have BK440 := n3_; have GW440 := n4_; have GE440 := n5_; have NB438_440 := n6_; have NB440_438 := n7_; have NB439_440 := n8_; have NB440_439 := n9_; clear n0_ n1_ n2_ n3_ n4_ n5_ n6_ n7_ n8_ n9_; clear hb hbox hg; have hnb130 := NB440_438.o; have hnc130 := NB438_440.o; have hnb131 := NB440_439.o; have hnc131 := NB439_440.o; obtain ⟨hcz132_0, hcz132_1⟩ := cz2 BK440.o; obtain ⟨hfz132_0, hfz132_1⟩ := fz2 BK440.o; have hnb133 := NB438_439.o; have hnc133 := NB439_438.o; obtain ⟨hcz134_0, hcz134_1⟩ := cz2 BK438.o; obtain ⟨hfz134_0, hfz134_1⟩ := fz2 BK438.o) | ((with_reducible refine zas (f := 19) rfl ?_); refine zat (some 14) rfl rfl Tryd.func19 (by kernel_rfl) rfl #[.agg #[.int .i64 a0_0, .int .i64 a0_1]] rfl (by (try simp only [List.map_toArray, List.map_cons, List.map_nil]); first | done | rfl | (simp only [List.length_drop, List.length_take]; rfl)) ?_; (with_reducible refine (vinculumref02_Valid.calls k a0_0 a0_1 false _ A3.o).mono ?_); rintro e w135 ⟨rfl, hb⟩; refine ⟨_, rfl, ?_⟩; have n0_ := zaa.mk (zai (g := gb438) (o := .cells #[.int .i64 a0_0, .int .i64 a0_1] 28 (0, 0)) (by (with_reducible repeat (first | refine zad ?_ _ | refine zab ?_ | refine zac ?_ _)); refine zam ?_ NB438_440.o _; (with_reducible repeat (first | refine zad ?_ _ | refine zab ?_ | refine zac ?_ _)); refine zam ?_ NB438_440.o _; (with_reducible repeat (first | refine zad ?_ _ | refine zab ?_ | refine zac ?_ _)); exact BK438.o) hb); have n1_ := zaa.mk (zai (g := gb439) (o := .cells #[.int .i64 0, .int .i64 0] 28 (0, 0)) (by (with_reducible repeat (first | refine zad ?_ _ | refine zab ?_ | refine zac ?_ _)); refine zam ?_ NB439_440.o _; (with_reducible repeat (first | refine zad ?_ _ | refine zab ?_ | refine zac ?_ _)); refine zam ?_ NB439_440.o _; (with_reducible repeat (first | refine zad ?_ _ | refine zab ?_ | refine zac ?_ _)); exact BK439.o) hb); have n2_ := zaa.mk (zai (g := gb440) (o := .cells #[.int .i64 1, .int .i64 1] 28 (0, 0)) (by (with_reducible repeat (first | refine zad ?_ _ | refine zab ?_ | refine zac ?_ _)); refine zap (cs := #[.int .i64 1, .int .i64 0]) ?_ 1 _ rfl; (with_reducible repeat (first | refine zad ?_ _ | refine zab ?_ | refine zac ?_ _)); refine zap (cs := #[.int .i64 0, .int .i64 0]) ?_ 0 _ rfl; (with_reducible repeat (first | refine zad ?_ _ | refine zab ?_ | refine zac ?_ _)); exact BK440.o) hb); have n3_ := zaa.mk (zao (by repeat (first | (with_reducible first | exact HB.o | apply zaf | apply zah | apply zag | refine zae ?_ GE438.o | refine zae ?_ GE439.o | refine zae ?_ GE440.o) | exact HB.o)) hb); clear BK438; clear BK439; clear BK440; clear HB; have BK438 := n0_; have BK439 := n1_; have BK440 := n2_; have HB := n3_; clear n0_ n1_ n2_ n3_; (try clear hb); (try clear hb2); (try clear hk); (try clear hi); obtain ⟨hcz136_0, hcz136_1⟩ := cz2 BK439.o; obtain ⟨hfz136_0, hfz136_1⟩ := fz2 BK439.o))
  refine bodyPost_ret (zaw rfl _ _ gb439 28 #[.int .i64 0, .int .i64 0] (0, 0) _ rfl (by (with_reducible repeat (first | refine zad ?_ _ | refine zab ?_ | refine zac ?_ _)); refine zap (cs := #[.int .i64 0, .int .i64 0]) ?_ 1 _ rfl; (with_reducible repeat (first | refine zad ?_ _ | refine zab ?_ | refine zac ?_ _)); refine zap (cs := #[.int .i64 0, .int .i64 0]) ?_ 0 _ rfl; (with_reducible repeat (first | refine zad ?_ _ | refine zab ?_ | refine zac ?_ _)); exact BK439.o) Tryd.underlying28 rfl (by kernel_rfl)) rfl ?_
  exact ⟨by first | rfl | (simp [errW_none, errW_some] <;> rfl) | (simp [*, errW_none, errW_some] <;> rfl), by repeat (first | (with_reducible first | exact HB.o | apply zaf | apply zah | apply zag | refine zae ?_ GE438.o | refine zae ?_ GE439.o | refine zae ?_ GE440.o) | exact HB.o)⟩

end Go.Proofs.YtoieknocpphjoaaDoor.P
