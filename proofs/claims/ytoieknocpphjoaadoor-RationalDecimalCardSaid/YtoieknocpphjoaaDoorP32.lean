--m
/- Written by wip/tool/hprint.py (the kit's print.py with hand-proved contracts set in): contracts of the functions that the statements of this seat reach, without conditions beyond those named in each theorem. -/
import Derived.Test.YtoieknocpphjoaaDoorP0
import Derived.Test.YtoieknocpphjoaaDoorP15
namespace Go.Proofs.YtoieknocpphjoaaDoor.P
open Go.RowKit Go.Proofs.YtoieknocpphjoaaDoorW.PrintWords Go.Proofs.YtoieknocpphjoaaDoorW.PrintLast Go.Proofs.YtoieknocpphjoaaDoorW.PrintMore
attribute [local go_sem] zay zaz zaA zaB zaC zaD zaE zaF   -- for this text's walks alone
set_option linter.unusedVariables false
set_option linter.unusedSimpArgs false

/-! ### vinculumref02_Cmp: function 32 -/
def vinculumref02_Cmp.j0 : Nat → Bool → Int → Int → Int → Int → Option (Int × Int)
 | 0, _, _, _, _, _ => none
 | k + 1, x15, x314000, x314001, x315000, x315001 => if x15 = true then (some (0, 1)) else (if (wrap64 (x314000 * x315001)) < (wrap64 (x315000 * x314001)) then (some ((-1), 0)) else (if (wrap64 (x314000 * x315001)) > (wrap64 (x315000 * x314001)) then (some (1, 0)) else (some (0, 0))))
def vinculumref02_Cmp.f (k : Nat) (a0_0 : Int) (a0_1 : Int) (a1_0 : Int) (a1_1 : Int) : Option (Int × Int) := (vinculumref02_Valid.f k a0_0 a0_1).bind fun t315 => (if t315 = true then ((vinculumref02_Valid.f k a1_0 a1_1).bind fun t316 => (vinculumref02_Cmp.j0 k (!t316) a0_0 a0_1 a1_0 a1_1)) else (vinculumref02_Cmp.j0 k true a0_0 a0_1 a1_0 a1_1))
theorem vinculumref02_Cmp.mono_l : ∀ k, (∀ y0 y1 y2 y3 y4, LeO (vinculumref02_Cmp.j0 k y0 y1 y2 y3 y4) (vinculumref02_Cmp.j0 (k + 1) y0 y1 y2 y3 y4))
 | 0 => fun _ _ _ _ _ r h => by simp [vinculumref02_Cmp.j0] at h
 | k + 1 => by
  have ih0 := vinculumref02_Cmp.mono_l k
  ·intro y0 y1 y2 y3 y4
   unfold vinculumref02_Cmp.j0
   repeat' first
   | (with_reducible exact ih0 _ _ _ _ _)
   | (with_reducible exact vinculumref02_Valid.mono _ _ _)
   | (with_reducible exact LeO.refl _)
   | (with_reducible exact LeO.none _)
   | (with_reducible refine LeO.ite ?_ ?_)
   | (with_reducible refine LeO.bind ?_ (fun _ => ?_))
   | exact ih0 _ _ _ _ _
   | exact vinculumref02_Valid.mono _ _ _
   | exact LeO.none _
   | refine LeO.ite ?_ ?_
   | refine LeO.bind ?_ (fun _ => ?_)
theorem vinculumref02_Cmp.mono : ∀ a0 a1 a2 a3 k, LeO (vinculumref02_Cmp.f k a0 a1 a2 a3) (vinculumref02_Cmp.f (k + 1) a0 a1 a2 a3) := by
 intro a0 a1 a2 a3 k
 have ih0 := vinculumref02_Cmp.mono_l k
 unfold vinculumref02_Cmp.f
 repeat' first
   | (with_reducible exact ih0 _ _ _ _ _)
   | (with_reducible exact vinculumref02_Valid.mono _ _ _)
   | (with_reducible exact LeO.refl _)
   | (with_reducible exact LeO.none _)
   | (with_reducible refine LeO.ite ?_ ?_)
   | (with_reducible refine LeO.bind ?_ (fun _ => ?_))
   | exact ih0 _ _ _ _ _
   | exact vinculumref02_Valid.mono _ _ _
   | exact LeO.none _
   | refine LeO.ite ?_ ?_
   | refine LeO.bind ?_ (fun _ => ?_)
set_option maxHeartbeats 8000000 in
set_option maxRecDepth 100000 in
theorem vinculumref02_Cmp.calls (k : Nat) (a0_0 : Int) (a0_1 : Int) (a1_0 : Int) (a1_1 : Int) (r1 : Int) (r2 : Int) (w : World) (h : vinculumref02_Cmp.f k a0_0 a0_1 a1_0 a1_1 = some (r1, r2)) :
  Calls Tryd.prog 32 #[.agg #[.int .i64 a0_0, .int .i64 a0_1], .agg #[.int .i64 a1_0, .int .i64 a1_1]] w fun e w' => e = .returned (.tuple #[.int .i64 r1, .int .i64 r2]) ∧ Below w.heap.size w w' := by
 have hu28 := Tryd.underlying28
 have HB := zaa.mk (Below.refl w.heap.size w)
 have H : ((vinculumref02_Valid.f k a0_0 a0_1).bind fun t315 => (if t315 = true then ((vinculumref02_Valid.f k a1_0 a1_1).bind fun t316 => (vinculumref02_Cmp.j0 k (!t316) a0_0 a0_1 a1_0 a1_1)) else (vinculumref02_Cmp.j0 k true a0_0 a0_1 a1_0 a1_1))) = some (r1, r2) := h
 clear h
 have HC3 := zaa.mk H
 clear H
 go_enter Tryd.func32, Tryd.ntmps32
 go_upto_region 1 with (first | ((with_reducible refine zaq (N := 2) rfl ?_); refine zar ?hg (N := 2) ?hd (cs := #[.int .i64 a0_0, .int .i64 a0_1]) (t := 28) ?hr ?_; (case hd => rfl); (case hg => rfl); (case hr => first | (go_simp; done) | (go_simp; rfl)); intro gb313 hg w4 hbox hb; have n0_ := zaa.mk (zao (by repeat (first | (with_reducible first | exact HB.o | apply zaf | apply zah | apply zag) | exact HB.o)) hb); have n1_ := zaa.mk (hbox); have n2_ := zaa.mk ((by rw [hg]; exact (zan (by repeat (first | (with_reducible first | exact HB.o | apply zaf | apply zah | apply zag) | exact HB.o))) : w.heap.size ≤ gb313)); have n3_ := zaa.mk ((by rw [hg]; exact (zan (by repeat (first | (with_reducible first | exact HB.o | apply zaf | apply zah | apply zag) | exact HB.o))) : w.heap.size ≤ gb313)); clear HB; have HB := n0_; have BK313 := n1_; have GW313 := n2_; have GE313 := n3_; clear n0_ n1_ n2_ n3_; clear hb hbox hg) | ((with_reducible refine zaq (N := 3) rfl ?_); refine zar ?hg (N := 3) ?hd (cs := #[.int .i64 a1_0, .int .i64 a1_1]) (t := 28) ?hr ?_; (case hd => rfl); (case hg => rfl); (case hr => first | (go_simp; done) | (go_simp; rfl)); intro gb314 hg w5 hbox hb; have n0_ := zaa.mk (zaj (by (with_reducible repeat (first | refine zad ?_ _ | refine zab ?_ | refine zac ?_ _)); exact BK313.o) hb); have n1_ := zaa.mk (zao (by repeat (first | (with_reducible first | exact HB.o | apply zaf | apply zah | apply zag | refine zae ?_ GE313.o) | exact HB.o)) hb); have n2_ := zaa.mk (hbox); have n3_ := zaa.mk ((by rw [hg]; exact (zan (by repeat (first | (with_reducible first | exact HB.o | apply zaf | apply zah | apply zag | refine zae ?_ GE313.o) | exact HB.o))) : w.heap.size ≤ gb314)); have n4_ := zaa.mk ((by rw [hg]; exact (zan (by repeat (first | (with_reducible first | exact HB.o | apply zaf | apply zah | apply zag | refine zae ?_ GE313.o) | exact HB.o))) : w.heap.size ≤ gb314)); have n5_ := zaa.mk ((by rw [hg]; exact Nat.ne_of_lt (zal (g := gb313) (o := .cells #[.int .i64 a0_0, .int .i64 a0_1] 28 (0, 0)) (by (with_reducible repeat (first | refine zad ?_ _ | refine zab ?_ | refine zac ?_ _)); exact BK313.o)) : gb313 ≠ gb314)); have n6_ := zaa.mk ((by rw [hg]; exact Nat.ne_of_gt (zal (g := gb313) (o := .cells #[.int .i64 a0_0, .int .i64 a0_1] 28 (0, 0)) (by (with_reducible repeat (first | refine zad ?_ _ | refine zab ?_ | refine zac ?_ _)); exact BK313.o)) : gb314 ≠ gb313)); clear BK313; clear HB; have BK313 := n0_; have HB := n1_; have BK314 := n2_; have GW314 := n3_; have GE314 := n4_; have NB313_314 := n5_; have NB314_313 := n6_; clear n0_ n1_ n2_ n3_ n4_ n5_ n6_; clear hb hbox hg))
 repeat (go_quiet (first | ((with_reducible refine zaq (N := 2) rfl ?_); refine zar ?hg (N := 2) ?hd (cs := #[.int .i64 a0_0, .int .i64 a0_1]) (t := 28) ?hr ?_; (case hd => rfl); (case hg => rfl); (case hr => first | (go_simp; done) | (go_simp; rfl)); intro gb313 hg w4 hbox hb; have n0_ := zaa.mk (zao (by repeat (first | (with_reducible first | exact HB.o | apply zaf | apply zah | apply zag) | exact HB.o)) hb); have n1_ := zaa.mk (hbox); have n2_ := zaa.mk ((by rw [hg]; exact (zan (by repeat (first | (with_reducible first | exact HB.o | apply zaf | apply zah | apply zag) | exact HB.o))) : w.heap.size ≤ gb313)); have n3_ := zaa.mk ((by rw [hg]; exact (zan (by repeat (first | (with_reducible first | exact HB.o | apply zaf | apply zah | apply zag) | exact HB.o))) : w.heap.size ≤ gb313)); clear HB; have HB := n0_; have BK313 := n1_; have GW313 := n2_; have GE313 := n3_; clear n0_ n1_ n2_ n3_; clear hb hbox hg) | ((with_reducible refine zaq (N := 3) rfl ?_); refine zar ?hg (N := 3) ?hd (cs := #[.int .i64 a1_0, .int .i64 a1_1]) (t := 28) ?hr ?_; (case hd => rfl); (case hg => rfl); (case hr => first | (go_simp; done) | (go_simp; rfl)); intro gb314 hg w5 hbox hb; have n0_ := zaa.mk (zaj (by (with_reducible repeat (first | refine zad ?_ _ | refine zab ?_ | refine zac ?_ _)); exact BK313.o) hb); have n1_ := zaa.mk (zao (by repeat (first | (with_reducible first | exact HB.o | apply zaf | apply zah | apply zag | refine zae ?_ GE313.o) | exact HB.o)) hb); have n2_ := zaa.mk (hbox); have n3_ := zaa.mk ((by rw [hg]; exact (zan (by repeat (first | (with_reducible first | exact HB.o | apply zaf | apply zah | apply zag | refine zae ?_ GE313.o) | exact HB.o))) : w.heap.size ≤ gb314)); have n4_ := zaa.mk ((by rw [hg]; exact (zan (by repeat (first | (with_reducible first | exact HB.o | apply zaf | apply zah | apply zag | refine zae ?_ GE313.o) | exact HB.o))) : w.heap.size ≤ gb314)); have n5_ := zaa.mk ((by rw [hg]; exact Nat.ne_of_lt (zal (g := gb313) (o := .cells #[.int .i64 a0_0, .int .i64 a0_1] 28 (0, 0)) (by (with_reducible repeat (first | refine zad ?_ _ | refine zab ?_ | refine zac ?_ _)); exact BK313.o)) : gb313 ≠ gb314)); have n6_ := zaa.mk ((by rw [hg]; exact Nat.ne_of_gt (zal (g := gb313) (o := .cells #[.int .i64 a0_0, .int .i64 a0_1] 28 (0, 0)) (by (with_reducible repeat (first | refine zad ?_ _ | refine zab ?_ | refine zac ?_ _)); exact BK313.o)) : gb314 ≠ gb313)); clear BK313; clear HB; have BK313 := n0_; have HB := n1_; have BK314 := n2_; have GW314 := n3_; have GE314 := n4_; have NB313_314 := n5_; have NB314_313 := n6_; clear n0_ n1_ n2_ n3_ n4_ n5_ n6_; clear hb hbox hg)); go_upto_region 1 with (first | ((with_reducible refine zaq (N := 2) rfl ?_); refine zar ?hg (N := 2) ?hd (cs := #[.int .i64 a0_0, .int .i64 a0_1]) (t := 28) ?hr ?_; (case hd => rfl); (case hg => rfl); (case hr => first | (go_simp; done) | (go_simp; rfl)); intro gb313 hg w4 hbox hb; have n0_ := zaa.mk (zao (by repeat (first | (with_reducible first | exact HB.o | apply zaf | apply zah | apply zag) | exact HB.o)) hb); have n1_ := zaa.mk (hbox); have n2_ := zaa.mk ((by rw [hg]; exact (zan (by repeat (first | (with_reducible first | exact HB.o | apply zaf | apply zah | apply zag) | exact HB.o))) : w.heap.size ≤ gb313)); have n3_ := zaa.mk ((by rw [hg]; exact (zan (by repeat (first | (with_reducible first | exact HB.o | apply zaf | apply zah | apply zag) | exact HB.o))) : w.heap.size ≤ gb313)); clear HB; have HB := n0_; have BK313 := n1_; have GW313 := n2_; have GE313 := n3_; clear n0_ n1_ n2_ n3_; clear hb hbox hg) | ((with_reducible refine zaq (N := 3) rfl ?_); refine zar ?hg (N := 3) ?hd (cs := #[.int .i64 a1_0, .int .i64 a1_1]) (t := 28) ?hr ?_; (case hd => rfl); (case hg => rfl); (case hr => first | (go_simp; done) | (go_simp; rfl)); intro gb314 hg w5 hbox hb; have n0_ := zaa.mk (zaj (by (with_reducible repeat (first | refine zad ?_ _ | refine zab ?_ | refine zac ?_ _)); exact BK313.o) hb); have n1_ := zaa.mk (zao (by repeat (first | (with_reducible first | exact HB.o | apply zaf | apply zah | apply zag | refine zae ?_ GE313.o) | exact HB.o)) hb); have n2_ := zaa.mk (hbox); have n3_ := zaa.mk ((by rw [hg]; exact (zan (by repeat (first | (with_reducible first | exact HB.o | apply zaf | apply zah | apply zag | refine zae ?_ GE313.o) | exact HB.o))) : w.heap.size ≤ gb314)); have n4_ := zaa.mk ((by rw [hg]; exact (zan (by repeat (first | (with_reducible first | exact HB.o | apply zaf | apply zah | apply zag | refine zae ?_ GE313.o) | exact HB.o))) : w.heap.size ≤ gb314)); have n5_ := zaa.mk ((by rw [hg]; exact Nat.ne_of_lt (zal (g := gb313) (o := .cells #[.int .i64 a0_0, .int .i64 a0_1] 28 (0, 0)) (by (with_reducible repeat (first | refine zad ?_ _ | refine zab ?_ | refine zac ?_ _)); exact BK313.o)) : gb313 ≠ gb314)); have n6_ := zaa.mk ((by rw [hg]; exact Nat.ne_of_gt (zal (g := gb313) (o := .cells #[.int .i64 a0_0, .int .i64 a0_1] 28 (0, 0)) (by (with_reducible repeat (first | refine zad ?_ _ | refine zab ?_ | refine zac ?_ _)); exact BK313.o)) : gb314 ≠ gb313)); clear BK313; clear HB; have BK313 := n0_; have HB := n1_; have BK314 := n2_; have GW314 := n3_; have GE314 := n4_; have NB313_314 := n5_; have NB314_313 := n6_; clear n0_ n1_ n2_ n3_ n4_ n5_ n6_; clear hb hbox hg)))
 (try simp only [Act.put, List.setIfInBounds_toArray, List.set_cons_zero, List.set_cons_succ])
 go_cut [15] (fun v15 wc => ∃ (kq : Nat) (x15_2 : Bool), v15 = .bool x15_2 ∧ zaa (vinculumref02_Cmp.j0 kq x15_2 a0_0 a0_1 a1_0 a1_1 = some (r1, r2)) ∧ zaa (kq ≤ k) ∧ zaa (wc.heap[gb313]? = some (.cells #[.int .i64 a0_0, .int .i64 a0_1] 28 (0, 0))) ∧ zaa (wc.heap[gb314]? = some (.cells #[.int .i64 a1_0, .int .i64 a1_1] 28 (0, 0))) ∧ zaa (Below w.heap.size w wc))
 case first =>
  have H := HC3.out
  clear HC3
  replace H := Option.bind_eq_some_iff.mp H
  obtain ⟨t315, A60, H⟩ := H
  replace H : (if t315 = true then ((vinculumref02_Valid.f k a1_0 a1_1).bind fun t316 => (vinculumref02_Cmp.j0 k (!t316) a0_0 a0_1 a1_0 a1_1)) else (vinculumref02_Cmp.j0 k true a0_0 a0_1 a1_0 a1_1)) = some (r1, r2) := H
  have A6 := zaa.mk A60
  clear A60
  by_cases c7 : t315 = true
  ·subst c7
   have H1 : ((vinculumref02_Valid.f k a1_0 a1_1).bind fun t316 => (vinculumref02_Cmp.j0 k (!t316) a0_0 a0_1 a1_0 a1_1)) = some (r1, r2) := by rw [if_pos rfl] at H; exact H
   clear H
   have H := H1
   clear H1
   replace H := Option.bind_eq_some_iff.mp H
   obtain ⟨t316, A80, H⟩ := H
   replace H : (vinculumref02_Cmp.j0 k (!t316) a0_0 a0_1 a1_0 a1_1) = some (r1, r2) := H
   have A8 := zaa.mk A80
   clear A80
   have H' := zaa.mk H
   clear H
   have hnb9 := NB313_314.o
   have hnc9 := NB314_313.o
   have hcz10_0 : w5.cell? ⟨gb313, 0, none⟩ = some (.int .i64 a0_0) := (zai BK313.o 0).trans rfl
   have hcz10_1 : w5.cell? ⟨gb313, 1, none⟩ = some (.int .i64 a0_1) := (zai BK313.o 1).trans rfl
   have hfz10_0 := zak BK313.o 0
   have hfz10_1 := zak BK313.o 1
   go_wp2_with (first | (go_at_call 19; (with_reducible refine (vinculumref02_Valid.calls k a0_0 a0_1 true _ A6.o).mono ?_); rintro e w11 ⟨rfl, hb⟩; have n0_ := zaa.mk (zaj (by (with_reducible repeat (first | refine zad ?_ _ | refine zab ?_ | refine zac ?_ _)); exact BK313.o) hb); have n1_ := zaa.mk (zaj (by (with_reducible repeat (first | refine zad ?_ _ | refine zab ?_ | refine zac ?_ _)); exact BK314.o) hb); have n2_ := zaa.mk (zao (by repeat (first | (with_reducible first | exact HB.o | apply zaf | apply zah | apply zag | refine zae ?_ GE313.o | refine zae ?_ GE314.o) | exact HB.o)) hb); clear BK313; clear BK314; clear HB; have BK313 := n0_; have BK314 := n1_; have HB := n2_; clear n0_ n1_ n2_; (try clear hb); (try clear hb2); (try clear hk); (try clear hi); obtain ⟨hcz12_0, hcz12_1⟩ := cz2 BK314.o; obtain ⟨hfz12_0, hfz12_1⟩ := fz2 BK314.o) | (go_at_call 19; (with_reducible refine (vinculumref02_Valid.calls k a1_0 a1_1 t316 _ A8.o).mono ?_); rintro e w13 ⟨rfl, hb⟩; have n0_ := zaa.mk (zaj (by (with_reducible repeat (first | refine zad ?_ _ | refine zab ?_ | refine zac ?_ _)); exact BK313.o) hb); have n1_ := zaa.mk (zaj (by (with_reducible repeat (first | refine zad ?_ _ | refine zab ?_ | refine zac ?_ _)); exact BK314.o) hb); have n2_ := zaa.mk (zao (by repeat (first | (with_reducible first | exact HB.o | apply zaf | apply zah | apply zag | refine zae ?_ GE313.o | refine zae ?_ GE314.o) | exact HB.o)) hb); clear BK313; clear BK314; clear HB; have BK313 := n0_; have BK314 := n1_; have HB := n2_; clear n0_ n1_ n2_; (try clear hb); (try clear hb2); (try clear hk); (try clear hi)))
   repeat (go_quiet (first | (go_at_call 19; (with_reducible refine (vinculumref02_Valid.calls k a0_0 a0_1 true _ A6.o).mono ?_); rintro e w11 ⟨rfl, hb⟩; have n0_ := zaa.mk (zaj (by (with_reducible repeat (first | refine zad ?_ _ | refine zab ?_ | refine zac ?_ _)); exact BK313.o) hb); have n1_ := zaa.mk (zaj (by (with_reducible repeat (first | refine zad ?_ _ | refine zab ?_ | refine zac ?_ _)); exact BK314.o) hb); have n2_ := zaa.mk (zao (by repeat (first | (with_reducible first | exact HB.o | apply zaf | apply zah | apply zag | refine zae ?_ GE313.o | refine zae ?_ GE314.o) | exact HB.o)) hb); clear BK313; clear BK314; clear HB; have BK313 := n0_; have BK314 := n1_; have HB := n2_; clear n0_ n1_ n2_; (try clear hb); (try clear hb2); (try clear hk); (try clear hi); obtain ⟨hcz12_0, hcz12_1⟩ := cz2 BK314.o; obtain ⟨hfz12_0, hfz12_1⟩ := fz2 BK314.o) | (go_at_call 19; (with_reducible refine (vinculumref02_Valid.calls k a1_0 a1_1 t316 _ A8.o).mono ?_); rintro e w13 ⟨rfl, hb⟩; have n0_ := zaa.mk (zaj (by (with_reducible repeat (first | refine zad ?_ _ | refine zab ?_ | refine zac ?_ _)); exact BK313.o) hb); have n1_ := zaa.mk (zaj (by (with_reducible repeat (first | refine zad ?_ _ | refine zab ?_ | refine zac ?_ _)); exact BK314.o) hb); have n2_ := zaa.mk (zao (by repeat (first | (with_reducible first | exact HB.o | apply zaf | apply zah | apply zag | refine zae ?_ GE313.o | refine zae ?_ GE314.o) | exact HB.o)) hb); clear BK313; clear BK314; clear HB; have BK313 := n0_; have BK314 := n1_; have HB := n2_; clear n0_ n1_ n2_; (try clear hb); (try clear hb2); (try clear hk); (try clear hi))); try go_wp2_with (first | (go_at_call 19; (with_reducible refine (vinculumref02_Valid.calls k a0_0 a0_1 true _ A6.o).mono ?_); rintro e w11 ⟨rfl, hb⟩; have n0_ := zaa.mk (zaj (by (with_reducible repeat (first | refine zad ?_ _ | refine zab ?_ | refine zac ?_ _)); exact BK313.o) hb); have n1_ := zaa.mk (zaj (by (with_reducible repeat (first | refine zad ?_ _ | refine zab ?_ | refine zac ?_ _)); exact BK314.o) hb); have n2_ := zaa.mk (zao (by repeat (first | (with_reducible first | exact HB.o | apply zaf | apply zah | apply zag | refine zae ?_ GE313.o | refine zae ?_ GE314.o) | exact HB.o)) hb); clear BK313; clear BK314; clear HB; have BK313 := n0_; have BK314 := n1_; have HB := n2_; clear n0_ n1_ n2_; (try clear hb); (try clear hb2); (try clear hk); (try clear hi); obtain ⟨hcz12_0, hcz12_1⟩ := cz2 BK314.o; obtain ⟨hfz12_0, hfz12_1⟩ := fz2 BK314.o) | (go_at_call 19; (with_reducible refine (vinculumref02_Valid.calls k a1_0 a1_1 t316 _ A8.o).mono ?_); rintro e w13 ⟨rfl, hb⟩; have n0_ := zaa.mk (zaj (by (with_reducible repeat (first | refine zad ?_ _ | refine zab ?_ | refine zac ?_ _)); exact BK313.o) hb); have n1_ := zaa.mk (zaj (by (with_reducible repeat (first | refine zad ?_ _ | refine zab ?_ | refine zac ?_ _)); exact BK314.o) hb); have n2_ := zaa.mk (zao (by repeat (first | (with_reducible first | exact HB.o | apply zaf | apply zah | apply zag | refine zae ?_ GE313.o | refine zae ?_ GE314.o) | exact HB.o)) hb); clear BK313; clear BK314; clear HB; have BK313 := n0_; have BK314 := n1_; have HB := n2_; clear n0_ n1_ n2_; (try clear hb); (try clear hb2); (try clear hk); (try clear hi))))
   go_meet
   case rel => exact ⟨_, (!t316), (by first | rfl | (simp; done) | (simp [*]; done)), H', ⟨by first | omega | exact Nat.le_refl _⟩, ⟨by (with_reducible repeat (first | refine zad ?_ _ | refine zab ?_ | refine zac ?_ _)); exact BK313.o⟩, ⟨by (with_reducible repeat (first | refine zad ?_ _ | refine zab ?_ | refine zac ?_ _)); exact BK314.o⟩, ⟨by repeat (first | (with_reducible first | exact HB.o | apply zaf | apply zah | apply zag | refine zae ?_ GE313.o | refine zae ?_ GE314.o) | exact HB.o)⟩⟩
  ·replace c7 := Bool.eq_false_iff.mpr c7
   subst c7
   have H1 : (vinculumref02_Cmp.j0 k true a0_0 a0_1 a1_0 a1_1) = some (r1, r2) := by rw [if_neg (show ¬ (false = true) by decide)] at H; exact H
   clear H
   have H := H1
   clear H1
   have H' := zaa.mk H
   clear H
   have hnb14 := NB313_314.o
   have hnc14 := NB314_313.o
   have hcz15_0 : w5.cell? ⟨gb313, 0, none⟩ = some (.int .i64 a0_0) := (zai BK313.o 0).trans rfl
   have hcz15_1 : w5.cell? ⟨gb313, 1, none⟩ = some (.int .i64 a0_1) := (zai BK313.o 1).trans rfl
   have hfz15_0 := zak BK313.o 0
   have hfz15_1 := zak BK313.o 1
   go_wp2_with (first | (go_at_call 19; (with_reducible refine (vinculumref02_Valid.calls k a0_0 a0_1 false _ A6.o).mono ?_); rintro e w16 ⟨rfl, hb⟩; have n0_ := zaa.mk (zaj (by (with_reducible repeat (first | refine zad ?_ _ | refine zab ?_ | refine zac ?_ _)); exact BK313.o) hb); have n1_ := zaa.mk (zaj (by (with_reducible repeat (first | refine zad ?_ _ | refine zab ?_ | refine zac ?_ _)); exact BK314.o) hb); have n2_ := zaa.mk (zao (by repeat (first | (with_reducible first | exact HB.o | apply zaf | apply zah | apply zag | refine zae ?_ GE313.o | refine zae ?_ GE314.o) | exact HB.o)) hb); clear BK313; clear BK314; clear HB; have BK313 := n0_; have BK314 := n1_; have HB := n2_; clear n0_ n1_ n2_; (try clear hb); (try clear hb2); (try clear hk); (try clear hi)))
   repeat (go_quiet (first | (go_at_call 19; (with_reducible refine (vinculumref02_Valid.calls k a0_0 a0_1 false _ A6.o).mono ?_); rintro e w16 ⟨rfl, hb⟩; have n0_ := zaa.mk (zaj (by (with_reducible repeat (first | refine zad ?_ _ | refine zab ?_ | refine zac ?_ _)); exact BK313.o) hb); have n1_ := zaa.mk (zaj (by (with_reducible repeat (first | refine zad ?_ _ | refine zab ?_ | refine zac ?_ _)); exact BK314.o) hb); have n2_ := zaa.mk (zao (by repeat (first | (with_reducible first | exact HB.o | apply zaf | apply zah | apply zag | refine zae ?_ GE313.o | refine zae ?_ GE314.o) | exact HB.o)) hb); clear BK313; clear BK314; clear HB; have BK313 := n0_; have BK314 := n1_; have HB := n2_; clear n0_ n1_ n2_; (try clear hb); (try clear hb2); (try clear hk); (try clear hi))); try go_wp2_with (first | (go_at_call 19; (with_reducible refine (vinculumref02_Valid.calls k a0_0 a0_1 false _ A6.o).mono ?_); rintro e w16 ⟨rfl, hb⟩; have n0_ := zaa.mk (zaj (by (with_reducible repeat (first | refine zad ?_ _ | refine zab ?_ | refine zac ?_ _)); exact BK313.o) hb); have n1_ := zaa.mk (zaj (by (with_reducible repeat (first | refine zad ?_ _ | refine zab ?_ | refine zac ?_ _)); exact BK314.o) hb); have n2_ := zaa.mk (zao (by repeat (first | (with_reducible first | exact HB.o | apply zaf | apply zah | apply zag | refine zae ?_ GE313.o | refine zae ?_ GE314.o) | exact HB.o)) hb); clear BK313; clear BK314; clear HB; have BK313 := n0_; have BK314 := n1_; have HB := n2_; clear n0_ n1_ n2_; (try clear hb); (try clear hb2); (try clear hk); (try clear hi))))
   go_meet
   case rel => exact ⟨_, (true), (by first | rfl | (simp; done) | (simp [*]; done)), H', ⟨by first | omega | exact Nat.le_refl _⟩, ⟨by (with_reducible repeat (first | refine zad ?_ _ | refine zab ?_ | refine zac ?_ _)); exact BK313.o⟩, ⟨by (with_reducible repeat (first | refine zad ?_ _ | refine zab ?_ | refine zac ?_ _)); exact BK314.o⟩, ⟨by repeat (first | (with_reducible first | exact HB.o | apply zaf | apply zah | apply zag | refine zae ?_ GE313.o | refine zae ?_ GE314.o) | exact HB.o)⟩⟩
 case rest =>
  clear HC3
  try clear c1
  try clear p2
  try clear c3
  try clear c7
  try clear c9
  try clear c14
  try clear hcz10_0
  try clear hcz10_1
  try clear hcz12_0
  try clear hcz12_1
  try clear hcz15_0
  try clear hcz15_1
  try clear hfz10_0
  try clear hfz10_1
  try clear hfz12_0
  try clear hfz12_1
  try clear hfz15_0
  try clear hfz15_1
  obtain ⟨kq, x15_2, rfl, HA, HJ2, BK313, BK314, HB⟩ := hcut
  cases kq with
  | zero => exact absurd HA.o (by simp [vinculumref02_Cmp.j0])
  | succ kj2 =>
   have H := HA.o
   clear HA
   simp only [vinculumref02_Cmp.j0] at H
   by_cases c17 : x15_2 = true
   ·subst c17
    have H1 : (some (0, 1)) = some (r1, r2) := by rw [if_pos rfl] at H; exact H
    clear H
    have H := H1
    clear H1
    simp only [Option.some.injEq, Prod.mk.injEq] at H
    obtain ⟨rfl, rfl⟩ := H
    go_wp2
    repeat (go_quiet (fail); try go_wp2)
    go_ret2
    exact ⟨by first | rfl | (simp [errW_none, errW_some] <;> rfl) | (simp [*, errW_none, errW_some] <;> rfl), by repeat (first | (with_reducible first | exact HB.o | apply zaf | apply zah | apply zag | refine zae ?_ GE313.o | refine zae ?_ GE314.o) | exact HB.o)⟩
   ·replace c17 := Bool.eq_false_iff.mpr c17
    subst c17
    have H1 : (if (wrap64 (a0_0 * a1_1)) < (wrap64 (a1_0 * a0_1)) then (some ((-1), 0)) else (if (wrap64 (a0_0 * a1_1)) > (wrap64 (a1_0 * a0_1)) then (some (1, 0)) else (some (0, 0)))) = some (r1, r2) := by rw [if_neg (show ¬ (false = true) by decide)] at H; exact H
    clear H
    have H := H1
    clear H1
    by_cases c18 : (wrap64 (a0_0 * a1_1)) < (wrap64 (a1_0 * a0_1))
    ·rw [if_pos c18] at H
     have c18b0 : decide ((wrap64 (a0_0 * a1_1)) < (wrap64 (a1_0 * a0_1))) = true := decide_eq_true c18
     clear c18
     simp only [Option.some.injEq, Prod.mk.injEq] at H
     obtain ⟨rfl, rfl⟩ := H
     have hnb19 := NB313_314.o
     have hnc19 := NB314_313.o
     have hcz20_0 : wc.cell? ⟨gb313, 0, none⟩ = some (.int .i64 a0_0) := (zai BK313.o 0).trans rfl
     have hcz20_1 : wc.cell? ⟨gb313, 1, none⟩ = some (.int .i64 a0_1) := (zai BK313.o 1).trans rfl
     have hfz20_0 := zak BK313.o 0
     have hfz20_1 := zak BK313.o 1
     have hcz21_0 : wc.cell? ⟨gb314, 0, none⟩ = some (.int .i64 a1_0) := (zai BK314.o 0).trans rfl
     have hcz21_1 : wc.cell? ⟨gb314, 1, none⟩ = some (.int .i64 a1_1) := (zai BK314.o 1).trans rfl
     have hfz21_0 := zak BK314.o 0
     have hfz21_1 := zak BK314.o 1
     go_wp2
     repeat (go_quiet (fail); try go_wp2)
     go_ret2
     exact ⟨by first | rfl | (simp [errW_none, errW_some] <;> rfl) | (simp [*, errW_none, errW_some] <;> rfl), by repeat (first | (with_reducible first | exact HB.o | apply zaf | apply zah | apply zag | refine zae ?_ GE313.o | refine zae ?_ GE314.o) | exact HB.o)⟩
    ·rw [if_neg c18] at H
     have c18b0 : decide ((wrap64 (a0_0 * a1_1)) < (wrap64 (a1_0 * a0_1))) = false := decide_eq_false c18
     clear c18
     by_cases c22 : (wrap64 (a0_0 * a1_1)) > (wrap64 (a1_0 * a0_1))
     ·rw [if_pos c22] at H
      have c22b0 : decide ((wrap64 (a1_0 * a0_1)) < (wrap64 (a0_0 * a1_1))) = true := decide_eq_true c22
      clear c22
      simp only [Option.some.injEq, Prod.mk.injEq] at H
      obtain ⟨rfl, rfl⟩ := H
      have hnb23 := NB313_314.o
      have hnc23 := NB314_313.o
      have hcz24_0 : wc.cell? ⟨gb313, 0, none⟩ = some (.int .i64 a0_0) := (zai BK313.o 0).trans rfl
      have hcz24_1 : wc.cell? ⟨gb313, 1, none⟩ = some (.int .i64 a0_1) := (zai BK313.o 1).trans rfl
      have hfz24_0 := zak BK313.o 0
      have hfz24_1 := zak BK313.o 1
      have hcz25_0 : wc.cell? ⟨gb314, 0, none⟩ = some (.int .i64 a1_0) := (zai BK314.o 0).trans rfl
      have hcz25_1 : wc.cell? ⟨gb314, 1, none⟩ = some (.int .i64 a1_1) := (zai BK314.o 1).trans rfl
      have hfz25_0 := zak BK314.o 0
      have hfz25_1 := zak BK314.o 1
      go_wp2
      repeat (go_quiet (fail); try go_wp2)
      go_ret2
      exact ⟨by first | rfl | (simp [errW_none, errW_some] <;> rfl) | (simp [*, errW_none, errW_some] <;> rfl), by repeat (first | (with_reducible first | exact HB.o | apply zaf | apply zah | apply zag | refine zae ?_ GE313.o | refine zae ?_ GE314.o) | exact HB.o)⟩
     ·rw [if_neg c22] at H
      have c22b0 : decide ((wrap64 (a1_0 * a0_1)) < (wrap64 (a0_0 * a1_1))) = false := decide_eq_false c22
      clear c22
      simp only [Option.some.injEq, Prod.mk.injEq] at H
      obtain ⟨rfl, rfl⟩ := H
      have hnb26 := NB313_314.o
      have hnc26 := NB314_313.o
      have hcz27_0 : wc.cell? ⟨gb313, 0, none⟩ = some (.int .i64 a0_0) := (zai BK313.o 0).trans rfl
      have hcz27_1 : wc.cell? ⟨gb313, 1, none⟩ = some (.int .i64 a0_1) := (zai BK313.o 1).trans rfl
      have hfz27_0 := zak BK313.o 0
      have hfz27_1 := zak BK313.o 1
      have hcz28_0 : wc.cell? ⟨gb314, 0, none⟩ = some (.int .i64 a1_0) := (zai BK314.o 0).trans rfl
      have hcz28_1 : wc.cell? ⟨gb314, 1, none⟩ = some (.int .i64 a1_1) := (zai BK314.o 1).trans rfl
      have hfz28_0 := zak BK314.o 0
      have hfz28_1 := zak BK314.o 1
      go_wp2
      repeat (go_quiet (fail); try go_wp2)
      go_ret2
      exact ⟨by first | rfl | (simp [errW_none, errW_some] <;> rfl) | (simp [*, errW_none, errW_some] <;> rfl), by repeat (first | (with_reducible first | exact HB.o | apply zaf | apply zah | apply zag | refine zae ?_ GE313.o | refine zae ?_ GE314.o) | exact HB.o)⟩

end Go.Proofs.YtoieknocpphjoaaDoor.P
