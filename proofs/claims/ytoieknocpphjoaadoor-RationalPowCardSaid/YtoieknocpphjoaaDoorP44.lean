--m
/- Written by wip/tool/hprint.py (the kit's print.py with hand-proved contracts set in): contracts of the functions that the statements of this seat reach, without conditions beyond those named in each theorem. -/
import Derived.Test.YtoieknocpphjoaaDoorP0
import Derived.Test.YtoieknocpphjoaaDoorP7
import Derived.Test.YtoieknocpphjoaaDoorP9
import Derived.Test.YtoieknocpphjoaaDoorP13
import Derived.Test.YtoieknocpphjoaaDoorP42
import Derived.Test.YtoieknocpphjoaaDoorP43
namespace Go.Proofs.YtoieknocpphjoaaDoor.P
open Go.RowKit Go.Proofs.YtoieknocpphjoaaDoorW.PrintWords Go.Proofs.YtoieknocpphjoaaDoorW.PrintLast Go.Proofs.YtoieknocpphjoaaDoorW.PrintMore
attribute [local go_sem] zax zay zaz zaA zaB zaC zaD zaE   -- for this text's walks alone
set_option linter.unusedVariables false
set_option linter.unusedSimpArgs false

/-! ### vinculumlaw02_RationalPow: function 8 -/
def vinculumlaw02_RationalPow.f (k : Nat) (a0_0 : Int) (a0_1 : Int) (a1 : Int) : Option (Bool) := (vinculumlaw02_awake.f k).bind fun t454 => (if t454 = true then ((rational_Pow.f k a0_0 a0_1 a1).bind fun bt455 => ((vinculumref02_Pow.f k a0_0 a0_1 a1).bind fun bt459 => ((vinculumlaw02_is.f bt455.1 bt455.2.1 bt455.2.2 bt459.1 bt459.2.1 bt459.2.2).bind fun t463 => (some t463)))) else (none))
theorem vinculumlaw02_RationalPow.mono : ∀ a0 a1 a2 k, LeO (vinculumlaw02_RationalPow.f k a0 a1 a2) (vinculumlaw02_RationalPow.f (k + 1) a0 a1 a2) := by
 intro a0 a1 a2 k
 unfold vinculumlaw02_RationalPow.f
 repeat' first
   | (with_reducible exact rational_Pow.mono _ _ _ _)
   | (with_reducible exact vinculumlaw02_awake.mono _)
   | (with_reducible exact vinculumref02_Pow.mono _ _ _ _)
   | (with_reducible exact LeO.refl _)
   | (with_reducible exact LeO.none _)
   | (with_reducible refine LeO.ite ?_ ?_)
   | (with_reducible refine LeO.bind ?_ (fun _ => ?_))
   | exact rational_Pow.mono _ _ _ _
   | exact vinculumlaw02_awake.mono _
   | exact vinculumref02_Pow.mono _ _ _ _
   | exact LeO.none _
   | refine LeO.ite ?_ ?_
   | refine LeO.bind ?_ (fun _ => ?_)
set_option maxHeartbeats 8000000 in
set_option maxRecDepth 100000 in
theorem vinculumlaw02_RationalPow.calls (k : Nat) (a0_0 : Int) (a0_1 : Int) (a1 : Int) (r : Bool) (w : World) (htab : TB w) (h : vinculumlaw02_RationalPow.f k a0_0 a0_1 a1 = some r) :
  Calls Tryd.prog 8 #[.agg #[.int .i64 a0_0, .int .i64 a0_1], .int .i64 a1] w fun e w' => e = .returned (.bool r) ∧ Below w.heap.size w w' := by
 have hu28 := Tryd.underlying28
 have hu24 := Tryd.underlying24
 have HB := zaa.mk (Below.refl w.heap.size w)
 have HT9 := zaa.mk htab.stays
 clear htab
 have H : ((vinculumlaw02_awake.f k).bind fun t454 => (if t454 = true then ((rational_Pow.f k a0_0 a0_1 a1).bind fun bt455 => ((vinculumref02_Pow.f k a0_0 a0_1 a1).bind fun bt459 => ((vinculumlaw02_is.f bt455.1 bt455.2.1 bt455.2.2 bt459.1 bt459.2.1 bt459.2.2).bind fun t463 => (some t463)))) else (none))) = some r := h
 clear h
 replace H := Option.bind_eq_some_iff.mp H
 obtain ⟨t454, A30, H⟩ := H
 replace H : (if t454 = true then ((rational_Pow.f k a0_0 a0_1 a1).bind fun bt455 => ((vinculumref02_Pow.f k a0_0 a0_1 a1).bind fun bt459 => ((vinculumlaw02_is.f bt455.1 bt455.2.1 bt455.2.2 bt459.1 bt459.2.1 bt459.2.2).bind fun t463 => (some t463)))) else (none)) = some r := H
 have A3 := zaa.mk A30
 clear A30
 by_cases c4 : t454 = true
 ·subst c4
  have H1 : ((rational_Pow.f k a0_0 a0_1 a1).bind fun bt455 => ((vinculumref02_Pow.f k a0_0 a0_1 a1).bind fun bt459 => ((vinculumlaw02_is.f bt455.1 bt455.2.1 bt455.2.2 bt459.1 bt459.2.1 bt459.2.2).bind fun t463 => (some t463)))) = some r := by rw [if_pos rfl] at H; exact H
  clear H
  have H := H1
  clear H1
  replace H := Option.bind_eq_some_iff.mp H
  obtain ⟨⟨t455, t456, t457⟩, A50, H⟩ := H
  replace H : ((vinculumref02_Pow.f k a0_0 a0_1 a1).bind fun bt459 => ((vinculumlaw02_is.f t455 t456 t457 bt459.1 bt459.2.1 bt459.2.2).bind fun t463 => (some t463))) = some r := H
  have A5 := zaa.mk A50
  clear A50
  replace H := Option.bind_eq_some_iff.mp H
  obtain ⟨⟨t459, t460, t461⟩, A60, H⟩ := H
  replace H : ((vinculumlaw02_is.f t455 t456 t457 t459 t460 t461).bind fun t463 => (some t463)) = some r := H
  have A6 := zaa.mk A60
  clear A60
  replace H := Option.bind_eq_some_iff.mp H
  obtain ⟨t463, A70, H⟩ := H
  replace H : (some t463) = some r := H
  have A7 := zaa.mk A70
  clear A70
  obtain rfl := Option.some.inj H
  go_enter Tryd.func8, Tryd.ntmps8
  go_wp2_with (first | ((with_reducible refine zaq (N := 2) rfl ?_); refine zar ?hg (N := 2) ?hd (cs := #[.int .i64 a0_0, .int .i64 a0_1]) (t := 28) ?hr ?_; (case hd => rfl); (case hg => rfl); (case hr => first | (go_simp; done) | (go_simp; rfl)); intro gb453 hg w8 hbox hb; have n0_ := zaa.mk (zao (by repeat (first | (with_reducible first | exact HB.o | apply zaf | apply zah | apply zag) | exact HB.o)) hb); have n1_ := zaa.mk (hbox); have n2_ := zaa.mk ((by rw [hg]; exact (zan (by repeat (first | (with_reducible first | exact HB.o | apply zaf | apply zah | apply zag) | exact HB.o))) : w.heap.size ≤ gb453)); have n3_ := zaa.mk ((by rw [hg]; exact (zan (by repeat (first | (with_reducible first | exact HB.o | apply zaf | apply zah | apply zag) | exact HB.o))) : w.heap.size ≤ gb453)); clear HB; have HB := n0_; have BK453 := n1_; have GW453 := n2_; have GE453 := n3_; clear n0_ n1_ n2_ n3_; clear hb hbox hg) | ((with_reducible refine zas (f := 12) rfl ?_); refine zat (some 9) rfl rfl Tryd.func12 (by kernel_rfl) rfl #[] rfl (by (try simp only [List.map_toArray, List.map_cons, List.map_nil]); first | done | rfl | (simp only [List.length_drop, List.length_take]; rfl)) ?_; (with_reducible refine (vinculumlaw02_awake.calls k  true _ (HT9.out _ (by repeat (first | (with_reducible first | exact HB.o | apply zaf | apply zah | apply zag | refine zae ?_ GE453.o) | exact HB.o))) A3.o).mono ?_); rintro e w9 ⟨rfl, hb⟩; refine ⟨_, rfl, ?_⟩; have n0_ := zaa.mk (zai (by (with_reducible repeat (first | refine zad ?_ _ | refine zab ?_ | refine zac ?_ _)); exact BK453.o) hb); have n1_ := zaa.mk (zao (by repeat (first | (with_reducible first | exact HB.o | apply zaf | apply zah | apply zag | refine zae ?_ GE453.o) | exact HB.o)) hb); clear BK453; clear HB; have BK453 := n0_; have HB := n1_; clear n0_ n1_; (try clear hb); (try clear hb2); (try clear hk); (try clear hi); obtain ⟨hcz10_0, hcz10_1⟩ := cz2 BK453.o; obtain ⟨hfz10_0, hfz10_1⟩ := fz2 BK453.o) | ((with_reducible refine zas (f := 37) rfl ?_); refine zat (some 14) rfl rfl Tryd.func37 (by kernel_rfl) rfl #[.agg #[.int .i64 a0_0, .int .i64 a0_1], .int .i64 a1] rfl (by (try simp only [List.map_toArray, List.map_cons, List.map_nil]); first | done | rfl | (simp only [List.length_drop, List.length_take]; rfl)) ?_; (with_reducible refine (rational_Pow.calls k a0_0 a0_1 a1 t455 t456 t457 _ A5.o).mono ?_); rintro e w11 ⟨rfl, hb⟩; refine ⟨_, rfl, ?_⟩; have n0_ := zaa.mk (zai (by (with_reducible repeat (first | refine zad ?_ _ | refine zab ?_ | refine zac ?_ _)); exact BK453.o) hb); have n1_ := zaa.mk (zao (by repeat (first | (with_reducible first | exact HB.o | apply zaf | apply zah | apply zag | refine zae ?_ GE453.o) | exact HB.o)) hb); clear BK453; clear HB; have BK453 := n0_; have HB := n1_; clear n0_ n1_; (try clear hb); (try clear hb2); (try clear hk); (try clear hi)) | ((with_reducible refine zaq (N := 5) rfl ?_); refine zar ?hg (N := 5) ?hd (cs := #[.int .i64 0, .int .i64 0]) (t := 24) ?hr ?_; (case hd => rfl); (case hg => rfl); (case hr => first | (go_simp; done) | (go_simp; rfl)); intro gb458 hg w12 hbox hb; have n0_ := zaa.mk (zai (by (with_reducible repeat (first | refine zad ?_ _ | refine zab ?_ | refine zac ?_ _)); exact BK453.o) hb); have n1_ := zaa.mk (zao (by repeat (first | (with_reducible first | exact HB.o | apply zaf | apply zah | apply zag | refine zae ?_ GE453.o) | exact HB.o)) hb); have n2_ := zaa.mk (hbox); have n3_ := zaa.mk ((by rw [hg]; exact (zan (by repeat (first | (with_reducible first | exact HB.o | apply zaf | apply zah | apply zag | refine zae ?_ GE453.o) | exact HB.o))) : w.heap.size ≤ gb458)); have n4_ := zaa.mk ((by rw [hg]; exact (zan (by repeat (first | (with_reducible first | exact HB.o | apply zaf | apply zah | apply zag | refine zae ?_ GE453.o) | exact HB.o))) : w.heap.size ≤ gb458)); have n5_ := zaa.mk ((by rw [hg]; exact Nat.ne_of_lt (zak (g := gb453) (o := .cells #[.int .i64 a0_0, .int .i64 a0_1] 28 (0, 0)) (by (with_reducible repeat (first | refine zad ?_ _ | refine zab ?_ | refine zac ?_ _)); exact BK453.o)) : gb453 ≠ gb458)); have n6_ := zaa.mk ((by rw [hg]; exact Nat.ne_of_gt (zak (g := gb453) (o := .cells #[.int .i64 a0_0, .int .i64 a0_1] 28 (0, 0)) (by (with_reducible repeat (first | refine zad ?_ _ | refine zab ?_ | refine zac ?_ _)); exact BK453.o)) : gb458 ≠ gb453)); clear BK453; clear HB; have BK453 := n0_; have HB := n1_; have BK458 := n2_; have GW458 := n3_; have GE458 := n4_; have NB453_458 := n5_; have NB458_453 := n6_; clear n0_ n1_ n2_ n3_ n4_ n5_ n6_; clear hb hbox hg; have hnb13 := NB458_453.o; have hnc13 := NB453_458.o; obtain ⟨hcz14_0, hcz14_1⟩ := cz2 BK458.o; obtain ⟨hfz14_0, hfz14_1⟩ := fz2 BK458.o; obtain ⟨hcz15_0, hcz15_1⟩ := cz2 BK453.o; obtain ⟨hfz15_0, hfz15_1⟩ := fz2 BK453.o) | ((with_reducible refine zas (f := 38) rfl ?_); refine zat (some 20) rfl rfl Tryd.func38 (by kernel_rfl) rfl #[.agg #[.int .i64 a0_0, .int .i64 a0_1], .int .i64 a1] rfl (by (try simp only [List.map_toArray, List.map_cons, List.map_nil]); first | done | rfl | (simp only [List.length_drop, List.length_take]; rfl)) ?_; (with_reducible refine (vinculumref02_Pow.calls k a0_0 a0_1 a1 t459 t460 t461 _ A6.o).mono ?_); rintro e w16 ⟨rfl, hb⟩; refine ⟨_, rfl, ?_⟩; have n0_ := zaa.mk (zai (g := gb453) (o := .cells #[.int .i64 a0_0, .int .i64 a0_1] 28 (0, 0)) (by (with_reducible repeat (first | refine zad ?_ _ | refine zab ?_ | refine zac ?_ _)); refine zam ?_ NB453_458.o _; (with_reducible repeat (first | refine zad ?_ _ | refine zab ?_ | refine zac ?_ _)); refine zam ?_ NB453_458.o _; (with_reducible repeat (first | refine zad ?_ _ | refine zab ?_ | refine zac ?_ _)); exact BK453.o) hb); have n1_ := zaa.mk (zai (g := gb458) (o := .cells #[.int .i64 t455, .int .i64 t456] 24 (0, 0)) (by (with_reducible repeat (first | refine zad ?_ _ | refine zab ?_ | refine zac ?_ _)); refine zap (cs := #[.int .i64 t455, .int .i64 0]) ?_ 1 _ rfl; (with_reducible repeat (first | refine zad ?_ _ | refine zab ?_ | refine zac ?_ _)); refine zap (cs := #[.int .i64 0, .int .i64 0]) ?_ 0 _ rfl; (with_reducible repeat (first | refine zad ?_ _ | refine zab ?_ | refine zac ?_ _)); exact BK458.o) hb); have n2_ := zaa.mk (zao (by repeat (first | (with_reducible first | exact HB.o | apply zaf | apply zah | apply zag | refine zae ?_ GE453.o | refine zae ?_ GE458.o) | exact HB.o)) hb); clear BK453; clear BK458; clear HB; have BK453 := n0_; have BK458 := n1_; have HB := n2_; clear n0_ n1_ n2_; (try clear hb); (try clear hb2); (try clear hk); (try clear hi)) | ((with_reducible refine zaq (N := 7) rfl ?_); refine zar ?hg (N := 7) ?hd (cs := #[.int .i64 0, .int .i64 0]) (t := 28) ?hr ?_; (case hd => rfl); (case hg => rfl); (case hr => first | (go_simp; done) | (go_simp; rfl)); intro gb462 hg w17 hbox hb; have n0_ := zaa.mk (zai (by (with_reducible repeat (first | refine zad ?_ _ | refine zab ?_ | refine zac ?_ _)); exact BK453.o) hb); have n1_ := zaa.mk (zai (by (with_reducible repeat (first | refine zad ?_ _ | refine zab ?_ | refine zac ?_ _)); exact BK458.o) hb); have n2_ := zaa.mk (zao (by repeat (first | (with_reducible first | exact HB.o | apply zaf | apply zah | apply zag | refine zae ?_ GE453.o | refine zae ?_ GE458.o) | exact HB.o)) hb); have n3_ := zaa.mk (hbox); have n4_ := zaa.mk ((by rw [hg]; exact (zan (by repeat (first | (with_reducible first | exact HB.o | apply zaf | apply zah | apply zag | refine zae ?_ GE453.o | refine zae ?_ GE458.o) | exact HB.o))) : w.heap.size ≤ gb462)); have n5_ := zaa.mk ((by rw [hg]; exact (zan (by repeat (first | (with_reducible first | exact HB.o | apply zaf | apply zah | apply zag | refine zae ?_ GE453.o | refine zae ?_ GE458.o) | exact HB.o))) : w.heap.size ≤ gb462)); have n6_ := zaa.mk ((by rw [hg]; exact Nat.ne_of_lt (zak (g := gb453) (o := .cells #[.int .i64 a0_0, .int .i64 a0_1] 28 (0, 0)) (by (with_reducible repeat (first | refine zad ?_ _ | refine zab ?_ | refine zac ?_ _)); exact BK453.o)) : gb453 ≠ gb462)); have n7_ := zaa.mk ((by rw [hg]; exact Nat.ne_of_gt (zak (g := gb453) (o := .cells #[.int .i64 a0_0, .int .i64 a0_1] 28 (0, 0)) (by (with_reducible repeat (first | refine zad ?_ _ | refine zab ?_ | refine zac ?_ _)); exact BK453.o)) : gb462 ≠ gb453)); have n8_ := zaa.mk ((by rw [hg]; exact Nat.ne_of_lt (zak (g := gb458) (o := .cells #[.int .i64 t455, .int .i64 t456] 24 (0, 0)) (by (with_reducible repeat (first | refine zad ?_ _ | refine zab ?_ | refine zac ?_ _)); exact BK458.o)) : gb458 ≠ gb462)); have n9_ := zaa.mk ((by rw [hg]; exact Nat.ne_of_gt (zak (g := gb458) (o := .cells #[.int .i64 t455, .int .i64 t456] 24 (0, 0)) (by (with_reducible repeat (first | refine zad ?_ _ | refine zab ?_ | refine zac ?_ _)); exact BK458.o)) : gb462 ≠ gb458)); clear BK453; clear BK458; clear HB; have BK453 := n0_; have BK458 := n1_; have HB := n2_; have BK462 := n3_; have GW462 := n4_; have GE462 := n5_; have NB453_462 := n6_; have NB462_453 := n7_; have NB458_462 := n8_; have NB462_458 := n9_; clear n0_ n1_ n2_ n3_ n4_ n5_ n6_ n7_ n8_ n9_; clear hb hbox hg; have hnb18 := NB462_453.o; have hnc18 := NB453_462.o; have hnb19 := NB462_458.o; have hnc19 := NB458_462.o; obtain ⟨hcz20_0, hcz20_1⟩ := cz2 BK462.o; obtain ⟨hfz20_0, hfz20_1⟩ := fz2 BK462.o; obtain ⟨hcz21_0, hcz21_1⟩ := cz2 BK458.o; obtain ⟨hfz21_0, hfz21_1⟩ := fz2 BK458.o) | ((with_reducible refine zas (f := 15) rfl ?_); refine zat (some 27) rfl rfl Tryd.func15 (by kernel_rfl) rfl #[.agg #[.int .i64 t455, .int .i64 t456], .int .i64 t457, .agg #[.int .i64 t459, .int .i64 t460], .int .i64 t461] rfl (by (try simp only [List.map_toArray, List.map_cons, List.map_nil]); first | done | rfl | (simp only [List.length_drop, List.length_take]; rfl)) ?_; (with_reducible refine (vinculumlaw02_is.calls t455 t456 t457 t459 t460 t461 t463 _ A7.o).mono ?_); rintro e w22 ⟨rfl, hb⟩; refine ⟨_, rfl, ?_⟩; have n0_ := zaa.mk (zai (g := gb453) (o := .cells #[.int .i64 a0_0, .int .i64 a0_1] 28 (0, 0)) (by (with_reducible repeat (first | refine zad ?_ _ | refine zab ?_ | refine zac ?_ _)); refine zam ?_ NB453_462.o _; (with_reducible repeat (first | refine zad ?_ _ | refine zab ?_ | refine zac ?_ _)); refine zam ?_ NB453_462.o _; (with_reducible repeat (first | refine zad ?_ _ | refine zab ?_ | refine zac ?_ _)); exact BK453.o) hb); have n1_ := zaa.mk (zai (g := gb458) (o := .cells #[.int .i64 t455, .int .i64 t456] 24 (0, 0)) (by (with_reducible repeat (first | refine zad ?_ _ | refine zab ?_ | refine zac ?_ _)); refine zam ?_ NB458_462.o _; (with_reducible repeat (first | refine zad ?_ _ | refine zab ?_ | refine zac ?_ _)); refine zam ?_ NB458_462.o _; (with_reducible repeat (first | refine zad ?_ _ | refine zab ?_ | refine zac ?_ _)); exact BK458.o) hb); have n2_ := zaa.mk (zai (g := gb462) (o := .cells #[.int .i64 t459, .int .i64 t460] 28 (0, 0)) (by (with_reducible repeat (first | refine zad ?_ _ | refine zab ?_ | refine zac ?_ _)); refine zap (cs := #[.int .i64 t459, .int .i64 0]) ?_ 1 _ rfl; (with_reducible repeat (first | refine zad ?_ _ | refine zab ?_ | refine zac ?_ _)); refine zap (cs := #[.int .i64 0, .int .i64 0]) ?_ 0 _ rfl; (with_reducible repeat (first | refine zad ?_ _ | refine zab ?_ | refine zac ?_ _)); exact BK462.o) hb); have n3_ := zaa.mk (zao (by repeat (first | (with_reducible first | exact HB.o | apply zaf | apply zah | apply zag | refine zae ?_ GE453.o | refine zae ?_ GE458.o | refine zae ?_ GE462.o) | exact HB.o)) hb); clear BK453; clear BK458; clear BK462; clear HB; have BK453 := n0_; have BK458 := n1_; have BK462 := n2_; have HB := n3_; clear n0_ n1_ n2_ n3_; (try clear hb); (try clear hb2); (try clear hk); (try clear hi)))
  go_ret
  exact ⟨by first | rfl | (simp [errW_none, errW_some] <;> rfl) | (simp [*, errW_none, errW_some] <;> rfl), by repeat (first | (with_reducible first | exact HB.o | apply zaf | apply zah | apply zag | refine zae ?_ GE453.o | refine zae ?_ GE458.o | refine zae ?_ GE462.o) | exact HB.o)⟩
 ·replace c4 := Bool.eq_false_iff.mpr c4
  subst c4
  have H1 : (none) = some r := by rw [if_neg (show ¬ (false = true) by decide)] at H; exact H
  clear H
  have H := H1
  clear H1
  exact absurd H (by simp)

end Go.Proofs.YtoieknocpphjoaaDoor.P
