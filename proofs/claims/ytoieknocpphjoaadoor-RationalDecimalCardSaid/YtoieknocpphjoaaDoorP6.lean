--m
/- Written by wip/tool/hprint.py (the kit's print.py with hand-proved contracts set in): contracts of the functions that the statements of this seat reach, without conditions beyond those named in each theorem. -/
import Derived.Test.YtoieknocpphjoaaDoorP0
import Derived.Test.YtoieknocpphjoaaDoorP5
namespace Go.Proofs.YtoieknocpphjoaaDoor.P
open Go.RowKit Go.Proofs.YtoieknocpphjoaaDoorW.PrintWords Go.Proofs.YtoieknocpphjoaaDoorW.PrintLast Go.Proofs.YtoieknocpphjoaaDoorW.PrintMore
attribute [local go_sem] zay zaz zaA zaB zaC zaD zaE zaF   -- for this text's walks alone
set_option linter.unusedVariables false
set_option linter.unusedSimpArgs false

/-! ### rational_Make: function 13 -/
def rational_Make.j0 : Nat → Int → Int → Int → Int → Bool → Option (Int × Int × Int)
 | 0, _, _, _, _, _ => none
 | k + 1, x0, x1, x6, x7, x31 => if x31 = true then (some (0, 0, 2)) else (if ((decide (x0 < 0)) != (decide (x1 < 0))) = true then (some (wrap64 (-(wrap64 (x6))), wrap64 (x7), 0)) else (some (wrap64 (x6), wrap64 (x7), 0)))
def rational_Make.f (k : Nat) (a0 : Int) (a1 : Int) : Option (Int × Int × Int) := if a1 = 0 then (some (0, 0, 10)) else ((rational_size.f a0).bind fun t102 => ((rational_size.f a1).bind fun t103 => ((rational_gcd.f k t102 t103).bind fun t104 => (if t104 = 0 then (none) else (if (IntKind.u64.wrap (Int.tdiv t102 t104)) > 2147483647 then (rational_Make.j0 k a0 a1 (IntKind.u64.wrap (Int.tdiv t102 t104)) (IntKind.u64.wrap (Int.tdiv t103 t104)) true) else (rational_Make.j0 k a0 a1 (IntKind.u64.wrap (Int.tdiv t102 t104)) (IntKind.u64.wrap (Int.tdiv t103 t104)) (decide ((IntKind.u64.wrap (Int.tdiv t103 t104)) > 2147483647))))))))
theorem rational_Make.mono_l : ∀ k, (∀ y0 y1 y2 y3 y4, LeO (rational_Make.j0 k y0 y1 y2 y3 y4) (rational_Make.j0 (k + 1) y0 y1 y2 y3 y4))
 | 0 => fun _ _ _ _ _ r h => by simp [rational_Make.j0] at h
 | k + 1 => by
  have ih0 := rational_Make.mono_l k
  ·intro y0 y1 y2 y3 y4
   unfold rational_Make.j0
   repeat' first
   | (with_reducible exact ih0 _ _ _ _ _)
   | (with_reducible exact rational_gcd.mono _ _ _)
   | (with_reducible exact LeO.refl _)
   | (with_reducible exact LeO.none _)
   | (with_reducible refine LeO.ite ?_ ?_)
   | (with_reducible refine LeO.bind ?_ (fun _ => ?_))
   | exact ih0 _ _ _ _ _
   | exact rational_gcd.mono _ _ _
   | exact LeO.none _
   | refine LeO.ite ?_ ?_
   | refine LeO.bind ?_ (fun _ => ?_)
theorem rational_Make.mono : ∀ a0 a1 k, LeO (rational_Make.f k a0 a1) (rational_Make.f (k + 1) a0 a1) := by
 intro a0 a1 k
 have ih0 := rational_Make.mono_l k
 unfold rational_Make.f
 repeat' first
   | (with_reducible exact ih0 _ _ _ _ _)
   | (with_reducible exact rational_gcd.mono _ _ _)
   | (with_reducible exact LeO.refl _)
   | (with_reducible exact LeO.none _)
   | (with_reducible refine LeO.ite ?_ ?_)
   | (with_reducible refine LeO.bind ?_ (fun _ => ?_))
   | exact ih0 _ _ _ _ _
   | exact rational_gcd.mono _ _ _
   | exact LeO.none _
   | refine LeO.ite ?_ ?_
   | refine LeO.bind ?_ (fun _ => ?_)
set_option maxHeartbeats 8000000 in
set_option maxRecDepth 100000 in
theorem rational_Make.calls (k : Nat) (a0 : Int) (a1 : Int) (r1 : Int) (r2 : Int) (r3 : Int) (w : World) (h : rational_Make.f k a0 a1 = some (r1, r2, r3)) :
  Calls Tryd.prog 13 #[.int .i64 a0, .int .i64 a1] w fun e w' => e = .returned (.tuple #[.agg #[.int .i64 r1, .int .i64 r2], .int .i64 r3]) ∧ Below w.heap.size w w' := by
 have hu24 := Tryd.underlying24
 have HB := zaa.mk (Below.refl w.heap.size w)
 have H : (if a1 = 0 then (some (0, 0, 10)) else ((rational_size.f a0).bind fun t102 => ((rational_size.f a1).bind fun t103 => ((rational_gcd.f k t102 t103).bind fun t104 => (if t104 = 0 then (none) else (if (IntKind.u64.wrap (Int.tdiv t102 t104)) > 2147483647 then (rational_Make.j0 k a0 a1 (IntKind.u64.wrap (Int.tdiv t102 t104)) (IntKind.u64.wrap (Int.tdiv t103 t104)) true) else (rational_Make.j0 k a0 a1 (IntKind.u64.wrap (Int.tdiv t102 t104)) (IntKind.u64.wrap (Int.tdiv t103 t104)) (decide ((IntKind.u64.wrap (Int.tdiv t103 t104)) > 2147483647))))))))) = some (r1, r2, r3) := h
 clear h
 by_cases c3 : a1 = 0
 ·rw [if_pos c3] at H
  have c3b0 : (a1 == 0) = true := beq_iff_eq.mpr c3
  have c3b1 : (a1 != 0) = false := bne_eq_false_iff_eq.mpr c3
  clear c3
  simp only [Option.some.injEq, Prod.mk.injEq] at H
  obtain ⟨rfl, rfl, rfl⟩ := H
  go_enter Tryd.func13, Tryd.ntmps13
  go_wp2_with (first | ((with_reducible refine zaq (N := 4) rfl ?_); refine zar ?hg (N := 4) ?hd (cs := #[.int .i64 0, .int .i64 0]) (t := 24) ?hr ?_; (case hd => rfl); (case hg => rfl); (case hr => first | (go_simp; done) | (go_simp; rfl)); intro gb101 hg w4 hbox hb; have n0_ := zaa.mk (zao (by repeat (first | (with_reducible first | exact HB.o | apply zaf | apply zah | apply zag) | exact HB.o)) hb); have n1_ := zaa.mk (hbox); have n2_ := zaa.mk ((by rw [hg]; exact (zan (by repeat (first | (with_reducible first | exact HB.o | apply zaf | apply zah | apply zag) | exact HB.o))) : w.heap.size ≤ gb101)); have n3_ := zaa.mk ((by rw [hg]; exact (zan (by repeat (first | (with_reducible first | exact HB.o | apply zaf | apply zah | apply zag) | exact HB.o))) : w.heap.size ≤ gb101)); clear HB; have HB := n0_; have BK101 := n1_; have GW101 := n2_; have GE101 := n3_; clear n0_ n1_ n2_ n3_; clear hb hbox hg; obtain ⟨hcz5_0, hcz5_1⟩ := cz2 BK101.o; obtain ⟨hfz5_0, hfz5_1⟩ := fz2 BK101.o))
  repeat (go_quiet (first | ((with_reducible refine zaq (N := 4) rfl ?_); refine zar ?hg (N := 4) ?hd (cs := #[.int .i64 0, .int .i64 0]) (t := 24) ?hr ?_; (case hd => rfl); (case hg => rfl); (case hr => first | (go_simp; done) | (go_simp; rfl)); intro gb101 hg w4 hbox hb; have n0_ := zaa.mk (zao (by repeat (first | (with_reducible first | exact HB.o | apply zaf | apply zah | apply zag) | exact HB.o)) hb); have n1_ := zaa.mk (hbox); have n2_ := zaa.mk ((by rw [hg]; exact (zan (by repeat (first | (with_reducible first | exact HB.o | apply zaf | apply zah | apply zag) | exact HB.o))) : w.heap.size ≤ gb101)); have n3_ := zaa.mk ((by rw [hg]; exact (zan (by repeat (first | (with_reducible first | exact HB.o | apply zaf | apply zah | apply zag) | exact HB.o))) : w.heap.size ≤ gb101)); clear HB; have HB := n0_; have BK101 := n1_; have GW101 := n2_; have GE101 := n3_; clear n0_ n1_ n2_ n3_; clear hb hbox hg; obtain ⟨hcz5_0, hcz5_1⟩ := cz2 BK101.o; obtain ⟨hfz5_0, hfz5_1⟩ := fz2 BK101.o)); try go_wp2_with (first | ((with_reducible refine zaq (N := 4) rfl ?_); refine zar ?hg (N := 4) ?hd (cs := #[.int .i64 0, .int .i64 0]) (t := 24) ?hr ?_; (case hd => rfl); (case hg => rfl); (case hr => first | (go_simp; done) | (go_simp; rfl)); intro gb101 hg w4 hbox hb; have n0_ := zaa.mk (zao (by repeat (first | (with_reducible first | exact HB.o | apply zaf | apply zah | apply zag) | exact HB.o)) hb); have n1_ := zaa.mk (hbox); have n2_ := zaa.mk ((by rw [hg]; exact (zan (by repeat (first | (with_reducible first | exact HB.o | apply zaf | apply zah | apply zag) | exact HB.o))) : w.heap.size ≤ gb101)); have n3_ := zaa.mk ((by rw [hg]; exact (zan (by repeat (first | (with_reducible first | exact HB.o | apply zaf | apply zah | apply zag) | exact HB.o))) : w.heap.size ≤ gb101)); clear HB; have HB := n0_; have BK101 := n1_; have GW101 := n2_; have GE101 := n3_; clear n0_ n1_ n2_ n3_; clear hb hbox hg; obtain ⟨hcz5_0, hcz5_1⟩ := cz2 BK101.o; obtain ⟨hfz5_0, hfz5_1⟩ := fz2 BK101.o)))
  refine bodyPost_ret (zav rfl _ _ gb101 24 #[.int .i64 0, .int .i64 0] (0, 0) _ rfl (by (with_reducible repeat (first | refine zad ?_ _ | refine zab ?_ | refine zac ?_ _)); refine zap (cs := #[.int .i64 0, .int .i64 0]) ?_ 1 _ rfl; (with_reducible repeat (first | refine zad ?_ _ | refine zab ?_ | refine zac ?_ _)); refine zap (cs := #[.int .i64 0, .int .i64 0]) ?_ 0 _ rfl; (with_reducible repeat (first | refine zad ?_ _ | refine zab ?_ | refine zac ?_ _)); exact BK101.o) Tryd.underlying24 rfl (by kernel_rfl)) rfl ?_
  exact ⟨by first | rfl | (simp [errW_none, errW_some] <;> rfl) | (simp [*, errW_none, errW_some] <;> rfl), by repeat (first | (with_reducible first | exact HB.o | apply zaf | apply zah | apply zag | refine zae ?_ GE101.o) | exact HB.o)⟩
 ·rw [if_neg c3] at H
  have c3b0 : (a1 == 0) = false := beq_eq_false_iff_ne.mpr c3
  have c3b1 : (a1 != 0) = true := bne_iff_ne.mpr c3
  replace H := Option.bind_eq_some_iff.mp H
  obtain ⟨t102, A60, H⟩ := H
  replace H : ((rational_size.f a1).bind fun t103 => ((rational_gcd.f k t102 t103).bind fun t104 => (if t104 = 0 then (none) else (if (IntKind.u64.wrap (Int.tdiv t102 t104)) > 2147483647 then (rational_Make.j0 k a0 a1 (IntKind.u64.wrap (Int.tdiv t102 t104)) (IntKind.u64.wrap (Int.tdiv t103 t104)) true) else (rational_Make.j0 k a0 a1 (IntKind.u64.wrap (Int.tdiv t102 t104)) (IntKind.u64.wrap (Int.tdiv t103 t104)) (decide ((IntKind.u64.wrap (Int.tdiv t103 t104)) > 2147483647))))))) = some (r1, r2, r3) := H
  have A6 := zaa.mk A60
  clear A60
  replace H := Option.bind_eq_some_iff.mp H
  obtain ⟨t103, A70, H⟩ := H
  replace H : ((rational_gcd.f k t102 t103).bind fun t104 => (if t104 = 0 then (none) else (if (IntKind.u64.wrap (Int.tdiv t102 t104)) > 2147483647 then (rational_Make.j0 k a0 a1 (IntKind.u64.wrap (Int.tdiv t102 t104)) (IntKind.u64.wrap (Int.tdiv t103 t104)) true) else (rational_Make.j0 k a0 a1 (IntKind.u64.wrap (Int.tdiv t102 t104)) (IntKind.u64.wrap (Int.tdiv t103 t104)) (decide ((IntKind.u64.wrap (Int.tdiv t103 t104)) > 2147483647)))))) = some (r1, r2, r3) := H
  have A7 := zaa.mk A70
  clear A70
  replace H := Option.bind_eq_some_iff.mp H
  obtain ⟨t104, A80, H⟩ := H
  replace H : (if t104 = 0 then (none) else (if (IntKind.u64.wrap (Int.tdiv t102 t104)) > 2147483647 then (rational_Make.j0 k a0 a1 (IntKind.u64.wrap (Int.tdiv t102 t104)) (IntKind.u64.wrap (Int.tdiv t103 t104)) true) else (rational_Make.j0 k a0 a1 (IntKind.u64.wrap (Int.tdiv t102 t104)) (IntKind.u64.wrap (Int.tdiv t103 t104)) (decide ((IntKind.u64.wrap (Int.tdiv t103 t104)) > 2147483647))))) = some (r1, r2, r3) := H
  have A8 := zaa.mk A80
  clear A80
  by_cases c9 : t104 = 0
  ·rw [if_pos c9] at H
   exact absurd H (by simp)
  ·rw [if_neg c9] at H
   have c9b0 : (t104 == 0) = false := beq_eq_false_iff_ne.mpr c9
   have c9b1 : (t104 != 0) = true := bne_iff_ne.mpr c9
   have HC10 := zaa.mk H
   clear H
   go_enter Tryd.func13, Tryd.ntmps13
   go_upto_region 6 with (first | ((with_reducible refine zaq (N := 4) rfl ?_); refine zar ?hg (N := 4) ?hd (cs := #[.int .i64 0, .int .i64 0]) (t := 24) ?hr ?_; (case hd => rfl); (case hg => rfl); (case hr => first | (go_simp; done) | (go_simp; rfl)); intro gb101 hg w11 hbox hb; have n0_ := zaa.mk (zao (by repeat (first | (with_reducible first | exact HB.o | apply zaf | apply zah | apply zag) | exact HB.o)) hb); have n1_ := zaa.mk (hbox); have n2_ := zaa.mk ((by rw [hg]; exact (zan (by repeat (first | (with_reducible first | exact HB.o | apply zaf | apply zah | apply zag) | exact HB.o))) : w.heap.size ≤ gb101)); have n3_ := zaa.mk ((by rw [hg]; exact (zan (by repeat (first | (with_reducible first | exact HB.o | apply zaf | apply zah | apply zag) | exact HB.o))) : w.heap.size ≤ gb101)); clear HB; have HB := n0_; have BK101 := n1_; have GW101 := n2_; have GE101 := n3_; clear n0_ n1_ n2_ n3_; clear hb hbox hg) | (go_at_call 41; (with_reducible refine (rational_size.calls a0 t102 _ A6.o).mono ?_); rintro e w' ⟨rfl, ⟨nd, rfl⟩⟩; (try first | exact ⟨rfl, _, World.drewN_drewN _ _ _⟩ | exact ⟨rfl, _, Eq.trans (World.drewN_drewN _ _ _) (congrArg (World.drewN _) (Nat.add_assoc _ _ _))⟩)) | (go_at_call 41; (with_reducible refine (rational_size.calls a1 t103 _ A7.o).mono ?_); rintro e w' ⟨rfl, ⟨nd, rfl⟩⟩; (try first | exact ⟨rfl, _, World.drewN_drewN _ _ _⟩ | exact ⟨rfl, _, Eq.trans (World.drewN_drewN _ _ _) (congrArg (World.drewN _) (Nat.add_assoc _ _ _))⟩)) | (go_at_call 42; (with_reducible refine (rational_gcd.calls k t102 t103 t104 _ A8.o).mono ?_); rintro e w' ⟨rfl, ⟨nd, rfl⟩⟩; (try first | exact ⟨rfl, _, World.drewN_drewN _ _ _⟩ | exact ⟨rfl, _, Eq.trans (World.drewN_drewN _ _ _) (congrArg (World.drewN _) (Nat.add_assoc _ _ _))⟩)))
   repeat (go_quiet (first | ((with_reducible refine zaq (N := 4) rfl ?_); refine zar ?hg (N := 4) ?hd (cs := #[.int .i64 0, .int .i64 0]) (t := 24) ?hr ?_; (case hd => rfl); (case hg => rfl); (case hr => first | (go_simp; done) | (go_simp; rfl)); intro gb101 hg w11 hbox hb; have n0_ := zaa.mk (zao (by repeat (first | (with_reducible first | exact HB.o | apply zaf | apply zah | apply zag) | exact HB.o)) hb); have n1_ := zaa.mk (hbox); have n2_ := zaa.mk ((by rw [hg]; exact (zan (by repeat (first | (with_reducible first | exact HB.o | apply zaf | apply zah | apply zag) | exact HB.o))) : w.heap.size ≤ gb101)); have n3_ := zaa.mk ((by rw [hg]; exact (zan (by repeat (first | (with_reducible first | exact HB.o | apply zaf | apply zah | apply zag) | exact HB.o))) : w.heap.size ≤ gb101)); clear HB; have HB := n0_; have BK101 := n1_; have GW101 := n2_; have GE101 := n3_; clear n0_ n1_ n2_ n3_; clear hb hbox hg) | (go_at_call 41; (with_reducible refine (rational_size.calls a0 t102 _ A6.o).mono ?_); rintro e w' ⟨rfl, ⟨nd, rfl⟩⟩; (try first | exact ⟨rfl, _, World.drewN_drewN _ _ _⟩ | exact ⟨rfl, _, Eq.trans (World.drewN_drewN _ _ _) (congrArg (World.drewN _) (Nat.add_assoc _ _ _))⟩)) | (go_at_call 41; (with_reducible refine (rational_size.calls a1 t103 _ A7.o).mono ?_); rintro e w' ⟨rfl, ⟨nd, rfl⟩⟩; (try first | exact ⟨rfl, _, World.drewN_drewN _ _ _⟩ | exact ⟨rfl, _, Eq.trans (World.drewN_drewN _ _ _) (congrArg (World.drewN _) (Nat.add_assoc _ _ _))⟩)) | (go_at_call 42; (with_reducible refine (rational_gcd.calls k t102 t103 t104 _ A8.o).mono ?_); rintro e w' ⟨rfl, ⟨nd, rfl⟩⟩; (try first | exact ⟨rfl, _, World.drewN_drewN _ _ _⟩ | exact ⟨rfl, _, Eq.trans (World.drewN_drewN _ _ _) (congrArg (World.drewN _) (Nat.add_assoc _ _ _))⟩))); go_upto_region 6 with (first | ((with_reducible refine zaq (N := 4) rfl ?_); refine zar ?hg (N := 4) ?hd (cs := #[.int .i64 0, .int .i64 0]) (t := 24) ?hr ?_; (case hd => rfl); (case hg => rfl); (case hr => first | (go_simp; done) | (go_simp; rfl)); intro gb101 hg w11 hbox hb; have n0_ := zaa.mk (zao (by repeat (first | (with_reducible first | exact HB.o | apply zaf | apply zah | apply zag) | exact HB.o)) hb); have n1_ := zaa.mk (hbox); have n2_ := zaa.mk ((by rw [hg]; exact (zan (by repeat (first | (with_reducible first | exact HB.o | apply zaf | apply zah | apply zag) | exact HB.o))) : w.heap.size ≤ gb101)); have n3_ := zaa.mk ((by rw [hg]; exact (zan (by repeat (first | (with_reducible first | exact HB.o | apply zaf | apply zah | apply zag) | exact HB.o))) : w.heap.size ≤ gb101)); clear HB; have HB := n0_; have BK101 := n1_; have GW101 := n2_; have GE101 := n3_; clear n0_ n1_ n2_ n3_; clear hb hbox hg) | (go_at_call 41; (with_reducible refine (rational_size.calls a0 t102 _ A6.o).mono ?_); rintro e w' ⟨rfl, ⟨nd, rfl⟩⟩; (try first | exact ⟨rfl, _, World.drewN_drewN _ _ _⟩ | exact ⟨rfl, _, Eq.trans (World.drewN_drewN _ _ _) (congrArg (World.drewN _) (Nat.add_assoc _ _ _))⟩)) | (go_at_call 41; (with_reducible refine (rational_size.calls a1 t103 _ A7.o).mono ?_); rintro e w' ⟨rfl, ⟨nd, rfl⟩⟩; (try first | exact ⟨rfl, _, World.drewN_drewN _ _ _⟩ | exact ⟨rfl, _, Eq.trans (World.drewN_drewN _ _ _) (congrArg (World.drewN _) (Nat.add_assoc _ _ _))⟩)) | (go_at_call 42; (with_reducible refine (rational_gcd.calls k t102 t103 t104 _ A8.o).mono ?_); rintro e w' ⟨rfl, ⟨nd, rfl⟩⟩; (try first | exact ⟨rfl, _, World.drewN_drewN _ _ _⟩ | exact ⟨rfl, _, Eq.trans (World.drewN_drewN _ _ _) (congrArg (World.drewN _) (Nat.add_assoc _ _ _))⟩))))
   (try simp only [Act.put, List.setIfInBounds_toArray, List.set_cons_zero, List.set_cons_succ])
   go_cut [31] (fun v31 wc => ∃ (kq : Nat) (x31_9 : Bool), v31 = .bool x31_9 ∧ zaa (rational_Make.j0 kq a0 a1 (IntKind.u64.wrap (Int.tdiv t102 t104)) (IntKind.u64.wrap (Int.tdiv t103 t104)) x31_9 = some (r1, r2, r3)) ∧ zaa (kq ≤ k) ∧ zaa (wc.heap[gb101]? = some (.cells #[.int .i64 0, .int .i64 0] 24 (0, 0))) ∧ zaa (Below w.heap.size w wc))
   case first =>
    have H := HC10.out
    clear HC10
    by_cases c12 : (IntKind.u64.wrap (Int.tdiv t102 t104)) > 2147483647
    ·rw [if_pos c12] at H
     have c12b0 : decide (2147483647 < (IntKind.u64.wrap (Int.tdiv t102 t104))) = true := decide_eq_true c12
     clear c12
     (first | rw [c12b0] | (simp only [i64_w, i32_w]; rw [c12b0]) | skip)
     have H' := zaa.mk H
     clear H
     go_wp2
     repeat (go_quiet (fail); try go_wp2)
     go_meet
     case rel => exact ⟨_, (true), (by first | rfl | (simp; done) | (simp [*]; done)), H', ⟨by first | omega | exact Nat.le_refl _⟩, ⟨by (with_reducible repeat (first | refine zad ?_ _ | refine zab ?_ | refine zac ?_ _)); exact BK101.o⟩, ⟨by repeat (first | (with_reducible first | exact HB.o | apply zaf | apply zah | apply zag | refine zae ?_ GE101.o) | exact HB.o)⟩⟩
    ·rw [if_neg c12] at H
     have c12b0 : decide (2147483647 < (IntKind.u64.wrap (Int.tdiv t102 t104))) = false := decide_eq_false c12
     clear c12
     (first | rw [c12b0] | (simp only [i64_w, i32_w]; rw [c12b0]) | skip)
     have H' := zaa.mk H
     clear H
     go_wp2
     repeat (go_quiet (fail); try go_wp2)
     go_meet
     case rel => exact ⟨_, (decide ((IntKind.u64.wrap (Int.tdiv t103 t104)) > 2147483647)), (by first | rfl | (simp; done) | (simp [*]; done)), H', ⟨by first | omega | exact Nat.le_refl _⟩, ⟨by (with_reducible repeat (first | refine zad ?_ _ | refine zab ?_ | refine zac ?_ _)); exact BK101.o⟩, ⟨by repeat (first | (with_reducible first | exact HB.o | apply zaf | apply zah | apply zag | refine zae ?_ GE101.o) | exact HB.o)⟩⟩
   case rest =>
    clear HC10
    try clear c1
    try clear p2
    try clear c3
    try clear c3b0
    try clear c3b1
    try clear c9
    try clear c9b0
    try clear c9b1
    try clear c12
    try clear c12b0
    try clear hcz5_0
    try clear hcz5_1
    try clear hfz5_0
    try clear hfz5_1
    obtain ⟨kq, x31_9, rfl, HA, HJ9, BK101, HB⟩ := hcut
    cases kq with
    | zero => exact absurd HA.o (by simp [rational_Make.j0])
    | succ kj9 =>
     have H := HA.o
     clear HA
     simp only [rational_Make.j0] at H
     by_cases c13 : x31_9 = true
     ·subst c13
      have H1 : (some (0, 0, 2)) = some (r1, r2, r3) := by rw [if_pos rfl] at H; exact H
      clear H
      have H := H1
      clear H1
      simp only [Option.some.injEq, Prod.mk.injEq] at H
      obtain ⟨rfl, rfl, rfl⟩ := H
      have hcz14_0 : wc.cell? ⟨gb101, 0, none⟩ = some (.int .i64 0) := (zai BK101.o 0).trans rfl
      have hcz14_1 : wc.cell? ⟨gb101, 1, none⟩ = some (.int .i64 0) := (zai BK101.o 1).trans rfl
      have hfz14_0 := zak BK101.o 0
      have hfz14_1 := zak BK101.o 1
      go_wp2
      repeat (go_quiet (fail); try go_wp2)
      refine bodyPost_ret (zav rfl _ _ gb101 24 #[.int .i64 0, .int .i64 0] (0, 0) _ rfl (by (with_reducible repeat (first | refine zad ?_ _ | refine zab ?_ | refine zac ?_ _)); refine zap (cs := #[.int .i64 0, .int .i64 0]) ?_ 1 _ rfl; (with_reducible repeat (first | refine zad ?_ _ | refine zab ?_ | refine zac ?_ _)); refine zap (cs := #[.int .i64 0, .int .i64 0]) ?_ 0 _ rfl; (with_reducible repeat (first | refine zad ?_ _ | refine zab ?_ | refine zac ?_ _)); exact BK101.o) Tryd.underlying24 rfl (by kernel_rfl)) rfl ?_
      exact ⟨by first | rfl | (simp [errW_none, errW_some] <;> rfl) | (simp [*, errW_none, errW_some] <;> rfl), by repeat (first | (with_reducible first | exact HB.o | apply zaf | apply zah | apply zag | refine zae ?_ GE101.o) | exact HB.o)⟩
     ·replace c13 := Bool.eq_false_iff.mpr c13
      subst c13
      have H1 : (if ((decide (a0 < 0)) != (decide (a1 < 0))) = true then (some (wrap64 (-(wrap64 ((IntKind.u64.wrap (Int.tdiv t102 t104))))), wrap64 ((IntKind.u64.wrap (Int.tdiv t103 t104))), 0)) else (some (wrap64 ((IntKind.u64.wrap (Int.tdiv t102 t104))), wrap64 ((IntKind.u64.wrap (Int.tdiv t103 t104))), 0))) = some (r1, r2, r3) := by rw [if_neg (show ¬ (false = true) by decide)] at H; exact H
      clear H
      have H := H1
      clear H1
      by_cases c15 : ((decide (a0 < 0)) != (decide (a1 < 0))) = true
      ·rw [if_pos c15] at H
       have c15b0 : ((decide (a0 < 0)) != (decide (a1 < 0))) = true := c15
       (try (have c15b1 : decide ((decide (a0 < 0)) = (decide (a1 < 0))) = false := by simpa using c15))
       (try (have c15b2 : ((decide (a0 < 0)) == (decide (a1 < 0))) = false := by simpa using c15))
       (try (have c15b3 : ¬ ((decide (a0 < 0)) = (decide (a1 < 0))) := by simpa using c15))
       clear c15
       simp only [Option.some.injEq, Prod.mk.injEq] at H
       obtain ⟨rfl, rfl, rfl⟩ := H
       have hcz16_0 : wc.cell? ⟨gb101, 0, none⟩ = some (.int .i64 0) := (zai BK101.o 0).trans rfl
       have hcz16_1 : wc.cell? ⟨gb101, 1, none⟩ = some (.int .i64 0) := (zai BK101.o 1).trans rfl
       have hfz16_0 := zak BK101.o 0
       have hfz16_1 := zak BK101.o 1
       go_wp2
       repeat (go_quiet (fail); try go_wp2)
       refine bodyPost_ret (zav rfl _ _ gb101 24 #[.int .i64 (wrap64 (-(wrap64 ((IntKind.u64.wrap (Int.tdiv t102 t104)))))), .int .i64 (wrap64 ((IntKind.u64.wrap (Int.tdiv t103 t104))))] (0, 0) _ rfl (by (with_reducible repeat (first | refine zad ?_ _ | refine zab ?_ | refine zac ?_ _)); refine zap (cs := #[.int .i64 (wrap64 (-(wrap64 ((IntKind.u64.wrap (Int.tdiv t102 t104)))))), .int .i64 0]) ?_ 1 _ rfl; (with_reducible repeat (first | refine zad ?_ _ | refine zab ?_ | refine zac ?_ _)); refine zap (cs := #[.int .i64 0, .int .i64 0]) ?_ 0 _ rfl; (with_reducible repeat (first | refine zad ?_ _ | refine zab ?_ | refine zac ?_ _)); exact BK101.o) Tryd.underlying24 rfl (by kernel_rfl)) rfl ?_
       exact ⟨by first | rfl | (simp [errW_none, errW_some] <;> rfl) | (simp [*, errW_none, errW_some] <;> rfl), by repeat (first | (with_reducible first | exact HB.o | apply zaf | apply zah | apply zag | refine zae ?_ GE101.o) | exact HB.o)⟩
      ·rw [if_neg c15] at H
       have c15b0 : ((decide (a0 < 0)) != (decide (a1 < 0))) = false := by simpa using c15
       (try (have c15b1 : decide ((decide (a0 < 0)) = (decide (a1 < 0))) = true := by simpa using c15))
       (try (have c15b2 : ((decide (a0 < 0)) == (decide (a1 < 0))) = true := by simpa using c15))
       clear c15
       simp only [Option.some.injEq, Prod.mk.injEq] at H
       obtain ⟨rfl, rfl, rfl⟩ := H
       have hcz17_0 : wc.cell? ⟨gb101, 0, none⟩ = some (.int .i64 0) := (zai BK101.o 0).trans rfl
       have hcz17_1 : wc.cell? ⟨gb101, 1, none⟩ = some (.int .i64 0) := (zai BK101.o 1).trans rfl
       have hfz17_0 := zak BK101.o 0
       have hfz17_1 := zak BK101.o 1
       go_wp2
       repeat (go_quiet (fail); try go_wp2)
       refine bodyPost_ret (zav rfl _ _ gb101 24 #[.int .i64 (wrap64 ((IntKind.u64.wrap (Int.tdiv t102 t104)))), .int .i64 (wrap64 ((IntKind.u64.wrap (Int.tdiv t103 t104))))] (0, 0) _ rfl (by (with_reducible repeat (first | refine zad ?_ _ | refine zab ?_ | refine zac ?_ _)); refine zap (cs := #[.int .i64 (wrap64 ((IntKind.u64.wrap (Int.tdiv t102 t104)))), .int .i64 0]) ?_ 1 _ rfl; (with_reducible repeat (first | refine zad ?_ _ | refine zab ?_ | refine zac ?_ _)); refine zap (cs := #[.int .i64 0, .int .i64 0]) ?_ 0 _ rfl; (with_reducible repeat (first | refine zad ?_ _ | refine zab ?_ | refine zac ?_ _)); exact BK101.o) Tryd.underlying24 rfl (by kernel_rfl)) rfl ?_
       exact ⟨by first | rfl | (simp [errW_none, errW_some] <;> rfl) | (simp [*, errW_none, errW_some] <;> rfl), by repeat (first | (with_reducible first | exact HB.o | apply zaf | apply zah | apply zag | refine zae ?_ GE101.o) | exact HB.o)⟩

end Go.Proofs.YtoieknocpphjoaaDoor.P
