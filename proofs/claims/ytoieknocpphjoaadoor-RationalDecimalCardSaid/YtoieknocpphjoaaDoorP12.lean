--m
/- Written by wip/tool/hprint.py (the kit's print.py with hand-proved contracts set in): contracts of the functions that the statements of this seat reach, without conditions beyond those named in each theorem. -/
import Derived.Test.YtoieknocpphjoaaDoorP0
import Derived.Test.YtoieknocpphjoaaDoorP11
namespace Go.Proofs.YtoieknocpphjoaaDoor.P
open Go.RowKit Go.Proofs.YtoieknocpphjoaaDoorW.PrintWords Go.Proofs.YtoieknocpphjoaaDoorW.PrintLast Go.Proofs.YtoieknocpphjoaaDoorW.PrintMore
attribute [local go_sem] zay zaz zaA zaB zaC zaD zaE zaF   -- for this text's walks alone
set_option linter.unusedVariables false
set_option linter.unusedSimpArgs false

/-! ### vinculumref02_quotient: function 43 -/
def vinculumref02_quotient.j0 : Nat → Bool → Int → Int → Bool → Option (Int × Int × Int)
 | 0, _, _, _, _ => none
 | k + 1, x0, x1, x2, x23 => if x23 = true then (some (0, 0, 2)) else (if x0 = true then (some (wrap64 (-(wrap64 (x1))), wrap64 (x2), 0)) else (some (wrap64 (x1), wrap64 (x2), 0)))
def vinculumref02_quotient.f (k : Nat) (a0 : Bool) (a1 : Int) (a2 : Int) : Option (Int × Int × Int) := (vinculumref02_common.f k a1 a2).bind fun t119 => (if t119 = 0 then (none) else (if (IntKind.u64.wrap (Int.tdiv a1 t119)) > 2147483647 then (vinculumref02_quotient.j0 k a0 (IntKind.u64.wrap (Int.tdiv a1 t119)) (IntKind.u64.wrap (Int.tdiv a2 t119)) true) else (vinculumref02_quotient.j0 k a0 (IntKind.u64.wrap (Int.tdiv a1 t119)) (IntKind.u64.wrap (Int.tdiv a2 t119)) (decide ((IntKind.u64.wrap (Int.tdiv a2 t119)) > 2147483647)))))
theorem vinculumref02_quotient.mono_l : ∀ k, (∀ y0 y1 y2 y3, LeO (vinculumref02_quotient.j0 k y0 y1 y2 y3) (vinculumref02_quotient.j0 (k + 1) y0 y1 y2 y3))
 | 0 => fun _ _ _ _ r h => by simp [vinculumref02_quotient.j0] at h
 | k + 1 => by
  have ih0 := vinculumref02_quotient.mono_l k
  ·intro y0 y1 y2 y3
   unfold vinculumref02_quotient.j0
   repeat' first
   | (with_reducible exact ih0 _ _ _ _)
   | (with_reducible exact vinculumref02_common.mono _ _ _)
   | (with_reducible exact LeO.refl _)
   | (with_reducible exact LeO.none _)
   | (with_reducible refine LeO.ite ?_ ?_)
   | (with_reducible refine LeO.bind ?_ (fun _ => ?_))
   | exact ih0 _ _ _ _
   | exact vinculumref02_common.mono _ _ _
   | exact LeO.none _
   | refine LeO.ite ?_ ?_
   | refine LeO.bind ?_ (fun _ => ?_)
theorem vinculumref02_quotient.mono : ∀ a0 a1 a2 k, LeO (vinculumref02_quotient.f k a0 a1 a2) (vinculumref02_quotient.f (k + 1) a0 a1 a2) := by
 intro a0 a1 a2 k
 have ih0 := vinculumref02_quotient.mono_l k
 unfold vinculumref02_quotient.f
 repeat' first
   | (with_reducible exact ih0 _ _ _ _)
   | (with_reducible exact vinculumref02_common.mono _ _ _)
   | (with_reducible exact LeO.refl _)
   | (with_reducible exact LeO.none _)
   | (with_reducible refine LeO.ite ?_ ?_)
   | (with_reducible refine LeO.bind ?_ (fun _ => ?_))
   | exact ih0 _ _ _ _
   | exact vinculumref02_common.mono _ _ _
   | exact LeO.none _
   | refine LeO.ite ?_ ?_
   | refine LeO.bind ?_ (fun _ => ?_)
set_option maxHeartbeats 8000000 in
set_option maxRecDepth 100000 in
theorem vinculumref02_quotient.calls (k : Nat) (a0 : Bool) (a1 : Int) (a2 : Int) (r1 : Int) (r2 : Int) (r3 : Int) (w : World) (h : vinculumref02_quotient.f k a0 a1 a2 = some (r1, r2, r3)) :
  Calls Tryd.prog 43 #[.bool a0, .int .u64 a1, .int .u64 a2] w fun e w' => e = .returned (.tuple #[.agg #[.int .i64 r1, .int .i64 r2], .int .i64 r3]) ∧ Below w.heap.size w w' := by
 have hu28 := Tryd.underlying28
 have HB := zaa.mk (Below.refl w.heap.size w)
 have H : ((vinculumref02_common.f k a1 a2).bind fun t119 => (if t119 = 0 then (none) else (if (IntKind.u64.wrap (Int.tdiv a1 t119)) > 2147483647 then (vinculumref02_quotient.j0 k a0 (IntKind.u64.wrap (Int.tdiv a1 t119)) (IntKind.u64.wrap (Int.tdiv a2 t119)) true) else (vinculumref02_quotient.j0 k a0 (IntKind.u64.wrap (Int.tdiv a1 t119)) (IntKind.u64.wrap (Int.tdiv a2 t119)) (decide ((IntKind.u64.wrap (Int.tdiv a2 t119)) > 2147483647)))))) = some (r1, r2, r3) := h
 clear h
 replace H := Option.bind_eq_some_iff.mp H
 obtain ⟨t119, A40, H⟩ := H
 replace H : (if t119 = 0 then (none) else (if (IntKind.u64.wrap (Int.tdiv a1 t119)) > 2147483647 then (vinculumref02_quotient.j0 k a0 (IntKind.u64.wrap (Int.tdiv a1 t119)) (IntKind.u64.wrap (Int.tdiv a2 t119)) true) else (vinculumref02_quotient.j0 k a0 (IntKind.u64.wrap (Int.tdiv a1 t119)) (IntKind.u64.wrap (Int.tdiv a2 t119)) (decide ((IntKind.u64.wrap (Int.tdiv a2 t119)) > 2147483647))))) = some (r1, r2, r3) := H
 have A4 := zaa.mk A40
 clear A40
 by_cases c5 : t119 = 0
 ·rw [if_pos c5] at H
  exact absurd H (by simp)
 ·rw [if_neg c5] at H
  have c5b0 : (t119 == 0) = false := beq_eq_false_iff_ne.mpr c5
  have c5b1 : (t119 != 0) = true := bne_iff_ne.mpr c5
  have HC6 := zaa.mk H
  clear H
  go_enter Tryd.func43, Tryd.ntmps43
  go_upto_region 3 with (first | ((with_reducible refine zaq (N := 6) rfl ?_); refine zar ?hg (N := 6) ?hd (cs := #[.int .i64 0, .int .i64 0]) (t := 28) ?hr ?_; (case hd => rfl); (case hg => rfl); (case hr => first | (go_simp; done) | (go_simp; rfl)); intro gb118 hg w7 hbox hb; have n0_ := zaa.mk (zao (by repeat (first | (with_reducible first | exact HB.o | apply zaf | apply zah | apply zag) | exact HB.o)) hb); have n1_ := zaa.mk (hbox); have n2_ := zaa.mk ((by rw [hg]; exact (zan (by repeat (first | (with_reducible first | exact HB.o | apply zaf | apply zah | apply zag) | exact HB.o))) : w.heap.size ≤ gb118)); have n3_ := zaa.mk ((by rw [hg]; exact (zan (by repeat (first | (with_reducible first | exact HB.o | apply zaf | apply zah | apply zag) | exact HB.o))) : w.heap.size ≤ gb118)); clear HB; have HB := n0_; have BK118 := n1_; have GW118 := n2_; have GE118 := n3_; clear n0_ n1_ n2_ n3_; clear hb hbox hg) | (go_at_call 47; (with_reducible refine (vinculumref02_common.calls k a1 a2 t119 _ A4.o).mono ?_); rintro e w' ⟨rfl, ⟨nd, rfl⟩⟩; (try first | exact ⟨rfl, _, World.drewN_drewN _ _ _⟩ | exact ⟨rfl, _, Eq.trans (World.drewN_drewN _ _ _) (congrArg (World.drewN _) (Nat.add_assoc _ _ _))⟩)))
  repeat (go_quiet (first | ((with_reducible refine zaq (N := 6) rfl ?_); refine zar ?hg (N := 6) ?hd (cs := #[.int .i64 0, .int .i64 0]) (t := 28) ?hr ?_; (case hd => rfl); (case hg => rfl); (case hr => first | (go_simp; done) | (go_simp; rfl)); intro gb118 hg w7 hbox hb; have n0_ := zaa.mk (zao (by repeat (first | (with_reducible first | exact HB.o | apply zaf | apply zah | apply zag) | exact HB.o)) hb); have n1_ := zaa.mk (hbox); have n2_ := zaa.mk ((by rw [hg]; exact (zan (by repeat (first | (with_reducible first | exact HB.o | apply zaf | apply zah | apply zag) | exact HB.o))) : w.heap.size ≤ gb118)); have n3_ := zaa.mk ((by rw [hg]; exact (zan (by repeat (first | (with_reducible first | exact HB.o | apply zaf | apply zah | apply zag) | exact HB.o))) : w.heap.size ≤ gb118)); clear HB; have HB := n0_; have BK118 := n1_; have GW118 := n2_; have GE118 := n3_; clear n0_ n1_ n2_ n3_; clear hb hbox hg) | (go_at_call 47; (with_reducible refine (vinculumref02_common.calls k a1 a2 t119 _ A4.o).mono ?_); rintro e w' ⟨rfl, ⟨nd, rfl⟩⟩; (try first | exact ⟨rfl, _, World.drewN_drewN _ _ _⟩ | exact ⟨rfl, _, Eq.trans (World.drewN_drewN _ _ _) (congrArg (World.drewN _) (Nat.add_assoc _ _ _))⟩))); go_upto_region 3 with (first | ((with_reducible refine zaq (N := 6) rfl ?_); refine zar ?hg (N := 6) ?hd (cs := #[.int .i64 0, .int .i64 0]) (t := 28) ?hr ?_; (case hd => rfl); (case hg => rfl); (case hr => first | (go_simp; done) | (go_simp; rfl)); intro gb118 hg w7 hbox hb; have n0_ := zaa.mk (zao (by repeat (first | (with_reducible first | exact HB.o | apply zaf | apply zah | apply zag) | exact HB.o)) hb); have n1_ := zaa.mk (hbox); have n2_ := zaa.mk ((by rw [hg]; exact (zan (by repeat (first | (with_reducible first | exact HB.o | apply zaf | apply zah | apply zag) | exact HB.o))) : w.heap.size ≤ gb118)); have n3_ := zaa.mk ((by rw [hg]; exact (zan (by repeat (first | (with_reducible first | exact HB.o | apply zaf | apply zah | apply zag) | exact HB.o))) : w.heap.size ≤ gb118)); clear HB; have HB := n0_; have BK118 := n1_; have GW118 := n2_; have GE118 := n3_; clear n0_ n1_ n2_ n3_; clear hb hbox hg) | (go_at_call 47; (with_reducible refine (vinculumref02_common.calls k a1 a2 t119 _ A4.o).mono ?_); rintro e w' ⟨rfl, ⟨nd, rfl⟩⟩; (try first | exact ⟨rfl, _, World.drewN_drewN _ _ _⟩ | exact ⟨rfl, _, Eq.trans (World.drewN_drewN _ _ _) (congrArg (World.drewN _) (Nat.add_assoc _ _ _))⟩))))
  (try simp only [Act.put, List.setIfInBounds_toArray, List.set_cons_zero, List.set_cons_succ])
  go_cut [23] (fun v23 wc => ∃ (kq : Nat) (x23_5 : Bool), v23 = .bool x23_5 ∧ zaa (vinculumref02_quotient.j0 kq a0 (IntKind.u64.wrap (Int.tdiv a1 t119)) (IntKind.u64.wrap (Int.tdiv a2 t119)) x23_5 = some (r1, r2, r3)) ∧ zaa (kq ≤ k) ∧ zaa (wc.heap[gb118]? = some (.cells #[.int .i64 0, .int .i64 0] 28 (0, 0))) ∧ zaa (Below w.heap.size w wc))
  case first =>
   have H := HC6.out
   clear HC6
   by_cases c8 : (IntKind.u64.wrap (Int.tdiv a1 t119)) > 2147483647
   ·rw [if_pos c8] at H
    have c8b0 : decide (2147483647 < (IntKind.u64.wrap (Int.tdiv a1 t119))) = true := decide_eq_true c8
    clear c8
    (first | rw [c8b0] | (simp only [i64_w, i32_w]; rw [c8b0]) | skip)
    have H' := zaa.mk H
    clear H
    go_wp2
    repeat (go_quiet (fail); try go_wp2)
    go_meet
    case rel => exact ⟨_, (true), (by first | rfl | (simp; done) | (simp [*]; done)), H', ⟨by first | omega | exact Nat.le_refl _⟩, ⟨by (with_reducible repeat (first | refine zad ?_ _ | refine zab ?_ | refine zac ?_ _)); exact BK118.o⟩, ⟨by repeat (first | (with_reducible first | exact HB.o | apply zaf | apply zah | apply zag | refine zae ?_ GE118.o) | exact HB.o)⟩⟩
   ·rw [if_neg c8] at H
    have c8b0 : decide (2147483647 < (IntKind.u64.wrap (Int.tdiv a1 t119))) = false := decide_eq_false c8
    clear c8
    (first | rw [c8b0] | (simp only [i64_w, i32_w]; rw [c8b0]) | skip)
    have H' := zaa.mk H
    clear H
    go_wp2
    repeat (go_quiet (fail); try go_wp2)
    go_meet
    case rel => exact ⟨_, (decide ((IntKind.u64.wrap (Int.tdiv a2 t119)) > 2147483647)), (by first | rfl | (simp; done) | (simp [*]; done)), H', ⟨by first | omega | exact Nat.le_refl _⟩, ⟨by (with_reducible repeat (first | refine zad ?_ _ | refine zab ?_ | refine zac ?_ _)); exact BK118.o⟩, ⟨by repeat (first | (with_reducible first | exact HB.o | apply zaf | apply zah | apply zag | refine zae ?_ GE118.o) | exact HB.o)⟩⟩
  case rest =>
   clear HC6
   try clear p2
   try clear c4
   try clear c5
   try clear c5b0
   try clear c5b1
   try clear c8
   try clear c8b0
   obtain ⟨kq, x23_5, rfl, HA, HJ5, BK118, HB⟩ := hcut
   cases kq with
   | zero => exact absurd HA.o (by simp [vinculumref02_quotient.j0])
   | succ kj5 =>
    have H := HA.o
    clear HA
    simp only [vinculumref02_quotient.j0] at H
    by_cases c9 : x23_5 = true
    ·subst c9
     have H1 : (some (0, 0, 2)) = some (r1, r2, r3) := by rw [if_pos rfl] at H; exact H
     clear H
     have H := H1
     clear H1
     simp only [Option.some.injEq, Prod.mk.injEq] at H
     obtain ⟨rfl, rfl, rfl⟩ := H
     have hcz10_0 : wc.cell? ⟨gb118, 0, none⟩ = some (.int .i64 0) := (zai BK118.o 0).trans rfl
     have hcz10_1 : wc.cell? ⟨gb118, 1, none⟩ = some (.int .i64 0) := (zai BK118.o 1).trans rfl
     have hfz10_0 := zak BK118.o 0
     have hfz10_1 := zak BK118.o 1
     go_wp2
     repeat (go_quiet (fail); try go_wp2)
     refine bodyPost_ret (zav rfl _ _ gb118 28 #[.int .i64 0, .int .i64 0] (0, 0) _ rfl (by (with_reducible repeat (first | refine zad ?_ _ | refine zab ?_ | refine zac ?_ _)); refine zap (cs := #[.int .i64 0, .int .i64 0]) ?_ 1 _ rfl; (with_reducible repeat (first | refine zad ?_ _ | refine zab ?_ | refine zac ?_ _)); refine zap (cs := #[.int .i64 0, .int .i64 0]) ?_ 0 _ rfl; (with_reducible repeat (first | refine zad ?_ _ | refine zab ?_ | refine zac ?_ _)); exact BK118.o) Tryd.underlying28 rfl (by kernel_rfl)) rfl ?_
     exact ⟨by first | rfl | (simp [errW_none, errW_some] <;> rfl) | (simp [*, errW_none, errW_some] <;> rfl), by repeat (first | (with_reducible first | exact HB.o | apply zaf | apply zah | apply zag | refine zae ?_ GE118.o) | exact HB.o)⟩
    ·replace c9 := Bool.eq_false_iff.mpr c9
     subst c9
     have H1 : (if a0 = true then (some (wrap64 (-(wrap64 ((IntKind.u64.wrap (Int.tdiv a1 t119))))), wrap64 ((IntKind.u64.wrap (Int.tdiv a2 t119))), 0)) else (some (wrap64 ((IntKind.u64.wrap (Int.tdiv a1 t119))), wrap64 ((IntKind.u64.wrap (Int.tdiv a2 t119))), 0))) = some (r1, r2, r3) := by rw [if_neg (show ¬ (false = true) by decide)] at H; exact H
     clear H
     have H := H1
     clear H1
     by_cases c11 : a0 = true
     ·subst c11
      have H1 : (some (wrap64 (-(wrap64 ((IntKind.u64.wrap (Int.tdiv a1 t119))))), wrap64 ((IntKind.u64.wrap (Int.tdiv a2 t119))), 0)) = some (r1, r2, r3) := by rw [if_pos rfl] at H; exact H
      clear H
      have H := H1
      clear H1
      simp only [Option.some.injEq, Prod.mk.injEq] at H
      obtain ⟨rfl, rfl, rfl⟩ := H
      have hcz12_0 : wc.cell? ⟨gb118, 0, none⟩ = some (.int .i64 0) := (zai BK118.o 0).trans rfl
      have hcz12_1 : wc.cell? ⟨gb118, 1, none⟩ = some (.int .i64 0) := (zai BK118.o 1).trans rfl
      have hfz12_0 := zak BK118.o 0
      have hfz12_1 := zak BK118.o 1
      go_wp2
      repeat (go_quiet (fail); try go_wp2)
      refine bodyPost_ret (zav rfl _ _ gb118 28 #[.int .i64 (wrap64 (-(wrap64 ((IntKind.u64.wrap (Int.tdiv a1 t119)))))), .int .i64 (wrap64 ((IntKind.u64.wrap (Int.tdiv a2 t119))))] (0, 0) _ rfl (by (with_reducible repeat (first | refine zad ?_ _ | refine zab ?_ | refine zac ?_ _)); refine zap (cs := #[.int .i64 (wrap64 (-(wrap64 ((IntKind.u64.wrap (Int.tdiv a1 t119)))))), .int .i64 0]) ?_ 1 _ rfl; (with_reducible repeat (first | refine zad ?_ _ | refine zab ?_ | refine zac ?_ _)); refine zap (cs := #[.int .i64 0, .int .i64 0]) ?_ 0 _ rfl; (with_reducible repeat (first | refine zad ?_ _ | refine zab ?_ | refine zac ?_ _)); exact BK118.o) Tryd.underlying28 rfl (by kernel_rfl)) rfl ?_
      exact ⟨by first | rfl | (simp [errW_none, errW_some] <;> rfl) | (simp [*, errW_none, errW_some] <;> rfl), by repeat (first | (with_reducible first | exact HB.o | apply zaf | apply zah | apply zag | refine zae ?_ GE118.o) | exact HB.o)⟩
     ·replace c11 := Bool.eq_false_iff.mpr c11
      subst c11
      have H1 : (some (wrap64 ((IntKind.u64.wrap (Int.tdiv a1 t119))), wrap64 ((IntKind.u64.wrap (Int.tdiv a2 t119))), 0)) = some (r1, r2, r3) := by rw [if_neg (show ¬ (false = true) by decide)] at H; exact H
      clear H
      have H := H1
      clear H1
      simp only [Option.some.injEq, Prod.mk.injEq] at H
      obtain ⟨rfl, rfl, rfl⟩ := H
      have hcz13_0 : wc.cell? ⟨gb118, 0, none⟩ = some (.int .i64 0) := (zai BK118.o 0).trans rfl
      have hcz13_1 : wc.cell? ⟨gb118, 1, none⟩ = some (.int .i64 0) := (zai BK118.o 1).trans rfl
      have hfz13_0 := zak BK118.o 0
      have hfz13_1 := zak BK118.o 1
      go_wp2
      repeat (go_quiet (fail); try go_wp2)
      refine bodyPost_ret (zav rfl _ _ gb118 28 #[.int .i64 (wrap64 ((IntKind.u64.wrap (Int.tdiv a1 t119)))), .int .i64 (wrap64 ((IntKind.u64.wrap (Int.tdiv a2 t119))))] (0, 0) _ rfl (by (with_reducible repeat (first | refine zad ?_ _ | refine zab ?_ | refine zac ?_ _)); refine zap (cs := #[.int .i64 (wrap64 ((IntKind.u64.wrap (Int.tdiv a1 t119)))), .int .i64 0]) ?_ 1 _ rfl; (with_reducible repeat (first | refine zad ?_ _ | refine zab ?_ | refine zac ?_ _)); refine zap (cs := #[.int .i64 0, .int .i64 0]) ?_ 0 _ rfl; (with_reducible repeat (first | refine zad ?_ _ | refine zab ?_ | refine zac ?_ _)); exact BK118.o) Tryd.underlying28 rfl (by kernel_rfl)) rfl ?_
      exact ⟨by first | rfl | (simp [errW_none, errW_some] <;> rfl) | (simp [*, errW_none, errW_some] <;> rfl), by repeat (first | (with_reducible first | exact HB.o | apply zaf | apply zah | apply zag | refine zae ?_ GE118.o) | exact HB.o)⟩

end Go.Proofs.YtoieknocpphjoaaDoor.P
