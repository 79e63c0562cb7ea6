--m
/- Written by wip/tool/hprint.py (the kit's print.py with hand-proved contracts set in): contracts of the functions that the statements of this seat reach, without conditions beyond those named in each theorem. -/
import Derived.Test.YtoieknocpphjoaaDoorP0
import Derived.Test.YtoieknocpphjoaaDoorP52
import Derived.Test.YtoieknocpphjoaaDoorP54
import Derived.Test.YtoieknocpphjoaaDoorP56
namespace Go.Proofs.YtoieknocpphjoaaDoor.P
open Go.RowKit Go.Proofs.YtoieknocpphjoaaDoorW.PrintWords Go.Proofs.YtoieknocpphjoaaDoorW.PrintLast Go.Proofs.YtoieknocpphjoaaDoorW.PrintMore
attribute [local go_sem] zay zaz zaA zaB zaC zaD zaE zaF   -- for this text's walks alone
set_option linter.unusedVariables false
set_option linter.unusedSimpArgs false

/-! ### vinculumref02_Parse: function 40 -/
mutual
def vinculumref02_Parse.j0 : Nat → ByteArray → Bool → Option (Int × Int × Int)
 | 0, _, _ => none
 | k + 1, x0, x14 => if x14 = true then (some (0, 0, 3)) else (vinculumref02_Parse.l0 k x0)
def vinculumref02_Parse.j2 : Nat → ByteArray → Option (Int × Int × Int)
 | 0, _ => none
 | k + 1, x0 => (vinculumref02_point.f k x0).bind fun t517 => (if t517 ≥ 0 then (if 0 ≤ t517 then (if t517 ≤ (x0.size : Int) then (if 0 ≤ (wrap64 (t517 + 1)) then (if (wrap64 (t517 + 1)) ≤ (x0.size : Int) then (vinculumref02_Parse.j3 k (x0.extract 0 (t517 : Int).toNat) (x0.extract ((wrap64 (t517 + 1)) : Int).toNat x0.size)) else (none)) else (none)) else (none)) else (none)) else (vinculumref02_Parse.j3 k x0 (⟨#[]⟩ : ByteArray)))
def vinculumref02_Parse.j3 : Nat → ByteArray → ByteArray → Option (Int × Int × Int)
 | 0, _, _ => none
 | k + 1, x4, x5 => vinculumref02_Parse.l1 k x4 x5
def vinculumref02_Parse.l1 : Nat → ByteArray → ByteArray → Option (Int × Int × Int)
 | 0, _, _ => none
 | k + 1, x4, x5 => if (x5.size : Int) > 0 then (if 0 ≤ (wrap64 ((x5.size : Int) - 1)) then (if (wrap64 ((x5.size : Int) - 1)) < (x5.size : Int) then (if (bt x5 (wrap64 ((x5.size : Int) - 1))) = 48 then (if (wrap64 ((x5.size : Int) - 1)) ≤ (x5.size : Int) then (vinculumref02_Parse.l1 k x4 (x5.extract 0 ((wrap64 ((x5.size : Int) - 1)) : Int).toNat)) else (none)) else (if (x4.size : Int) > 10 then (some (0, 0, 2)) else (if (x5.size : Int) > 31 then (some (0, 0, 2)) else (if x4.size + x5.size ≤ 9223372036854775807 then ((vinculumref02_reduced.f k (x4 ++ x5) (x5.size : Int)).bind fun bt518 => (some (bt518.1, bt518.2.1, bt518.2.2))) else (none))))) else (none)) else (none)) else (if (x4.size : Int) > 10 then (some (0, 0, 2)) else (if (x5.size : Int) > 31 then (some (0, 0, 2)) else (if x4.size + x5.size ≤ 9223372036854775807 then ((vinculumref02_reduced.f k (x4 ++ x5) (x5.size : Int)).bind fun bt521 => (some (bt521.1, bt521.2.1, bt521.2.2))) else (none))))
def vinculumref02_Parse.l0 : Nat → ByteArray → Option (Int × Int × Int)
 | 0, _ => none
 | k + 1, x0 => if (x0.size : Int) > 1 then (if 0 < (x0.size : Int) then (if (bt x0 0) = 48 then (if 1 < (x0.size : Int) then (if (bt x0 1) = 46 then (vinculumref02_Parse.j2 k x0) else (if 1 ≤ (x0.size : Int) then (vinculumref02_Parse.l0 k (x0.extract 1 x0.size)) else (none))) else (none)) else (vinculumref02_Parse.j2 k x0)) else (none)) else (vinculumref02_Parse.j2 k x0)
end
def vinculumref02_Parse.f (k : Nat) (a0 : ByteArray) : Option (Int × Int × Int) := if (a0.size : Int) > 40 then (vinculumref02_Parse.j0 k a0 true) else ((vinculumref02_Decimal.f k a0).bind fun t516 => (vinculumref02_Parse.j0 k a0 (!t516)))
theorem vinculumref02_Parse.mono_l : ∀ k, (∀ y0 y1, LeO (vinculumref02_Parse.j0 k y0 y1) (vinculumref02_Parse.j0 (k + 1) y0 y1)) ∧ (∀ y0, LeO (vinculumref02_Parse.j2 k y0) (vinculumref02_Parse.j2 (k + 1) y0)) ∧ (∀ y0 y1, LeO (vinculumref02_Parse.j3 k y0 y1) (vinculumref02_Parse.j3 (k + 1) y0 y1)) ∧ (∀ y0 y1, LeO (vinculumref02_Parse.l1 k y0 y1) (vinculumref02_Parse.l1 (k + 1) y0 y1)) ∧ (∀ y0, LeO (vinculumref02_Parse.l0 k y0) (vinculumref02_Parse.l0 (k + 1) y0))
 | 0 => ⟨fun _ _ r h => by simp [vinculumref02_Parse.j0] at h, fun _ r h => by simp [vinculumref02_Parse.j2] at h, fun _ _ r h => by simp [vinculumref02_Parse.j3] at h, fun _ _ r h => by simp [vinculumref02_Parse.l1] at h, fun _ r h => by simp [vinculumref02_Parse.l0] at h⟩
 | k + 1 => by
  obtain ⟨ih0, ih1, ih2, ih3, ih4⟩ := vinculumref02_Parse.mono_l k
  refine ⟨?_, ?_, ?_, ?_, ?_⟩
  ·intro y0 y1
   unfold vinculumref02_Parse.j0
   repeat' first
   | (with_reducible exact ih0 _ _)
   | (with_reducible exact ih1 _)
   | (with_reducible exact ih2 _ _)
   | (with_reducible exact ih3 _ _)
   | (with_reducible exact ih4 _)
   | (with_reducible exact vinculumref02_Decimal.mono _ _)
   | (with_reducible exact vinculumref02_point.mono _ _)
   | (with_reducible exact vinculumref02_reduced.mono _ _ _)
   | (with_reducible exact LeO.refl _)
   | (with_reducible exact LeO.none _)
   | (with_reducible refine LeO.ite ?_ ?_)
   | (with_reducible refine LeO.bind ?_ (fun _ => ?_))
   | exact ih0 _ _
   | exact ih1 _
   | exact ih2 _ _
   | exact ih3 _ _
   | exact ih4 _
   | exact vinculumref02_Decimal.mono _ _
   | exact vinculumref02_point.mono _ _
   | exact vinculumref02_reduced.mono _ _ _
   | exact LeO.none _
   | refine LeO.ite ?_ ?_
   | refine LeO.bind ?_ (fun _ => ?_)
  ·intro y0
   unfold vinculumref02_Parse.j2
   repeat' first
   | (with_reducible exact ih0 _ _)
   | (with_reducible exact ih1 _)
   | (with_reducible exact ih2 _ _)
   | (with_reducible exact ih3 _ _)
   | (with_reducible exact ih4 _)
   | (with_reducible exact vinculumref02_Decimal.mono _ _)
   | (with_reducible exact vinculumref02_point.mono _ _)
   | (with_reducible exact vinculumref02_reduced.mono _ _ _)
   | (with_reducible exact LeO.refl _)
   | (with_reducible exact LeO.none _)
   | (with_reducible refine LeO.ite ?_ ?_)
   | (with_reducible refine LeO.bind ?_ (fun _ => ?_))
   | exact ih0 _ _
   | exact ih1 _
   | exact ih2 _ _
   | exact ih3 _ _
   | exact ih4 _
   | exact vinculumref02_Decimal.mono _ _
   | exact vinculumref02_point.mono _ _
   | exact vinculumref02_reduced.mono _ _ _
   | exact LeO.none _
   | refine LeO.ite ?_ ?_
   | refine LeO.bind ?_ (fun _ => ?_)
  ·intro y0 y1
   unfold vinculumref02_Parse.j3
   repeat' first
   | (with_reducible exact ih0 _ _)
   | (with_reducible exact ih1 _)
   | (with_reducible exact ih2 _ _)
   | (with_reducible exact ih3 _ _)
   | (with_reducible exact ih4 _)
   | (with_reducible exact vinculumref02_Decimal.mono _ _)
   | (with_reducible exact vinculumref02_point.mono _ _)
   | (with_reducible exact vinculumref02_reduced.mono _ _ _)
   | (with_reducible exact LeO.refl _)
   | (with_reducible exact LeO.none _)
   | (with_reducible refine LeO.ite ?_ ?_)
   | (with_reducible refine LeO.bind ?_ (fun _ => ?_))
   | exact ih0 _ _
   | exact ih1 _
   | exact ih2 _ _
   | exact ih3 _ _
   | exact ih4 _
   | exact vinculumref02_Decimal.mono _ _
   | exact vinculumref02_point.mono _ _
   | exact vinculumref02_reduced.mono _ _ _
   | exact LeO.none _
   | refine LeO.ite ?_ ?_
   | refine LeO.bind ?_ (fun _ => ?_)
  ·intro y0 y1
   unfold vinculumref02_Parse.l1
   repeat' first
   | (with_reducible exact ih0 _ _)
   | (with_reducible exact ih1 _)
   | (with_reducible exact ih2 _ _)
   | (with_reducible exact ih3 _ _)
   | (with_reducible exact ih4 _)
   | (with_reducible exact vinculumref02_Decimal.mono _ _)
   | (with_reducible exact vinculumref02_point.mono _ _)
   | (with_reducible exact vinculumref02_reduced.mono _ _ _)
   | (with_reducible exact LeO.refl _)
   | (with_reducible exact LeO.none _)
   | (with_reducible refine LeO.ite ?_ ?_)
   | (with_reducible refine LeO.bind ?_ (fun _ => ?_))
   | exact ih0 _ _
   | exact ih1 _
   | exact ih2 _ _
   | exact ih3 _ _
   | exact ih4 _
   | exact vinculumref02_Decimal.mono _ _
   | exact vinculumref02_point.mono _ _
   | exact vinculumref02_reduced.mono _ _ _
   | exact LeO.none _
   | refine LeO.ite ?_ ?_
   | refine LeO.bind ?_ (fun _ => ?_)
  ·intro y0
   unfold vinculumref02_Parse.l0
   repeat' first
   | (with_reducible exact ih0 _ _)
   | (with_reducible exact ih1 _)
   | (with_reducible exact ih2 _ _)
   | (with_reducible exact ih3 _ _)
   | (with_reducible exact ih4 _)
   | (with_reducible exact vinculumref02_Decimal.mono _ _)
   | (with_reducible exact vinculumref02_point.mono _ _)
   | (with_reducible exact vinculumref02_reduced.mono _ _ _)
   | (with_reducible exact LeO.refl _)
   | (with_reducible exact LeO.none _)
   | (with_reducible refine LeO.ite ?_ ?_)
   | (with_reducible refine LeO.bind ?_ (fun _ => ?_))
   | exact ih0 _ _
   | exact ih1 _
   | exact ih2 _ _
   | exact ih3 _ _
   | exact ih4 _
   | exact vinculumref02_Decimal.mono _ _
   | exact vinculumref02_point.mono _ _
   | exact vinculumref02_reduced.mono _ _ _
   | exact LeO.none _
   | refine LeO.ite ?_ ?_
   | refine LeO.bind ?_ (fun _ => ?_)
theorem vinculumref02_Parse.mono : ∀ a0 k, LeO (vinculumref02_Parse.f k a0) (vinculumref02_Parse.f (k + 1) a0) := by
 intro a0 k
 obtain ⟨ih0, ih1, ih2, ih3, ih4⟩ := vinculumref02_Parse.mono_l k
 unfold vinculumref02_Parse.f
 repeat' first
   | (with_reducible exact ih0 _ _)
   | (with_reducible exact ih1 _)
   | (with_reducible exact ih2 _ _)
   | (with_reducible exact ih3 _ _)
   | (with_reducible exact ih4 _)
   | (with_reducible exact vinculumref02_Decimal.mono _ _)
   | (with_reducible exact vinculumref02_point.mono _ _)
   | (with_reducible exact vinculumref02_reduced.mono _ _ _)
   | (with_reducible exact LeO.refl _)
   | (with_reducible exact LeO.none _)
   | (with_reducible refine LeO.ite ?_ ?_)
   | (with_reducible refine LeO.bind ?_ (fun _ => ?_))
   | exact ih0 _ _
   | exact ih1 _
   | exact ih2 _ _
   | exact ih3 _ _
   | exact ih4 _
   | exact vinculumref02_Decimal.mono _ _
   | exact vinculumref02_point.mono _ _
   | exact vinculumref02_reduced.mono _ _ _
   | exact LeO.none _
   | refine LeO.ite ?_ ?_
   | refine LeO.bind ?_ (fun _ => ?_)
set_option maxHeartbeats 8000000 in
set_option maxRecDepth 100000 in
theorem vinculumref02_Parse.calls (k : Nat) (a0 : ByteArray) (r1 : Int) (r2 : Int) (r3 : Int) (w : World) (h : vinculumref02_Parse.f k a0 = some (r1, r2, r3)) :
  Calls Tryd.prog 40 #[.string a0] w fun e w' => e = .returned (.tuple #[.agg #[.int .i64 r1, .int .i64 r2], .int .i64 r3]) ∧ Below w.heap.size w w' := by
 have hu28 := Tryd.underlying28
 have HB := zaa.mk (Below.refl w.heap.size w)
 have H : (if (a0.size : Int) > 40 then (vinculumref02_Parse.j0 k a0 true) else ((vinculumref02_Decimal.f k a0).bind fun t516 => (vinculumref02_Parse.j0 k a0 (!t516)))) = some (r1, r2, r3) := h
 clear h
 have HC2 := zaa.mk H
 clear H
 go_enter Tryd.func40, Tryd.ntmps40
 go_upto_region 1 with (first | ((with_reducible refine zaq (N := 2) rfl ?_); (try (refine gate_guard (by rfl) ?_; dsimp only)); refine zar ?hg (N := 2) ?hd (cs := #[.int .i64 0, .int .i64 0]) (t := 28) ?hr ?_; (case hd => rfl); (case hg => rfl); (case hr => first | (go_simp; done) | (go_simp; rfl)); intro gb515 hg w3 hbox hb; have n0_ := zaa.mk (zao (by repeat (first | (with_reducible first | exact HB.o | apply zaf | apply zah | apply zag) | exact HB.o)) hb); have n1_ := zaa.mk (hbox); have n2_ := zaa.mk ((by rw [hg]; exact (zan (by repeat (first | (with_reducible first | exact HB.o | apply zaf | apply zah | apply zag) | exact HB.o))) : w.heap.size ≤ gb515)); have n3_ := zaa.mk ((by rw [hg]; exact (zan (by repeat (first | (with_reducible first | exact HB.o | apply zaf | apply zah | apply zag) | exact HB.o))) : w.heap.size ≤ gb515)); clear HB; have HB := n0_; have BK515 := n1_; have GW515 := n2_; have GE515 := n3_; clear n0_ n1_ n2_ n3_; clear hb hbox hg))
 repeat (go_quiet (first | ((with_reducible refine zaq (N := 2) rfl ?_); (try (refine gate_guard (by rfl) ?_; dsimp only)); refine zar ?hg (N := 2) ?hd (cs := #[.int .i64 0, .int .i64 0]) (t := 28) ?hr ?_; (case hd => rfl); (case hg => rfl); (case hr => first | (go_simp; done) | (go_simp; rfl)); intro gb515 hg w3 hbox hb; have n0_ := zaa.mk (zao (by repeat (first | (with_reducible first | exact HB.o | apply zaf | apply zah | apply zag) | exact HB.o)) hb); have n1_ := zaa.mk (hbox); have n2_ := zaa.mk ((by rw [hg]; exact (zan (by repeat (first | (with_reducible first | exact HB.o | apply zaf | apply zah | apply zag) | exact HB.o))) : w.heap.size ≤ gb515)); have n3_ := zaa.mk ((by rw [hg]; exact (zan (by repeat (first | (with_reducible first | exact HB.o | apply zaf | apply zah | apply zag) | exact HB.o))) : w.heap.size ≤ gb515)); clear HB; have HB := n0_; have BK515 := n1_; have GW515 := n2_; have GE515 := n3_; clear n0_ n1_ n2_ n3_; clear hb hbox hg)); go_upto_region 1 with (first | ((with_reducible refine zaq (N := 2) rfl ?_); (try (refine gate_guard (by rfl) ?_; dsimp only)); refine zar ?hg (N := 2) ?hd (cs := #[.int .i64 0, .int .i64 0]) (t := 28) ?hr ?_; (case hd => rfl); (case hg => rfl); (case hr => first | (go_simp; done) | (go_simp; rfl)); intro gb515 hg w3 hbox hb; have n0_ := zaa.mk (zao (by repeat (first | (with_reducible first | exact HB.o | apply zaf | apply zah | apply zag) | exact HB.o)) hb); have n1_ := zaa.mk (hbox); have n2_ := zaa.mk ((by rw [hg]; exact (zan (by repeat (first | (with_reducible first | exact HB.o | apply zaf | apply zah | apply zag) | exact HB.o))) : w.heap.size ≤ gb515)); have n3_ := zaa.mk ((by rw [hg]; exact (zan (by repeat (first | (with_reducible first | exact HB.o | apply zaf | apply zah | apply zag) | exact HB.o))) : w.heap.size ≤ gb515)); clear HB; have HB := n0_; have BK515 := n1_; have GW515 := n2_; have GE515 := n3_; clear n0_ n1_ n2_ n3_; clear hb hbox hg)))
 (try simp only [Act.put, List.setIfInBounds_toArray, List.set_cons_zero, List.set_cons_succ])
 go_cut [14] (fun v14 wc => ∃ (kq : Nat) (x14_1 : Bool), v14 = .bool x14_1 ∧ zaa (vinculumref02_Parse.j0 kq a0 x14_1 = some (r1, r2, r3)) ∧ zaa (kq ≤ k) ∧ zaa (wc.heap[gb515]? = some (.cells #[.int .i64 0, .int .i64 0] 28 (0, 0))) ∧ zaa (Below w.heap.size w wc))
 case first =>
  have H := HC2.out
  clear HC2
  by_cases c4 : (a0.size : Int) > 40
  ·rw [if_pos c4] at H
   have c4b0 : decide (40 < (a0.size : Int)) = true := decide_eq_true c4
   have c4b1 : decide (40 < a0.size) = true := decide_eq_true (by omega)
   clear c4
   (first | rw [c4b0] | (simp only [i64_w, i32_w]; rw [c4b0]) | skip)
   have H' := zaa.mk H
   clear H
   go_wp2
   repeat (go_quiet (fail); try go_wp2)
   go_meet
   case rel => exact ⟨_, (true), (by first | rfl | (simp; done) | (simp [*]; done)), H', ⟨by first | omega | exact Nat.le_refl _⟩, ⟨by (with_reducible repeat (first | refine zad ?_ _ | refine zab ?_ | refine zac ?_ _)); exact BK515.o⟩, ⟨by repeat (first | (with_reducible first | exact HB.o | apply zaf | apply zah | apply zag | refine zae ?_ GE515.o) | exact HB.o)⟩⟩
  ·rw [if_neg c4] at H
   have c4b0 : decide (40 < (a0.size : Int)) = false := decide_eq_false c4
   have c4b1 : decide (40 < a0.size) = false := decide_eq_false (by omega)
   clear c4
   (first | rw [c4b0] | (simp only [i64_w, i32_w]; rw [c4b0]) | skip)
   replace H := Option.bind_eq_some_iff.mp H
   obtain ⟨t516, A50, H⟩ := H
   replace H : (vinculumref02_Parse.j0 k a0 (!t516)) = some (r1, r2, r3) := H
   have A5 := zaa.mk A50
   clear A50
   have H' := zaa.mk H
   clear H
   go_wp2_with (first | (go_at_call 56; (with_reducible refine (vinculumref02_Decimal.calls k a0 t516 _ A5.o).mono ?_); rintro e w' ⟨rfl, ⟨nd, rfl⟩⟩; (try first | exact ⟨rfl, _, World.drewN_drewN _ _ _⟩ | exact ⟨rfl, _, Eq.trans (World.drewN_drewN _ _ _) (congrArg (World.drewN _) (Nat.add_assoc _ _ _))⟩)))
   repeat (go_quiet (first | (go_at_call 56; (with_reducible refine (vinculumref02_Decimal.calls k a0 t516 _ A5.o).mono ?_); rintro e w' ⟨rfl, ⟨nd, rfl⟩⟩; (try first | exact ⟨rfl, _, World.drewN_drewN _ _ _⟩ | exact ⟨rfl, _, Eq.trans (World.drewN_drewN _ _ _) (congrArg (World.drewN _) (Nat.add_assoc _ _ _))⟩))); try go_wp2_with (first | (go_at_call 56; (with_reducible refine (vinculumref02_Decimal.calls k a0 t516 _ A5.o).mono ?_); rintro e w' ⟨rfl, ⟨nd, rfl⟩⟩; (try first | exact ⟨rfl, _, World.drewN_drewN _ _ _⟩ | exact ⟨rfl, _, Eq.trans (World.drewN_drewN _ _ _) (congrArg (World.drewN _) (Nat.add_assoc _ _ _))⟩))))
   go_meet
   case rel => exact ⟨_, (!t516), (by first | rfl | (simp; done) | (simp [*]; done)), H', ⟨by first | omega | exact Nat.le_refl _⟩, ⟨by (with_reducible repeat (first | refine zad ?_ _ | refine zab ?_ | refine zac ?_ _)); exact BK515.o⟩, ⟨by repeat (first | (with_reducible first | exact HB.o | apply zaf | apply zah | apply zag | refine zae ?_ GE515.o) | exact HB.o)⟩⟩
 case rest =>
  clear HC2
  try clear p2
  try clear c4
  try clear c4b0
  try clear c4b1
  obtain ⟨kq, x14_1, rfl, HA, HJ1, BK515, HB⟩ := hcut
  cases kq with
  | zero => exact absurd HA.o (by simp [vinculumref02_Parse.j0])
  | succ kj1 =>
   have H := HA.o
   clear HA
   simp only [vinculumref02_Parse.j0] at H
   by_cases c6 : x14_1 = true
   ·subst c6
    have H1 : (some (0, 0, 3)) = some (r1, r2, r3) := by rw [if_pos rfl] at H; exact H
    clear H
    have H := H1
    clear H1
    simp only [Option.some.injEq, Prod.mk.injEq] at H
    obtain ⟨rfl, rfl, rfl⟩ := H
    have hcz7_0 : wc.cell? ⟨gb515, 0, none⟩ = some (.int .i64 0) := (zai BK515.o 0).trans rfl
    have hcz7_1 : wc.cell? ⟨gb515, 1, none⟩ = some (.int .i64 0) := (zai BK515.o 1).trans rfl
    have hfz7_0 := zak BK515.o 0
    have hfz7_1 := zak BK515.o 1
    go_wp2
    repeat (go_quiet (fail); try go_wp2)
    refine bodyPost_ret (zav rfl _ _ gb515 28 #[.int .i64 0, .int .i64 0] (0, 0) _ rfl (by (with_reducible repeat (first | refine zad ?_ _ | refine zab ?_ | refine zac ?_ _)); refine zap (cs := #[.int .i64 0, .int .i64 0]) ?_ 1 _ rfl; (with_reducible repeat (first | refine zad ?_ _ | refine zab ?_ | refine zac ?_ _)); refine zap (cs := #[.int .i64 0, .int .i64 0]) ?_ 0 _ rfl; (with_reducible repeat (first | refine zad ?_ _ | refine zab ?_ | refine zac ?_ _)); exact BK515.o) Tryd.underlying28 rfl (by kernel_rfl)) rfl ?_
    exact ⟨by first | rfl | (simp [errW_none, errW_some] <;> rfl) | (simp [*, errW_none, errW_some] <;> rfl), by repeat (first | (with_reducible first | exact HB.o | apply zaf | apply zah | apply zag | refine zae ?_ GE515.o) | exact HB.o)⟩
   ·replace c6 := Bool.eq_false_iff.mpr c6
    subst c6
    have H1 : (vinculumref02_Parse.l0 kj1 a0) = some (r1, r2, r3) := by rw [if_neg (show ¬ (false = true) by decide)] at H; exact H
    clear H
    have H := H1
    clear H1
    have HC8 := zaa.mk H
    clear H
    go_upto_block 0 with (fail)
    repeat (go_quiet (fail); go_upto_block 0 with (fail))
    go_cut [0] (fun v0 wc => ∃ (kq : Nat) (x0_7 : ByteArray), v0 = .string x0_7 ∧ zaa (vinculumref02_Parse.j2 kq x0_7 = some (r1, r2, r3)) ∧ zaa (kq ≤ kj1) ∧ zaa (wc.heap[gb515]? = some (.cells #[.int .i64 0, .int .i64 0] 28 (0, 0))) ∧ zaa (Below w.heap.size w wc))
    case first =>
     have H := HC8.out
     clear HC8
     have H' := zaa.mk H
     clear H
     go_wp2
     repeat (go_quiet (fail); try go_wp2)
     go_loopg [0] kj1 (fun kq v0 w' => ∃ (x0_2 : ByteArray), v0 = .string x0_2 ∧ zaa (vinculumref02_Parse.l0 kq x0_2 = some (r1, r2, r3)) ∧ zaa (kq ≤ kj1) ∧ zaa (w'.heap[gb515]? = some (.cells #[.int .i64 0, .int .i64 0] 28 (0, 0))) ∧ zaa (Below w.heap.size w w'))
     case atStart => exact ⟨(a0), (by first | rfl | (simp; done) | (simp [*]; done)), H', ⟨Nat.le_refl _⟩, ⟨by (with_reducible repeat (first | refine zad ?_ _ | refine zab ?_ | refine zac ?_ _)); exact BK515.o⟩, ⟨by repeat (first | (with_reducible first | exact HB.o | apply zaf | apply zah | apply zag | refine zae ?_ GE515.o) | exact HB.o)⟩⟩
     case round =>
      clear H'
      try clear p2
      try clear c4
      try clear c4b0
      try clear c4b1
      try clear c6
      try clear hcz7_0
      try clear hcz7_1
      try clear hfz7_0
      try clear hfz7_1
      try clear p2
      obtain ⟨x0_2, rfl, HA, HK2, BK515, HB⟩ := hrel
      cases gk with
      | zero => exact absurd HA.o (by simp [vinculumref02_Parse.l0])
      | succ k2 =>
       have H := HA.o
       clear HA
       simp only [vinculumref02_Parse.l0] at H
       by_cases c9 : (x0_2.size : Int) > 1
       ·rw [if_pos c9] at H
        have c9b0 : decide (1 < (x0_2.size : Int)) = true := decide_eq_true c9
        have c9b1 : decide (1 < x0_2.size) = true := decide_eq_true (by omega)
        clear c9
        (first | rw [c9b0] | (simp only [i64_w, i32_w]; rw [c9b0]) | skip)
        by_cases c10 : 0 < (x0_2.size : Int)
        ·rw [if_pos c10] at H
         have c10b0 : decide (0 < (x0_2.size : Int)) = true := decide_eq_true c10
         have c10b1 : decide (0 < x0_2.size) = true := decide_eq_true (by omega)
         clear c10
         by_cases c12 : (bt x0_2 0) = 48
         ·rw [if_pos c12] at H
          have c12b0 : ((bt x0_2 0) == 48) = true := beq_iff_eq.mpr c12
          have c12b1 : ((bt x0_2 0) != 48) = false := bne_eq_false_iff_eq.mpr c12
          clear c12
          by_cases c13 : 1 < (x0_2.size : Int)
          ·rw [if_pos c13] at H
           have c13b0 : decide (1 < (x0_2.size : Int)) = true := decide_eq_true c13
           have c13b1 : decide (1 < x0_2.size) = true := decide_eq_true (by omega)
           clear c13
           by_cases c15 : (bt x0_2 1) = 46
           ·rw [if_pos c15] at H
            have c15b0 : ((bt x0_2 1) == 46) = true := beq_iff_eq.mpr c15
            have c15b1 : ((bt x0_2 1) != 46) = false := bne_eq_false_iff_eq.mpr c15
            clear c15
            have H' := zaa.mk H
            clear H
            have p11 : 0 ≤ (0 : Int) := (by omega)
            have q11 : 0 < x0_2.size := (by have : (0 : Int) < (x0_2.size : Int) := of_decide_eq_true (by first | (with_reducible assumption) | assumption); omega)
            have hx11 : ∀ h : 0 < x0_2.size, ((x0_2[0]'h).toNat : Int) = bt x0_2 0 := bt_at x0_2 0
            clear p11
            have qi11 : (0 < (x0_2.size : Int)) = True := eq_true (of_decide_eq_true (by first | (with_reducible assumption) | assumption))
            replace q11 := eq_true q11
            have p14 : 0 ≤ (1 : Int) := (by omega)
            have q14 : 1 < x0_2.size := (by have : (1 : Int) < (x0_2.size : Int) := of_decide_eq_true (by first | (with_reducible assumption) | assumption); omega)
            have hx14 : ∀ h : 1 < x0_2.size, ((x0_2[1]'h).toNat : Int) = bt x0_2 1 := bt_at x0_2 1
            clear p14
            have qi14 : (1 < (x0_2.size : Int)) = True := eq_true (of_decide_eq_true (by first | (with_reducible assumption) | assumption))
            replace q14 := eq_true q14
            go_wp2
            repeat (go_quiet (fail); try go_wp2)
            go_meet
            case rel => exact ⟨_, (x0_2), (by first | rfl | (simp; done) | (simp [*]; done)), H', ⟨by have := HJ1.out; have := HK2.o; first | omega | exact Nat.le_refl _⟩, ⟨by (with_reducible repeat (first | refine zad ?_ _ | refine zab ?_ | refine zac ?_ _)); exact BK515.o⟩, ⟨by repeat (first | (with_reducible first | exact HB.o | apply zaf | apply zah | apply zag | refine zae ?_ GE515.o) | exact HB.o)⟩⟩
           ·rw [if_neg c15] at H
            have c15b0 : ((bt x0_2 1) == 46) = false := beq_eq_false_iff_ne.mpr c15
            have c15b1 : ((bt x0_2 1) != 46) = true := bne_iff_ne.mpr c15
            by_cases c16 : 1 ≤ (x0_2.size : Int)
            ·rw [if_pos c16] at H
             have c16b0 := eq_true c16
             have c16b1 : decide (1 ≤ (x0_2.size : Int)) = true := decide_eq_true c16
             clear c16
             have H' := zaa.mk H
             clear H
             have p11 : 0 ≤ (0 : Int) := (by omega)
             have q11 : 0 < x0_2.size := (by have : (0 : Int) < (x0_2.size : Int) := of_decide_eq_true (by first | (with_reducible assumption) | assumption); omega)
             have hx11 : ∀ h : 0 < x0_2.size, ((x0_2[0]'h).toNat : Int) = bt x0_2 0 := bt_at x0_2 0
             clear p11
             have qi11 : (0 < (x0_2.size : Int)) = True := eq_true (of_decide_eq_true (by first | (with_reducible assumption) | assumption))
             replace q11 := eq_true q11
             have p14 : 0 ≤ (1 : Int) := (by omega)
             have q14 : 1 < x0_2.size := (by have : (1 : Int) < (x0_2.size : Int) := of_decide_eq_true (by first | (with_reducible assumption) | assumption); omega)
             have hx14 : ∀ h : 1 < x0_2.size, ((x0_2[1]'h).toNat : Int) = bt x0_2 1 := bt_at x0_2 1
             clear p14
             have qi14 : (1 < (x0_2.size : Int)) = True := eq_true (of_decide_eq_true (by first | (with_reducible assumption) | assumption))
             replace q14 := eq_true q14
             go_wp2
             repeat (go_quiet (fail); try go_wp2)
             go_roundg k2
             case measure => have := HJ1.out; have := HK2.o; omega
             case rel => exact ⟨(x0_2.extract 1 x0_2.size), (by first | rfl | (simp; done) | (simp [*]; done)), H', ⟨by have := HJ1.out; have := HK2.o; omega⟩, ⟨by (with_reducible repeat (first | refine zad ?_ _ | refine zab ?_ | refine zac ?_ _)); exact BK515.o⟩, ⟨by repeat (first | (with_reducible first | exact HB.o | apply zaf | apply zah | apply zag | refine zae ?_ GE515.o) | exact HB.o)⟩⟩
            ·rw [if_neg c16] at H
             exact absurd H (by simp)
          ·rw [if_neg c13] at H
           exact absurd H (by simp)
         ·rw [if_neg c12] at H
          have c12b0 : ((bt x0_2 0) == 48) = false := beq_eq_false_iff_ne.mpr c12
          have c12b1 : ((bt x0_2 0) != 48) = true := bne_iff_ne.mpr c12
          have H' := zaa.mk H
          clear H
          have p11 : 0 ≤ (0 : Int) := (by omega)
          have q11 : 0 < x0_2.size := (by have : (0 : Int) < (x0_2.size : Int) := of_decide_eq_true (by first | (with_reducible assumption) | assumption); omega)
          have hx11 : ∀ h : 0 < x0_2.size, ((x0_2[0]'h).toNat : Int) = bt x0_2 0 := bt_at x0_2 0
          clear p11
          have qi11 : (0 < (x0_2.size : Int)) = True := eq_true (of_decide_eq_true (by first | (with_reducible assumption) | assumption))
          replace q11 := eq_true q11
          go_wp2
          repeat (go_quiet (fail); try go_wp2)
          go_meet
          case rel => exact ⟨_, (x0_2), (by first | rfl | (simp; done) | (simp [*]; done)), H', ⟨by have := HJ1.out; have := HK2.o; first | omega | exact Nat.le_refl _⟩, ⟨by (with_reducible repeat (first | refine zad ?_ _ | refine zab ?_ | refine zac ?_ _)); exact BK515.o⟩, ⟨by repeat (first | (with_reducible first | exact HB.o | apply zaf | apply zah | apply zag | refine zae ?_ GE515.o) | exact HB.o)⟩⟩
        ·rw [if_neg c10] at H
         exact absurd H (by simp)
       ·rw [if_neg c9] at H
        have c9b0 : decide (1 < (x0_2.size : Int)) = false := decide_eq_false c9
        have c9b1 : decide (1 < x0_2.size) = false := decide_eq_false (by omega)
        clear c9
        (first | rw [c9b0] | (simp only [i64_w, i32_w]; rw [c9b0]) | skip)
        have H' := zaa.mk H
        clear H
        go_wp2
        repeat (go_quiet (fail); try go_wp2)
        go_meet
        case rel => exact ⟨_, (x0_2), (by first | rfl | (simp; done) | (simp [*]; done)), H', ⟨by have := HJ1.out; have := HK2.o; first | omega | exact Nat.le_refl _⟩, ⟨by (with_reducible repeat (first | refine zad ?_ _ | refine zab ?_ | refine zac ?_ _)); exact BK515.o⟩, ⟨by repeat (first | (with_reducible first | exact HB.o | apply zaf | apply zah | apply zag | refine zae ?_ GE515.o) | exact HB.o)⟩⟩
    case rest =>
     clear HC8
     try clear c1
     try clear p1
     try clear q1
     try clear hx1
     try clear qi1
     try clear p2
     try clear c4
     try clear c4b0
     try clear c4b1
     try clear c6
     try clear c9
     try clear c9b0
     try clear c9b1
     try clear c10
     try clear c10b0
     try clear c10b1
     try clear p11
     try clear q11
     try clear hx11
     try clear qi11
     try clear c12
     try clear c12b0
     try clear c12b1
     try clear c13
     try clear c13b0
     try clear c13b1
     try clear p14
     try clear q14
     try clear hx14
     try clear qi14
     try clear c15
     try clear c15b0
     try clear c15b1
     try clear c16
     try clear c16b0
     try clear c16b1
     try clear hcz7_0
     try clear hcz7_1
     try clear hfz7_0
     try clear hfz7_1
     try clear p11
     try clear p14
     try clear p2
     try clear q11
     try clear q14
     obtain ⟨kq, x0_7, rfl, HA, HJ7, BK515, HB⟩ := hcut
     cases kq with
     | zero => exact absurd HA.o (by simp [vinculumref02_Parse.j2])
     | succ kj7 =>
      have H := HA.o
      clear HA
      simp only [vinculumref02_Parse.j2] at H
      replace H := Option.bind_eq_some_iff.mp H
      obtain ⟨t517, A170, H⟩ := H
      replace H : (if t517 ≥ 0 then (if 0 ≤ t517 then (if t517 ≤ (x0_7.size : Int) then (if 0 ≤ (wrap64 (t517 + 1)) then (if (wrap64 (t517 + 1)) ≤ (x0_7.size : Int) then (vinculumref02_Parse.j3 kj7 (x0_7.extract 0 (t517 : Int).toNat) (x0_7.extract ((wrap64 (t517 + 1)) : Int).toNat x0_7.size)) else (none)) else (none)) else (none)) else (none)) else (vinculumref02_Parse.j3 kj7 x0_7 (⟨#[]⟩ : ByteArray))) = some (r1, r2, r3) := H
      have A17 := zaa.mk A170
      clear A170
      have HC18 := zaa.mk H
      clear H
      go_upto_if 35 with (first | (go_at_call 57; (with_reducible refine (vinculumref02_point.calls kj7 x0_7 t517 _ A17.o).mono ?_); rintro e w' ⟨rfl, ⟨nd, rfl⟩⟩; (try first | exact ⟨rfl, _, World.drewN_drewN _ _ _⟩ | exact ⟨rfl, _, Eq.trans (World.drewN_drewN _ _ _) (congrArg (World.drewN _) (Nat.add_assoc _ _ _))⟩)))
      repeat (go_quiet (first | (go_at_call 57; (with_reducible refine (vinculumref02_point.calls kj7 x0_7 t517 _ A17.o).mono ?_); rintro e w' ⟨rfl, ⟨nd, rfl⟩⟩; (try first | exact ⟨rfl, _, World.drewN_drewN _ _ _⟩ | exact ⟨rfl, _, Eq.trans (World.drewN_drewN _ _ _) (congrArg (World.drewN _) (Nat.add_assoc _ _ _))⟩))); go_upto_if 35 with (first | (go_at_call 57; (with_reducible refine (vinculumref02_point.calls kj7 x0_7 t517 _ A17.o).mono ?_); rintro e w' ⟨rfl, ⟨nd, rfl⟩⟩; (try first | exact ⟨rfl, _, World.drewN_drewN _ _ _⟩ | exact ⟨rfl, _, Eq.trans (World.drewN_drewN _ _ _) (congrArg (World.drewN _) (Nat.add_assoc _ _ _))⟩))))
      (try simp only [Act.put, List.setIfInBounds_toArray, List.set_cons_zero, List.set_cons_succ])
      go_cut [4, 5] (fun v4 v5 wc => ∃ (kq : Nat) (x4_17 : ByteArray) (x5_17 : ByteArray), v4 = .string x4_17 ∧ v5 = .string x5_17 ∧ zaa (vinculumref02_Parse.j3 kq x4_17 x5_17 = some (r1, r2, r3)) ∧ zaa (kq ≤ kj7) ∧ zaa (wc.heap[gb515]? = some (.cells #[.int .i64 0, .int .i64 0] 28 (0, 0))) ∧ zaa (Below w.heap.size w wc))
      case first =>
       have H := HC18.out
       clear HC18
       by_cases c19 : t517 ≥ 0
       ·rw [if_pos c19] at H
        have c19b0 : decide (0 ≤ t517) = true := decide_eq_true c19
        clear c19
        (first | rw [c19b0] | (simp only [i64_w, i32_w]; rw [c19b0]) | skip)
        by_cases c20 : 0 ≤ t517
        ·rw [if_pos c20] at H
         have c20b0 := eq_true c20
         have c20b1 : decide (0 ≤ t517) = true := decide_eq_true c20
         clear c20
         by_cases c21 : t517 ≤ (x0_7.size : Int)
         ·rw [if_pos c21] at H
          have c21b0 := eq_true c21
          have c21b1 : decide (t517 ≤ (x0_7.size : Int)) = true := decide_eq_true c21
          clear c21
          obtain ⟨ji22, hji22⟩ : ∃ j_ : Int, (wrap64 (t517 + 1)) = j_ := ⟨_, rfl⟩
          replace H : (if 0 ≤ (ji22) then (if (ji22) ≤ (x0_7.size : Int) then (vinculumref02_Parse.j3 kj7 (x0_7.extract 0 (t517 : Int).toNat) (x0_7.extract ((ji22) : Int).toNat x0_7.size)) else (none)) else (none)) = some (r1, r2, r3) := by first | (rw [hji22] at H; exact H) | (simp only [hji22] at H ⊢; exact H)
          have hji22w : (IntKind.i64.wrap (t517 + 1)) = ji22 := (i64_w _).trans hji22
          by_cases c23 : 0 ≤ (ji22)
          ·rw [if_pos c23] at H
           have c23b0 := eq_true c23
           have c23b1 : decide (0 ≤ (ji22)) = true := decide_eq_true c23
           clear c23
           by_cases c24 : (ji22) ≤ (x0_7.size : Int)
           ·rw [if_pos c24] at H
            have c24b0 := eq_true c24
            have c24b1 : decide ((ji22) ≤ (x0_7.size : Int)) = true := decide_eq_true c24
            clear c24
            have H' := zaa.mk H
            clear H
            go_wp2
            repeat (go_quiet (fail); try go_wp2)
            go_meet
            case rel => exact ⟨_, (x0_7.extract 0 (t517 : Int).toNat), (x0_7.extract ((ji22) : Int).toNat x0_7.size), (by first | rfl | (simp; done) | (simp [*]; done)), (by first | rfl | (simp; done) | (simp only [← hji22] <;> (first | rfl | simp)) | (simp [*]; done)), H', ⟨by have := HJ1.out; have := HJ7.out; first | omega | exact Nat.le_refl _⟩, ⟨by (with_reducible repeat (first | refine zad ?_ _ | refine zab ?_ | refine zac ?_ _)); exact BK515.o⟩, ⟨by repeat (first | (with_reducible first | exact HB.o | apply zaf | apply zah | apply zag | refine zae ?_ GE515.o) | exact HB.o)⟩⟩
           ·rw [if_neg c24] at H
            exact absurd H (by simp)
          ·rw [if_neg c23] at H
           exact absurd H (by simp)
         ·rw [if_neg c21] at H
          exact absurd H (by simp)
        ·rw [if_neg c20] at H
         exact absurd H (by simp)
       ·rw [if_neg c19] at H
        have c19b0 : decide (0 ≤ t517) = false := decide_eq_false c19
        clear c19
        (first | rw [c19b0] | (simp only [i64_w, i32_w]; rw [c19b0]) | skip)
        have H' := zaa.mk H
        clear H
        go_wp2
        repeat (go_quiet (fail); try go_wp2)
        go_meet
        case rel => exact ⟨_, (x0_7), ((⟨#[]⟩ : ByteArray)), (by first | rfl | (simp; done) | (simp [*]; done)), (by first | rfl | (simp; done) | (simp [*]; done)), H', ⟨by have := HJ1.out; have := HJ7.out; first | omega | exact Nat.le_refl _⟩, ⟨by (with_reducible repeat (first | refine zad ?_ _ | refine zab ?_ | refine zac ?_ _)); exact BK515.o⟩, ⟨by repeat (first | (with_reducible first | exact HB.o | apply zaf | apply zah | apply zag | refine zae ?_ GE515.o) | exact HB.o)⟩⟩
      case rest =>
       clear HC18
       try clear c1
       try clear p1
       try clear q1
       try clear hx1
       try clear qi1
       try clear c2
       try clear p2
       try clear c4
       try clear c4b0
       try clear c4b1
       try clear c6
       try clear p6
       try clear c9
       try clear c9b0
       try clear c9b1
       try clear c10
       try clear c10b0
       try clear c10b1
       try clear p11
       try clear q11
       try clear hx11
       try clear qi11
       try clear c12
       try clear c12b0
       try clear c12b1
       try clear c13
       try clear c13b0
       try clear c13b1
       try clear p14
       try clear q14
       try clear hx14
       try clear qi14
       try clear c15
       try clear c15b0
       try clear c15b1
       try clear c16
       try clear c16b0
       try clear c16b1
       try clear c19
       try clear c19b0
       try clear c20
       try clear c20b0
       try clear c20b1
       try clear c21
       try clear c21b0
       try clear c21b1
       try clear c23
       try clear c23b0
       try clear c23b1
       try clear c24
       try clear c24b0
       try clear c24b1
       try clear hcz7_0
       try clear hcz7_1
       try clear hfz7_0
       try clear hfz7_1
       try clear p1
       try clear p11
       try clear p14
       try clear p2
       try clear q1
       try clear q11
       try clear q14
       obtain ⟨kq, x4_17, x5_17, rfl, rfl, HA, HJ17, BK515, HB⟩ := hcut
       cases kq with
       | zero => exact absurd HA.o (by simp [vinculumref02_Parse.j3])
       | succ kj17 =>
        have H := HA.o
        clear HA
        simp only [vinculumref02_Parse.j3] at H
        have H' := zaa.mk H
        clear H
        go_wp2
        repeat (go_quiet (fail); try go_wp2)
        go_loopg [5] kj17 (fun kq v5 w' => ∃ (x5_4 : ByteArray), v5 = .string x5_4 ∧ zaa (vinculumref02_Parse.l1 kq x4_17 x5_4 = some (r1, r2, r3)) ∧ zaa (kq ≤ kj17) ∧ zaa (w'.heap[gb515]? = some (.cells #[.int .i64 0, .int .i64 0] 28 (0, 0))) ∧ zaa (Below w.heap.size w w'))
        case atStart => exact ⟨(x5_17), (by first | rfl | (simp; done) | (simp [*]; done)), H', ⟨Nat.le_refl _⟩, ⟨by (with_reducible repeat (first | refine zad ?_ _ | refine zab ?_ | refine zac ?_ _)); exact BK515.o⟩, ⟨by repeat (first | (with_reducible first | exact HB.o | apply zaf | apply zah | apply zag | refine zae ?_ GE515.o) | exact HB.o)⟩⟩
        case round =>
         clear H'
         try clear c1
         try clear p1
         try clear q1
         try clear hx1
         try clear qi1
         try clear c2
         try clear p2
         try clear c4
         try clear c4b0
         try clear c4b1
         try clear c6
         try clear p6
         try clear c9
         try clear c9b0
         try clear c9b1
         try clear c10
         try clear c10b0
         try clear c10b1
         try clear p11
         try clear q11
         try clear hx11
         try clear qi11
         try clear c12
         try clear c12b0
         try clear c12b1
         try clear c13
         try clear c13b0
         try clear c13b1
         try clear p14
         try clear q14
         try clear hx14
         try clear qi14
         try clear c15
         try clear c15b0
         try clear c15b1
         try clear c16
         try clear c16b0
         try clear c16b1
         try clear c19
         try clear c19b0
         try clear c20
         try clear c20b0
         try clear c20b1
         try clear c21
         try clear c21b0
         try clear c21b1
         try clear c23
         try clear c23b0
         try clear c23b1
         try clear c24
         try clear c24b0
         try clear c24b1
         try clear hcz7_0
         try clear hcz7_1
         try clear hfz7_0
         try clear hfz7_1
         try clear p1
         try clear p11
         try clear p14
         try clear p2
         try clear p6
         try clear q1
         try clear q11
         try clear q14
         obtain ⟨x5_4, rfl, HA, HK4, BK515, HB⟩ := hrel
         cases gk with
         | zero => exact absurd HA.o (by simp [vinculumref02_Parse.l1])
         | succ k4 =>
          have H := HA.o
          clear HA
          simp only [vinculumref02_Parse.l1] at H
          by_cases c25 : (x5_4.size : Int) > 0
          ·rw [if_pos c25] at H
           have c25b0 : decide (0 < (x5_4.size : Int)) = true := decide_eq_true c25
           have c25b1 : decide (0 < x5_4.size) = true := decide_eq_true (by omega)
           clear c25
           obtain ⟨ji26, hji26⟩ : ∃ j_ : Int, (wrap64 ((x5_4.size : Int) - 1)) = j_ := ⟨_, rfl⟩
           replace H : (if 0 ≤ (ji26) then (if (ji26) < (x5_4.size : Int) then (if (bt x5_4 (ji26)) = 48 then (if (ji26) ≤ (x5_4.size : Int) then (vinculumref02_Parse.l1 k4 x4_17 (x5_4.extract 0 ((ji26) : Int).toNat)) else (none)) else (if (x4_17.size : Int) > 10 then (some (0, 0, 2)) else (if (x5_4.size : Int) > 31 then (some (0, 0, 2)) else (if x4_17.size + x5_4.size ≤ 9223372036854775807 then ((vinculumref02_reduced.f k4 (x4_17 ++ x5_4) (x5_4.size : Int)).bind fun bt518 => (some (bt518.1, bt518.2.1, bt518.2.2))) else (none))))) else (none)) else (none)) = some (r1, r2, r3) := by first | (rw [hji26] at H; exact H) | (simp only [hji26] at H ⊢; exact H)
           have hji26w : (IntKind.i64.wrap ((x5_4.size : Int) - 1)) = ji26 := (i64_w _).trans hji26
           by_cases c27 : 0 ≤ (ji26)
           ·rw [if_pos c27] at H
            have c27b0 : decide (0 ≤ (ji26)) = true := decide_eq_true c27
            clear c27
            by_cases c28 : (ji26) < (x5_4.size : Int)
            ·rw [if_pos c28] at H
             have c28b0 : decide ((ji26) < (x5_4.size : Int)) = true := decide_eq_true c28
             clear c28
             by_cases c30 : (bt x5_4 (ji26)) = 48
             ·rw [if_pos c30] at H
              have c30b0 : ((bt x5_4 (ji26)) == 48) = true := beq_iff_eq.mpr c30
              have c30b1 : ((bt x5_4 (ji26)) != 48) = false := bne_eq_false_iff_eq.mpr c30
              clear c30
              have c31b0 := eq_true (of_decide_eq_true (by first | (with_reducible assumption) | assumption) : 0 ≤ (ji26))
              by_cases c32 : (ji26) ≤ (x5_4.size : Int)
              ·rw [if_pos c32] at H
               have c32b0 := eq_true c32
               have c32b1 : decide ((ji26) ≤ (x5_4.size : Int)) = true := decide_eq_true c32
               clear c32
               have H' := zaa.mk H
               clear H
               have p29 : 0 ≤ ((ji26) : Int) := of_decide_eq_true (by first | (with_reducible assumption) | assumption)
               have q29 : (ji26) < (x5_4.size : Int) := of_decide_eq_true (by first | (with_reducible assumption) | assumption)
               have hx29 := bt_at x5_4 (ji26)
               replace p29 := eq_true p29
               replace q29 := eq_true q29
               go_wp2
               repeat (go_quiet (fail); try go_wp2)
               go_roundg k4
               case measure => have := HJ1.out; have := HJ7.out; have := HJ17.out; have := HK4.o; omega
               case rel => exact ⟨(x5_4.extract 0 ((ji26) : Int).toNat), (by first | rfl | (simp; done) | (simp only [← hji26] <;> (first | rfl | simp)) | (simp [*]; done)), H', ⟨by have := HJ1.out; have := HJ7.out; have := HJ17.out; have := HK4.o; omega⟩, ⟨by (with_reducible repeat (first | refine zad ?_ _ | refine zab ?_ | refine zac ?_ _)); exact BK515.o⟩, ⟨by repeat (first | (with_reducible first | exact HB.o | apply zaf | apply zah | apply zag | refine zae ?_ GE515.o) | exact HB.o)⟩⟩
              ·rw [if_neg c32] at H
               exact absurd H (by simp)
             ·rw [if_neg c30] at H
              have c30b0 : ((bt x5_4 (ji26)) == 48) = false := beq_eq_false_iff_ne.mpr c30
              have c30b1 : ((bt x5_4 (ji26)) != 48) = true := bne_iff_ne.mpr c30
              by_cases c33 : (x4_17.size : Int) > 10
              ·rw [if_pos c33] at H
               have c33b0 : decide (10 < (x4_17.size : Int)) = true := decide_eq_true c33
               have c33b1 : decide (10 < x4_17.size) = true := decide_eq_true (by omega)
               clear c33
               simp only [Option.some.injEq, Prod.mk.injEq] at H
               obtain ⟨rfl, rfl, rfl⟩ := H
               have p29 : 0 ≤ ((ji26) : Int) := of_decide_eq_true (by first | (with_reducible assumption) | assumption)
               have q29 : (ji26) < (x5_4.size : Int) := of_decide_eq_true (by first | (with_reducible assumption) | assumption)
               have hx29 := bt_at x5_4 (ji26)
               replace p29 := eq_true p29
               replace q29 := eq_true q29
               have hcz34_0 : wr.cell? ⟨gb515, 0, none⟩ = some (.int .i64 0) := (zai BK515.o 0).trans rfl
               have hcz34_1 : wr.cell? ⟨gb515, 1, none⟩ = some (.int .i64 0) := (zai BK515.o 1).trans rfl
               have hfz34_0 := zak BK515.o 0
               have hfz34_1 := zak BK515.o 1
               go_wp2
               repeat (go_quiet (fail); try go_wp2)
               refine bodyPost_ret (zav rfl _ _ gb515 28 #[.int .i64 0, .int .i64 0] (0, 0) _ rfl (by (with_reducible repeat (first | refine zad ?_ _ | refine zab ?_ | refine zac ?_ _)); refine zap (cs := #[.int .i64 0, .int .i64 0]) ?_ 1 _ rfl; (with_reducible repeat (first | refine zad ?_ _ | refine zab ?_ | refine zac ?_ _)); refine zap (cs := #[.int .i64 0, .int .i64 0]) ?_ 0 _ rfl; (with_reducible repeat (first | refine zad ?_ _ | refine zab ?_ | refine zac ?_ _)); exact BK515.o) Tryd.underlying28 rfl (by kernel_rfl)) rfl ?_
               exact ⟨by first | rfl | (simp [errW_none, errW_some] <;> rfl) | (simp only [← hji26]; first | rfl | (simp [errW_none, errW_some] <;> rfl)) | (simp [*, errW_none, errW_some] <;> rfl), by repeat (first | (with_reducible first | exact HB.o | apply zaf | apply zah | apply zag | refine zae ?_ GE515.o) | exact HB.o)⟩
              ·rw [if_neg c33] at H
               have c33b0 : decide (10 < (x4_17.size : Int)) = false := decide_eq_false c33
               have c33b1 : decide (10 < x4_17.size) = false := decide_eq_false (by omega)
               clear c33
               by_cases c35 : (x5_4.size : Int) > 31
               ·rw [if_pos c35] at H
                have c35b0 : decide (31 < (x5_4.size : Int)) = true := decide_eq_true c35
                have c35b1 : decide (31 < x5_4.size) = true := decide_eq_true (by omega)
                clear c35
                simp only [Option.some.injEq, Prod.mk.injEq] at H
                obtain ⟨rfl, rfl, rfl⟩ := H
                have p29 : 0 ≤ ((ji26) : Int) := of_decide_eq_true (by first | (with_reducible assumption) | assumption)
                have q29 : (ji26) < (x5_4.size : Int) := of_decide_eq_true (by first | (with_reducible assumption) | assumption)
                have hx29 := bt_at x5_4 (ji26)
                replace p29 := eq_true p29
                replace q29 := eq_true q29
                have hcz36_0 : wr.cell? ⟨gb515, 0, none⟩ = some (.int .i64 0) := (zai BK515.o 0).trans rfl
                have hcz36_1 : wr.cell? ⟨gb515, 1, none⟩ = some (.int .i64 0) := (zai BK515.o 1).trans rfl
                have hfz36_0 := zak BK515.o 0
                have hfz36_1 := zak BK515.o 1
                go_wp2
                repeat (go_quiet (fail); try go_wp2)
                refine bodyPost_ret (zav rfl _ _ gb515 28 #[.int .i64 0, .int .i64 0] (0, 0) _ rfl (by (with_reducible repeat (first | refine zad ?_ _ | refine zab ?_ | refine zac ?_ _)); refine zap (cs := #[.int .i64 0, .int .i64 0]) ?_ 1 _ rfl; (with_reducible repeat (first | refine zad ?_ _ | refine zab ?_ | refine zac ?_ _)); refine zap (cs := #[.int .i64 0, .int .i64 0]) ?_ 0 _ rfl; (with_reducible repeat (first | refine zad ?_ _ | refine zab ?_ | refine zac ?_ _)); exact BK515.o) Tryd.underlying28 rfl (by kernel_rfl)) rfl ?_
                exact ⟨by first | rfl | (simp [errW_none, errW_some] <;> rfl) | (simp only [← hji26]; first | rfl | (simp [errW_none, errW_some] <;> rfl)) | (simp [*, errW_none, errW_some] <;> rfl), by repeat (first | (with_reducible first | exact HB.o | apply zaf | apply zah | apply zag | refine zae ?_ GE515.o) | exact HB.o)⟩
               ·rw [if_neg c35] at H
                have c35b0 : decide (31 < (x5_4.size : Int)) = false := decide_eq_false c35
                have c35b1 : decide (31 < x5_4.size) = false := decide_eq_false (by omega)
                clear c35
                by_cases c37 : x4_17.size + x5_4.size ≤ 9223372036854775807
                ·rw [if_pos c37] at H
                 have c37b0 := eq_true c37
                 have c37b1 : decide (x4_17.size + x5_4.size ≤ 9223372036854775807) = true := decide_eq_true c37
                 try have c37b2 : (9223372036854775807 < x4_17.size + x5_4.size) = False := eq_false (Nat.not_lt.2 c37)
                 replace H := Option.bind_eq_some_iff.mp H
                 obtain ⟨⟨t518, t519, t520⟩, A380, H⟩ := H
                 replace H : (some (t518, t519, t520)) = some (r1, r2, r3) := H
                 have A38 := zaa.mk A380
                 clear A380
                 simp only [Option.some.injEq, Prod.mk.injEq] at H
                 obtain ⟨rfl, rfl, rfl⟩ := H
                 have p29 : 0 ≤ ((ji26) : Int) := of_decide_eq_true (by first | (with_reducible assumption) | assumption)
                 have q29 : (ji26) < (x5_4.size : Int) := of_decide_eq_true (by first | (with_reducible assumption) | assumption)
                 have hx29 := bt_at x5_4 (ji26)
                 replace p29 := eq_true p29
                 replace q29 := eq_true q29
                 go_wp2_with (first | (go_at_call 58; (with_reducible refine (vinculumref02_reduced.calls k4 (x4_17 ++ x5_4) (x5_4.size : Int) t518 t519 t520 _ A38.o).mono ?_); rintro e w39 ⟨rfl, hb⟩; have n0_ := zaa.mk (zaj (by (with_reducible repeat (first | refine zad ?_ _ | refine zab ?_ | refine zac ?_ _)); exact BK515.o) hb); have n1_ := zaa.mk (zao (by repeat (first | (with_reducible first | exact HB.o | apply zaf | apply zah | apply zag | refine zae ?_ GE515.o) | exact HB.o)) hb); clear BK515; clear HB; have BK515 := n0_; have HB := n1_; clear n0_ n1_; (try clear hb); (try clear hb2); (try clear hk); (try clear hi); obtain ⟨hcz40_0, hcz40_1⟩ := cz2 BK515.o; obtain ⟨hfz40_0, hfz40_1⟩ := fz2 BK515.o))
                 repeat (go_quiet (first | (go_at_call 58; (with_reducible refine (vinculumref02_reduced.calls k4 (x4_17 ++ x5_4) (x5_4.size : Int) t518 t519 t520 _ A38.o).mono ?_); rintro e w39 ⟨rfl, hb⟩; have n0_ := zaa.mk (zaj (by (with_reducible repeat (first | refine zad ?_ _ | refine zab ?_ | refine zac ?_ _)); exact BK515.o) hb); have n1_ := zaa.mk (zao (by repeat (first | (with_reducible first | exact HB.o | apply zaf | apply zah | apply zag | refine zae ?_ GE515.o) | exact HB.o)) hb); clear BK515; clear HB; have BK515 := n0_; have HB := n1_; clear n0_ n1_; (try clear hb); (try clear hb2); (try clear hk); (try clear hi); obtain ⟨hcz40_0, hcz40_1⟩ := cz2 BK515.o; obtain ⟨hfz40_0, hfz40_1⟩ := fz2 BK515.o)); try go_wp2_with (first | (go_at_call 58; (with_reducible refine (vinculumref02_reduced.calls k4 (x4_17 ++ x5_4) (x5_4.size : Int) t518 t519 t520 _ A38.o).mono ?_); rintro e w39 ⟨rfl, hb⟩; have n0_ := zaa.mk (zaj (by (with_reducible repeat (first | refine zad ?_ _ | refine zab ?_ | refine zac ?_ _)); exact BK515.o) hb); have n1_ := zaa.mk (zao (by repeat (first | (with_reducible first | exact HB.o | apply zaf | apply zah | apply zag | refine zae ?_ GE515.o) | exact HB.o)) hb); clear BK515; clear HB; have BK515 := n0_; have HB := n1_; clear n0_ n1_; (try clear hb); (try clear hb2); (try clear hk); (try clear hi); obtain ⟨hcz40_0, hcz40_1⟩ := cz2 BK515.o; obtain ⟨hfz40_0, hfz40_1⟩ := fz2 BK515.o)))
                 refine bodyPost_ret (zav rfl _ _ gb515 28 #[.int .i64 t518, .int .i64 t519] (0, 0) _ rfl (by (with_reducible repeat (first | refine zad ?_ _ | refine zab ?_ | refine zac ?_ _)); refine zap (cs := #[.int .i64 t518, .int .i64 0]) ?_ 1 _ rfl; (with_reducible repeat (first | refine zad ?_ _ | refine zab ?_ | refine zac ?_ _)); refine zap (cs := #[.int .i64 0, .int .i64 0]) ?_ 0 _ rfl; (with_reducible repeat (first | refine zad ?_ _ | refine zab ?_ | refine zac ?_ _)); exact BK515.o) Tryd.underlying28 rfl (by kernel_rfl)) rfl ?_
                 exact ⟨by first | rfl | (simp [errW_none, errW_some] <;> rfl) | (simp only [← hji26]; first | rfl | (simp [errW_none, errW_some] <;> rfl)) | (simp [*, errW_none, errW_some] <;> rfl), by repeat (first | (with_reducible first | exact HB.o | apply zaf | apply zah | apply zag | refine zae ?_ GE515.o) | exact HB.o)⟩
                ·rw [if_neg c37] at H
                 exact absurd H (by simp)
            ·rw [if_neg c28] at H
             exact absurd H (by simp)
           ·rw [if_neg c27] at H
            exact absurd H (by simp)
          ·rw [if_neg c25] at H
           have c25b0 : decide (0 < (x5_4.size : Int)) = false := decide_eq_false c25
           have c25b1 : decide (0 < x5_4.size) = false := decide_eq_false (by omega)
           clear c25
           by_cases c41 : (x4_17.size : Int) > 10
           ·rw [if_pos c41] at H
            have c41b0 : decide (10 < (x4_17.size : Int)) = true := decide_eq_true c41
            have c41b1 : decide (10 < x4_17.size) = true := decide_eq_true (by omega)
            clear c41
            simp only [Option.some.injEq, Prod.mk.injEq] at H
            obtain ⟨rfl, rfl, rfl⟩ := H
            have hcz42_0 : wr.cell? ⟨gb515, 0, none⟩ = some (.int .i64 0) := (zai BK515.o 0).trans rfl
            have hcz42_1 : wr.cell? ⟨gb515, 1, none⟩ = some (.int .i64 0) := (zai BK515.o 1).trans rfl
            have hfz42_0 := zak BK515.o 0
            have hfz42_1 := zak BK515.o 1
            go_wp2
            repeat (go_quiet (fail); try go_wp2)
            refine bodyPost_ret (zav rfl _ _ gb515 28 #[.int .i64 0, .int .i64 0] (0, 0) _ rfl (by (with_reducible repeat (first | refine zad ?_ _ | refine zab ?_ | refine zac ?_ _)); refine zap (cs := #[.int .i64 0, .int .i64 0]) ?_ 1 _ rfl; (with_reducible repeat (first | refine zad ?_ _ | refine zab ?_ | refine zac ?_ _)); refine zap (cs := #[.int .i64 0, .int .i64 0]) ?_ 0 _ rfl; (with_reducible repeat (first | refine zad ?_ _ | refine zab ?_ | refine zac ?_ _)); exact BK515.o) Tryd.underlying28 rfl (by kernel_rfl)) rfl ?_
            exact ⟨by first | rfl | (simp [errW_none, errW_some] <;> rfl) | (simp [*, errW_none, errW_some] <;> rfl), by repeat (first | (with_reducible first | exact HB.o | apply zaf | apply zah | apply zag | refine zae ?_ GE515.o) | exact HB.o)⟩
           ·rw [if_neg c41] at H
            have c41b0 : decide (10 < (x4_17.size : Int)) = false := decide_eq_false c41
            have c41b1 : decide (10 < x4_17.size) = false := decide_eq_false (by omega)
            clear c41
            by_cases c43 : (x5_4.size : Int) > 31
            ·rw [if_pos c43] at H
             have c43b0 : decide (31 < (x5_4.size : Int)) = true := decide_eq_true c43
             have c43b1 : decide (31 < x5_4.size) = true := decide_eq_true (by omega)
             clear c43
             simp only [Option.some.injEq, Prod.mk.injEq] at H
             obtain ⟨rfl, rfl, rfl⟩ := H
             have hcz44_0 : wr.cell? ⟨gb515, 0, none⟩ = some (.int .i64 0) := (zai BK515.o 0).trans rfl
             have hcz44_1 : wr.cell? ⟨gb515, 1, none⟩ = some (.int .i64 0) := (zai BK515.o 1).trans rfl
             have hfz44_0 := zak BK515.o 0
             have hfz44_1 := zak BK515.o 1
             go_wp2
             repeat (go_quiet (fail); try go_wp2)
             refine bodyPost_ret (zav rfl _ _ gb515 28 #[.int .i64 0, .int .i64 0] (0, 0) _ rfl (by (with_reducible repeat (first | refine zad ?_ _ | refine zab ?_ | refine zac ?_ _)); refine zap (cs := #[.int .i64 0, .int .i64 0]) ?_ 1 _ rfl; (with_reducible repeat (first | refine zad ?_ _ | refine zab ?_ | refine zac ?_ _)); refine zap (cs := #[.int .i64 0, .int .i64 0]) ?_ 0 _ rfl; (with_reducible repeat (first | refine zad ?_ _ | refine zab ?_ | refine zac ?_ _)); exact BK515.o) Tryd.underlying28 rfl (by kernel_rfl)) rfl ?_
             exact ⟨by first | rfl | (simp [errW_none, errW_some] <;> rfl) | (simp [*, errW_none, errW_some] <;> rfl), by repeat (first | (with_reducible first | exact HB.o | apply zaf | apply zah | apply zag | refine zae ?_ GE515.o) | exact HB.o)⟩
            ·rw [if_neg c43] at H
             have c43b0 : decide (31 < (x5_4.size : Int)) = false := decide_eq_false c43
             have c43b1 : decide (31 < x5_4.size) = false := decide_eq_false (by omega)
             clear c43
             by_cases c45 : x4_17.size + x5_4.size ≤ 9223372036854775807
             ·rw [if_pos c45] at H
              have c45b0 := eq_true c45
              have c45b1 : decide (x4_17.size + x5_4.size ≤ 9223372036854775807) = true := decide_eq_true c45
              try have c45b2 : (9223372036854775807 < x4_17.size + x5_4.size) = False := eq_false (Nat.not_lt.2 c45)
              replace H := Option.bind_eq_some_iff.mp H
              obtain ⟨⟨t521, t522, t523⟩, A460, H⟩ := H
              replace H : (some (t521, t522, t523)) = some (r1, r2, r3) := H
              have A46 := zaa.mk A460
              clear A460
              simp only [Option.some.injEq, Prod.mk.injEq] at H
              obtain ⟨rfl, rfl, rfl⟩ := H
              go_wp2_with (first | (go_at_call 58; (with_reducible refine (vinculumref02_reduced.calls k4 (x4_17 ++ x5_4) (x5_4.size : Int) t521 t522 t523 _ A46.o).mono ?_); rintro e w47 ⟨rfl, hb⟩; have n0_ := zaa.mk (zaj (by (with_reducible repeat (first | refine zad ?_ _ | refine zab ?_ | refine zac ?_ _)); exact BK515.o) hb); have n1_ := zaa.mk (zao (by repeat (first | (with_reducible first | exact HB.o | apply zaf | apply zah | apply zag | refine zae ?_ GE515.o) | exact HB.o)) hb); clear BK515; clear HB; have BK515 := n0_; have HB := n1_; clear n0_ n1_; (try clear hb); (try clear hb2); (try clear hk); (try clear hi); obtain ⟨hcz48_0, hcz48_1⟩ := cz2 BK515.o; obtain ⟨hfz48_0, hfz48_1⟩ := fz2 BK515.o))
              repeat (go_quiet (first | (go_at_call 58; (with_reducible refine (vinculumref02_reduced.calls k4 (x4_17 ++ x5_4) (x5_4.size : Int) t521 t522 t523 _ A46.o).mono ?_); rintro e w47 ⟨rfl, hb⟩; have n0_ := zaa.mk (zaj (by (with_reducible repeat (first | refine zad ?_ _ | refine zab ?_ | refine zac ?_ _)); exact BK515.o) hb); have n1_ := zaa.mk (zao (by repeat (first | (with_reducible first | exact HB.o | apply zaf | apply zah | apply zag | refine zae ?_ GE515.o) | exact HB.o)) hb); clear BK515; clear HB; have BK515 := n0_; have HB := n1_; clear n0_ n1_; (try clear hb); (try clear hb2); (try clear hk); (try clear hi); obtain ⟨hcz48_0, hcz48_1⟩ := cz2 BK515.o; obtain ⟨hfz48_0, hfz48_1⟩ := fz2 BK515.o)); try go_wp2_with (first | (go_at_call 58; (with_reducible refine (vinculumref02_reduced.calls k4 (x4_17 ++ x5_4) (x5_4.size : Int) t521 t522 t523 _ A46.o).mono ?_); rintro e w47 ⟨rfl, hb⟩; have n0_ := zaa.mk (zaj (by (with_reducible repeat (first | refine zad ?_ _ | refine zab ?_ | refine zac ?_ _)); exact BK515.o) hb); have n1_ := zaa.mk (zao (by repeat (first | (with_reducible first | exact HB.o | apply zaf | apply zah | apply zag | refine zae ?_ GE515.o) | exact HB.o)) hb); clear BK515; clear HB; have BK515 := n0_; have HB := n1_; clear n0_ n1_; (try clear hb); (try clear hb2); (try clear hk); (try clear hi); obtain ⟨hcz48_0, hcz48_1⟩ := cz2 BK515.o; obtain ⟨hfz48_0, hfz48_1⟩ := fz2 BK515.o)))
              refine bodyPost_ret (zav rfl _ _ gb515 28 #[.int .i64 t521, .int .i64 t522] (0, 0) _ rfl (by (with_reducible repeat (first | refine zad ?_ _ | refine zab ?_ | refine zac ?_ _)); refine zap (cs := #[.int .i64 t521, .int .i64 0]) ?_ 1 _ rfl; (with_reducible repeat (first | refine zad ?_ _ | refine zab ?_ | refine zac ?_ _)); refine zap (cs := #[.int .i64 0, .int .i64 0]) ?_ 0 _ rfl; (with_reducible repeat (first | refine zad ?_ _ | refine zab ?_ | refine zac ?_ _)); exact BK515.o) Tryd.underlying28 rfl (by kernel_rfl)) rfl ?_
              exact ⟨by first | rfl | (simp [errW_none, errW_some] <;> rfl) | (simp [*, errW_none, errW_some] <;> rfl), by repeat (first | (with_reducible first | exact HB.o | apply zaf | apply zah | apply zag | refine zae ?_ GE515.o) | exact HB.o)⟩
             ·rw [if_neg c45] at H
              exact absurd H (by simp)

end Go.Proofs.YtoieknocpphjoaaDoor.P
