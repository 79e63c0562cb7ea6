/- Written by wip/tool/hprint.py (the kit's print.py with hand-proved contracts set in): contracts of the functions that the statements of this seat reach, without conditions beyond those named in each theorem. -/
import Derived.Test.YtojcnndkdopahaaP0
import Derived.Test.YtojcnndkdopahaaP14
import Derived.Test.YtojcnndkdopahaaP16
import Derived.Test.YtojcnndkdopahaaP33
namespace Go.Proofs.Ytojcnndkdopahaa.P
open Go.RowKit Go.Proofs.YtojcnndkdopahaaW.PrintWords Go.Proofs.YtojcnndkdopahaaW.PrintLast Go.Proofs.YtojcnndkdopahaaW.PrintMore
attribute [local go_sem] max2_int min2_int max_two min_two max_three min_three max_four min_four   -- for this text's walks alone
set_option linter.unusedVariables false
set_option linter.unusedSimpArgs false

/-! ### vinculumlaw27_GlueShift: function 10 -/
mutual
def vinculumlaw27_GlueShift.j0 : Nat → List (S36) → Int → Bool → Int → Int → Option (Bool)
  | 0, _, _, _, _, _ => none
  | k + 1, x0, x1, x27, x282000, x282001 => if x27 = true then (some true) else (if (x0.length : Int) = 0 then (none) else ((some (([] : List (S36)) : List (S36))).bind fun y284 => (if y284.length + x0.length < 4398046511104 then ((some (y284 ++ x0 : List (S36))).bind fun y287 => (if 0 ≤ (Int.tmod (wrap64 ((wrap64 (x282000)) + 32768)) (x0.length : Int)) then (if (Int.tmod (wrap64 ((wrap64 (x282000)) + 32768)) (x0.length : Int)) < (y287.length : Int) then ((some (y287.set ((Int.tmod (wrap64 ((wrap64 (x282000)) + 32768)) (x0.length : Int)) : Int).toNat (⟨wrap64 (((rd_T36 y287 (Int.tmod (wrap64 ((wrap64 (x282000)) + 32768)) (x0.length : Int))).f0) + (wrap64 (x282001))), (rd_T36 y287 (Int.tmod (wrap64 ((wrap64 (x282000)) + 32768)) (x0.length : Int))).f1, (rd_T36 y287 (Int.tmod (wrap64 ((wrap64 (x282000)) + 32768)) (x0.length : Int))).f2, (rd_T36 y287 (Int.tmod (wrap64 ((wrap64 (x282000)) + 32768)) (x0.length : Int))).f3⟩ : S36) : List (S36))).bind fun y291 => ((vinculumlaw27_right.f k y291 (wrap64 (x1 + (wrap64 (x282001))))).bind fun t292 => (if t292 = true then ((glue_Set.f k x0 x1).bind fun bt293 => ((glue_Set.f k y291 (wrap64 (x1 + (wrap64 (x282001))))).bind fun bt298 => (if bt293.2.2 = 0 then (if bt298.2.2 = 0 then (if (bt293.1.length : Int) = (x0.length : Int) then (if (bt298.1.length : Int) = (x0.length : Int) then (vinculumlaw27_GlueShift.j1 k (Int.tmod (wrap64 ((wrap64 (x282000)) + 32768)) (x0.length : Int)) bt293.1 bt298.1 (bt293.2.1 != bt298.2.1) x282000 x282001) else (vinculumlaw27_GlueShift.j1 k (Int.tmod (wrap64 ((wrap64 (x282000)) + 32768)) (x0.length : Int)) bt293.1 bt298.1 true x282000 x282001)) else (vinculumlaw27_GlueShift.j1 k (Int.tmod (wrap64 ((wrap64 (x282000)) + 32768)) (x0.length : Int)) bt293.1 bt298.1 true x282000 x282001)) else (vinculumlaw27_GlueShift.j1 k (Int.tmod (wrap64 ((wrap64 (x282000)) + 32768)) (x0.length : Int)) bt293.1 bt298.1 true x282000 x282001)) else (vinculumlaw27_GlueShift.j1 k (Int.tmod (wrap64 ((wrap64 (x282000)) + 32768)) (x0.length : Int)) bt293.1 bt298.1 true x282000 x282001)))) else (some true)))) else (none)) else (none))) else (none))))
def vinculumlaw27_GlueShift.j1 : Nat → Int → List Int → List Int → Bool → Int → Int → Option (Bool)
  | 0, _, _, _, _, _, _ => none
  | k + 1, x7, x9, x12, x99, x282000, x282001 => if x99 = true then (none) else (vinculumlaw27_GlueShift.l0 k x7 x9 x12 0 x282000 x282001)
def vinculumlaw27_GlueShift.l0 : Nat → Int → List Int → List Int → Int → Int → Int → Option (Bool)
  | 0, _, _, _, _, _, _ => none
  | k + 1, x7, x9, x12, x15, x282000, x282001 => if x15 < (x9.length : Int) then (if 0 ≤ x15 then (if x15 = x7 then (if x15 < (x12.length : Int) then (if (rd x12 x15) = (wrap64 ((rd x9 x15) + (wrap64 (x282001)))) then (vinculumlaw27_GlueShift.l0 k x7 x9 x12 (wrap64 (x15 + 1)) x282000 x282001) else (none)) else (none)) else (if x15 < (x12.length : Int) then (if (rd x12 x15) = (rd x9 x15) then (vinculumlaw27_GlueShift.l0 k x7 x9 x12 (wrap64 (x15 + 1)) x282000 x282001) else (none)) else (none))) else (none)) else (some true)
end
def vinculumlaw27_GlueShift.f (k : Nat) (l0 : List (S36)) (a1 : Int) (a2_0 : Int) (a2_1 : Int) : Option (Bool) := (vinculumlaw27_awake.f k).bind fun t282 => (if t282 = true then ((vinculumlaw27_right.f k l0 a1).bind fun t283 => (if t283 = true then (vinculumlaw27_GlueShift.j0 k l0 a1 ((l0.length : Int) == 0) a2_0 a2_1) else (vinculumlaw27_GlueShift.j0 k l0 a1 true a2_0 a2_1))) else (none))
theorem vinculumlaw27_GlueShift.mono_l : ∀ k, (∀ y0 y1 y2 y3 y4, LeO (vinculumlaw27_GlueShift.j0 k y0 y1 y2 y3 y4) (vinculumlaw27_GlueShift.j0 (k + 1) y0 y1 y2 y3 y4)) ∧ (∀ y0 y1 y2 y3 y4 y5, LeO (vinculumlaw27_GlueShift.j1 k y0 y1 y2 y3 y4 y5) (vinculumlaw27_GlueShift.j1 (k + 1) y0 y1 y2 y3 y4 y5)) ∧ (∀ y0 y1 y2 y3 y4 y5, LeO (vinculumlaw27_GlueShift.l0 k y0 y1 y2 y3 y4 y5) (vinculumlaw27_GlueShift.l0 (k + 1) y0 y1 y2 y3 y4 y5))
  | 0 => ⟨fun _ _ _ _ _ r h => by simp [vinculumlaw27_GlueShift.j0] at h, fun _ _ _ _ _ _ r h => by simp [vinculumlaw27_GlueShift.j1] at h, fun _ _ _ _ _ _ r h => by simp [vinculumlaw27_GlueShift.l0] at h⟩
  | k + 1 => by
    obtain ⟨ih0, ih1, ih2⟩ := vinculumlaw27_GlueShift.mono_l k
    refine ⟨?_, ?_, ?_⟩
    · intro y0 y1 y2 y3 y4
      unfold vinculumlaw27_GlueShift.j0
      repeat' first
      | (with_reducible exact ih0 _ _ _ _ _)
      | (with_reducible exact ih1 _ _ _ _ _ _)
      | (with_reducible exact ih2 _ _ _ _ _ _)
      | (with_reducible exact glue_Set.mono _ _ _)
      | (with_reducible exact vinculumlaw27_awake.mono _)
      | (with_reducible exact vinculumlaw27_right.mono _ _ _)
      | (with_reducible exact LeO.refl _)
      | (with_reducible exact LeO.none _)
      | (with_reducible refine LeO.ite ?_ ?_)
      | (with_reducible refine LeO.bind ?_ (fun _ => ?_))
      | exact ih0 _ _ _ _ _
      | exact ih1 _ _ _ _ _ _
      | exact ih2 _ _ _ _ _ _
      | exact glue_Set.mono _ _ _
      | exact vinculumlaw27_awake.mono _
      | exact vinculumlaw27_right.mono _ _ _
      | exact LeO.none _
      | refine LeO.ite ?_ ?_
      | refine LeO.bind ?_ (fun _ => ?_)
    · intro y0 y1 y2 y3 y4 y5
      unfold vinculumlaw27_GlueShift.j1
      repeat' first
      | (with_reducible exact ih0 _ _ _ _ _)
      | (with_reducible exact ih1 _ _ _ _ _ _)
      | (with_reducible exact ih2 _ _ _ _ _ _)
      | (with_reducible exact glue_Set.mono _ _ _)
      | (with_reducible exact vinculumlaw27_awake.mono _)
      | (with_reducible exact vinculumlaw27_right.mono _ _ _)
      | (with_reducible exact LeO.refl _)
      | (with_reducible exact LeO.none _)
      | (with_reducible refine LeO.ite ?_ ?_)
      | (with_reducible refine LeO.bind ?_ (fun _ => ?_))
      | exact ih0 _ _ _ _ _
      | exact ih1 _ _ _ _ _ _
      | exact ih2 _ _ _ _ _ _
      | exact glue_Set.mono _ _ _
      | exact vinculumlaw27_awake.mono _
      | exact vinculumlaw27_right.mono _ _ _
      | exact LeO.none _
      | refine LeO.ite ?_ ?_
      | refine LeO.bind ?_ (fun _ => ?_)
    · intro y0 y1 y2 y3 y4 y5
      unfold vinculumlaw27_GlueShift.l0
      repeat' first
      | (with_reducible exact ih0 _ _ _ _ _)
      | (with_reducible exact ih1 _ _ _ _ _ _)
      | (with_reducible exact ih2 _ _ _ _ _ _)
      | (with_reducible exact glue_Set.mono _ _ _)
      | (with_reducible exact vinculumlaw27_awake.mono _)
      | (with_reducible exact vinculumlaw27_right.mono _ _ _)
      | (with_reducible exact LeO.refl _)
      | (with_reducible exact LeO.none _)
      | (with_reducible refine LeO.ite ?_ ?_)
      | (with_reducible refine LeO.bind ?_ (fun _ => ?_))
      | exact ih0 _ _ _ _ _
      | exact ih1 _ _ _ _ _ _
      | exact ih2 _ _ _ _ _ _
      | exact glue_Set.mono _ _ _
      | exact vinculumlaw27_awake.mono _
      | exact vinculumlaw27_right.mono _ _ _
      | exact LeO.none _
      | refine LeO.ite ?_ ?_
      | refine LeO.bind ?_ (fun _ => ?_)
theorem vinculumlaw27_GlueShift.mono : ∀ a0 a1 a2 a3 k, LeO (vinculumlaw27_GlueShift.f k a0 a1 a2 a3) (vinculumlaw27_GlueShift.f (k + 1) a0 a1 a2 a3) := by
  intro a0 a1 a2 a3 k
  obtain ⟨ih0, ih1, ih2⟩ := vinculumlaw27_GlueShift.mono_l k
  unfold vinculumlaw27_GlueShift.f
  repeat' first
      | (with_reducible exact ih0 _ _ _ _ _)
      | (with_reducible exact ih1 _ _ _ _ _ _)
      | (with_reducible exact ih2 _ _ _ _ _ _)
      | (with_reducible exact glue_Set.mono _ _ _)
      | (with_reducible exact vinculumlaw27_awake.mono _)
      | (with_reducible exact vinculumlaw27_right.mono _ _ _)
      | (with_reducible exact LeO.refl _)
      | (with_reducible exact LeO.none _)
      | (with_reducible refine LeO.ite ?_ ?_)
      | (with_reducible refine LeO.bind ?_ (fun _ => ?_))
      | exact ih0 _ _ _ _ _
      | exact ih1 _ _ _ _ _ _
      | exact ih2 _ _ _ _ _ _
      | exact glue_Set.mono _ _ _
      | exact vinculumlaw27_awake.mono _
      | exact vinculumlaw27_right.mono _ _ _
      | exact LeO.none _
      | refine LeO.ite ?_ ?_
      | refine LeO.bind ?_ (fun _ => ?_)
def vinculumlaw27_GlueShift.T7 : Bool × List (List Nat × List Nat) := (true, [([], []), ([], []), ([0, 1], [0, 1]), ([2], [2]), ([3], [3]), ([], []), ([5], [5]), ([6], [6]), ([4, 7], [4, 7]), ([0, 1, 0, 1, 2, 3, 4, 5, 6, 7, 8], [0, 1]), ([9, 0, 1, 2, 3, 4, 5, 6, 7, 8], [9]), ([10, 8, 0, 1, 2, 3, 4, 5, 6, 7, 8], [8, 10])])
def vinculumlaw27_GlueShift.B7 : List Nat := [0, 0, 3, 7, 15, 0, 32, 96, 255, 511, 1023, 2047]
theorem vinculumlaw27_GlueShift.tab7 : rtab .any (opsOf Try.f10 7) = vinculumlaw27_GlueShift.T7 := by kernel_rfl
theorem vinculumlaw27_GlueShift.bits7 : waitsOk vinculumlaw27_GlueShift.T7.2 vinculumlaw27_GlueShift.B7 = true := by kernel_rfl
set_option maxHeartbeats 8000000 in
set_option maxRecDepth 100000 in
theorem vinculumlaw27_GlueShift.calls (k : Nat) (A0 : Option Addr) (c0 : Nat) (l0 : List (S36)) (a1 : Int) (a2_0 : Int) (a2_1 : Int) (r : Bool) (w : World) (hr0 : Kd.C k36 w A0 l0.length l0) (hc0 : l0.length ≤ c0) (h : vinculumlaw27_GlueShift.f k l0 a1 a2_0 a2_1 = some r) :
    Calls Try.prog 10 #[.slice A0 l0.length c0, .int .i64 a1, .agg #[.int .i16 a2_0, .int .i16 a2_1]] w fun e w' => e = .returned (.bool r) ∧ Below w.heap.size w w' := by
  have hu41 := Try.underlying41
  have HR0 := Aside0.mk hr0
  have HC0 := Aside0.mk hc0
  clear hr0 hc0
  have HB := Aside0.mk (Below.refl w.heap.size w)
  have H : ((vinculumlaw27_awake.f k).bind fun t282 => (if t282 = true then ((vinculumlaw27_right.f k l0 a1).bind fun t283 => (if t283 = true then (vinculumlaw27_GlueShift.j0 k l0 a1 ((l0.length : Int) == 0) a2_0 a2_1) else (vinculumlaw27_GlueShift.j0 k l0 a1 true a2_0 a2_1))) else (none))) = some r := h
  clear h
  replace H := Option.bind_eq_some_iff.mp H
  obtain ⟨t282, A40, H⟩ := H
  replace H : (if t282 = true then ((vinculumlaw27_right.f k l0 a1).bind fun t283 => (if t283 = true then (vinculumlaw27_GlueShift.j0 k l0 a1 ((l0.length : Int) == 0) a2_0 a2_1) else (vinculumlaw27_GlueShift.j0 k l0 a1 true a2_0 a2_1))) else (none)) = some r := H
  have A4 := Aside0.mk A40
  clear A40
  by_cases c5 : t282 = true
  · subst c5
    have H1 : ((vinculumlaw27_right.f k l0 a1).bind fun t283 => (if t283 = true then (vinculumlaw27_GlueShift.j0 k l0 a1 ((l0.length : Int) == 0) a2_0 a2_1) else (vinculumlaw27_GlueShift.j0 k l0 a1 true a2_0 a2_1))) = some r := by rw [if_pos rfl] at H; exact H
    clear H
    have H := H1
    clear H1
    have HC6 := Aside0.mk H
    clear H
    have ix2_0 : ∀ W_ : World, (Instr.index 41 (.agg #[.int .i16 a2_0, .int .i16 a2_1]) (.int .i64 0)).run Try.prog W_ = .ok (.int .i16 a2_0) W_ := fun _ => by kernel_rfl
    have ix2_1 : ∀ W_ : World, (Instr.index 41 (.agg #[.int .i16 a2_0, .int .i16 a2_1]) (.int .i64 1)).run Try.prog W_ = .ok (.int .i16 a2_1) W_ := fun _ => by kernel_rfl
    go_enter Try.func10, Try.ntmps10
    go_upto_region 3 with (first | ((with_reducible refine gate_dst (N := 5) rfl ?_); (try (refine gate_guard (by rfl) ?_; dsimp only)); refine box_event ?hg (N := 5) ?hd (cs := #[.int .i16 a2_0, .int .i16 a2_1]) (t := 41) ?hr ?_; (case hd => rfl); (case hg => rfl); (case hr => first | (go_simp; done) | (go_simp; rfl)); intro gb281 hg w7 hbox hb; have n0_ := Aside0.mk (below_step (by repeat (first | (with_reducible first | exact HB.out | apply below_alloc | apply pw_below_drewN | apply below_drew1) | exact HB.out)) hb); have n1_ := Aside0.mk (hbox); have n2_ := Aside0.mk ((by rw [hg]; exact (below_size (by repeat (first | (with_reducible first | exact HB.out | apply below_alloc | apply pw_below_drewN | apply below_drew1) | exact HB.out))) : w.heap.size ≤ gb281)); have n3_ := Aside0.mk ((by rw [hg]; exact (below_size (by repeat (first | (with_reducible first | exact HB.out | apply below_alloc | apply pw_below_drewN | apply below_drew1) | exact HB.out))) : w.heap.size ≤ gb281)); clear HB; have HB := n0_; have BK281 := n1_; have GW281 := n2_; have GE281 := n3_; clear n0_ n1_ n2_ n3_; clear hb hbox hg) | ((with_reducible refine gate_callee (f := 13) rfl ?_); refine goesL_ (some 17) rfl rfl Try.func13 (by kernel_rfl) rfl #[] rfl (by (try simp only [List.map_toArray, List.map_cons, List.map_nil]); first | done | rfl | (simp only [List.length_drop, List.length_take]; rfl)) ?_; (with_reducible refine (vinculumlaw27_awake.calls k  true _ A4.out).mono ?_); rintro e w8 ⟨rfl, hb⟩; refine ⟨_, rfl, ?_⟩; have n0_ := Aside0.mk (blk_below (g := gb281) (o := .cells #[.int .i16 a2_0, .int .i16 a2_1] 41 (0, 0)) (by (with_reducible repeat (first | refine blk_drewN ?_ _ | refine blk_drew ?_ | refine blk_alloc ?_ _)); exact BK281.out) hb); have n1_ := Aside0.mk (below_step (by repeat (first | (with_reducible first | exact HB.out | apply below_alloc | apply pw_below_drewN | apply below_drew1 | refine below_set ?_ GE281.out) | exact HB.out)) hb); clear BK281; clear HB; have BK281 := n0_; have HB := n1_; clear n0_ n1_; (try clear hb); (try clear hb2); (try clear hk); (try clear hi)))
    (try simp only [Act.put, List.setIfInBounds_toArray, List.set_cons_zero, List.set_cons_succ])
    go_cut [27] (fun v27 wc => ∃ (kq : Nat) (x27_5 : Bool), v27 = .bool x27_5 ∧ Aside0 (vinculumlaw27_GlueShift.j0 kq l0 a1 x27_5 a2_0 a2_1 = some r) ∧ Aside0 (kq ≤ k) ∧ Aside0 (wc.heap[gb281]? = some (.cells #[.int .i16 a2_0, .int .i16 a2_1] 41 (0, 0))) ∧ Aside0 (Below w.heap.size w wc))
    case first =>
      have H := HC6.out
      clear HC6
      replace H := Option.bind_eq_some_iff.mp H
      obtain ⟨t283, A90, H⟩ := H
      replace H : (if t283 = true then (vinculumlaw27_GlueShift.j0 k l0 a1 ((l0.length : Int) == 0) a2_0 a2_1) else (vinculumlaw27_GlueShift.j0 k l0 a1 true a2_0 a2_1)) = some r := H
      have A9 := Aside0.mk A90
      clear A90
      by_cases c10 : t283 = true
      · subst c10
        have H1 : (vinculumlaw27_GlueShift.j0 k l0 a1 ((l0.length : Int) == 0) a2_0 a2_1) = some r := by rw [if_pos rfl] at H; exact H
        clear H
        have H := H1
        clear H1
        have H' := Aside0.mk H
        clear H
        go_wp2_with (first | ((with_reducible refine gate_callee (f := 27) rfl ?_); refine goesL_ (some 21) rfl rfl Try.func27 (by kernel_rfl) rfl #[.slice A0 l0.length c0, .int .i64 a1] rfl (by (try simp only [List.map_toArray, List.map_cons, List.map_nil]); first | done | rfl | (simp only [List.length_drop, List.length_take]; rfl)) ?_; (with_reducible refine (vinculumlaw27_right.calls k _ _ l0 a1 true _ ?side1 ?side2 A9.out).mono ?_); (case side1 => repeat (first | exact (Kd.C_below HR0.out HB.out) | (with_reducible refine Kd.C_alloc ?_ _) | (with_reducible refine Kd.C_drewN ?_ _) | (with_reducible refine Kd.C_drew ?_))); (case side2 => exact HC0.out); rintro e w11 ⟨rfl, hb⟩; refine ⟨_, rfl, ?_⟩; have n0_ := Aside0.mk (blk_below (g := gb281) (o := .cells #[.int .i16 a2_0, .int .i16 a2_1] 41 (0, 0)) (by (with_reducible repeat (first | refine blk_drewN ?_ _ | refine blk_drew ?_ | refine blk_alloc ?_ _)); exact BK281.out) hb); have n1_ := Aside0.mk (below_step (by repeat (first | (with_reducible first | exact HB.out | apply below_alloc | apply pw_below_drewN | apply below_drew1 | refine below_set ?_ GE281.out) | exact HB.out)) hb); clear BK281; clear HB; have BK281 := n0_; have HB := n1_; clear n0_ n1_; (try clear hb); (try clear hb2); (try clear hk); (try clear hi)))
        go_meet
        case rel => exact ⟨_, (((l0.length : Int) == 0)), (by first | rfl | (simp; done) | (simp [*]; done)), H', ⟨by first | omega | exact Nat.le_refl _⟩, ⟨by (with_reducible repeat (first | refine blk_drewN ?_ _ | refine blk_drew ?_ | refine blk_alloc ?_ _)); exact BK281.out⟩, ⟨by repeat (first | (with_reducible first | exact HB.out | apply below_alloc | apply pw_below_drewN | apply below_drew1 | refine below_set ?_ GE281.out) | exact HB.out)⟩⟩
      · replace c10 := Bool.eq_false_iff.mpr c10
        subst c10
        have H1 : (vinculumlaw27_GlueShift.j0 k l0 a1 true a2_0 a2_1) = some r := by rw [if_neg (show ¬ (false = true) by decide)] at H; exact H
        clear H
        have H := H1
        clear H1
        have H' := Aside0.mk H
        clear H
        go_wp2_with (first | ((with_reducible refine gate_callee (f := 27) rfl ?_); refine goesL_ (some 21) rfl rfl Try.func27 (by kernel_rfl) rfl #[.slice A0 l0.length c0, .int .i64 a1] rfl (by (try simp only [List.map_toArray, List.map_cons, List.map_nil]); first | done | rfl | (simp only [List.length_drop, List.length_take]; rfl)) ?_; (with_reducible refine (vinculumlaw27_right.calls k _ _ l0 a1 false _ ?side1 ?side2 A9.out).mono ?_); (case side1 => repeat (first | exact (Kd.C_below HR0.out HB.out) | (with_reducible refine Kd.C_alloc ?_ _) | (with_reducible refine Kd.C_drewN ?_ _) | (with_reducible refine Kd.C_drew ?_))); (case side2 => exact HC0.out); rintro e w12 ⟨rfl, hb⟩; refine ⟨_, rfl, ?_⟩; have n0_ := Aside0.mk (blk_below (g := gb281) (o := .cells #[.int .i16 a2_0, .int .i16 a2_1] 41 (0, 0)) (by (with_reducible repeat (first | refine blk_drewN ?_ _ | refine blk_drew ?_ | refine blk_alloc ?_ _)); exact BK281.out) hb); have n1_ := Aside0.mk (below_step (by repeat (first | (with_reducible first | exact HB.out | apply below_alloc | apply pw_below_drewN | apply below_drew1 | refine below_set ?_ GE281.out) | exact HB.out)) hb); clear BK281; clear HB; have BK281 := n0_; have HB := n1_; clear n0_ n1_; (try clear hb); (try clear hb2); (try clear hk); (try clear hi)))
        go_meet
        case rel => exact ⟨_, (true), (by first | rfl | (simp; done) | (simp [*]; done)), H', ⟨by first | omega | exact Nat.le_refl _⟩, ⟨by (with_reducible repeat (first | refine blk_drewN ?_ _ | refine blk_drew ?_ | refine blk_alloc ?_ _)); exact BK281.out⟩, ⟨by repeat (first | (with_reducible first | exact HB.out | apply below_alloc | apply pw_below_drewN | apply below_drew1 | refine below_set ?_ GE281.out) | exact HB.out)⟩⟩
    case rest =>
      clear HC6
      try clear c1
      try clear c2
      try clear p2
      try clear c5
      try clear c10
      obtain ⟨kq, x27_5, rfl, HA, HJ5, BK281, HB⟩ := hcut
      cases kq with
      | zero => exact absurd HA.out (by simp [vinculumlaw27_GlueShift.j0])
      | succ kj5 =>
        have H := HA.out
        clear HA
        simp only [vinculumlaw27_GlueShift.j0] at H
        by_cases c13 : x27_5 = true
        · subst c13
          have H1 : (some true) = some r := by rw [if_pos rfl] at H; exact H
          clear H
          have H := H1
          clear H1
          obtain rfl := Option.some.inj H
          go_wp2
          go_ret
          exact ⟨by first | rfl | (simp [errW_none, errW_some] <;> rfl) | (simp [*, errW_none, errW_some] <;> rfl), by repeat (first | (with_reducible first | exact HB.out | apply below_alloc | apply pw_below_drewN | apply below_drew1 | refine below_set ?_ GE281.out) | exact HB.out)⟩
        · replace c13 := Bool.eq_false_iff.mpr c13
          subst c13
          have H1 : (if (l0.length : Int) = 0 then (none) else ((some (([] : List (S36)) : List (S36))).bind fun y284 => (if y284.length + l0.length < 4398046511104 then ((some (y284 ++ l0 : List (S36))).bind fun y287 => (if 0 ≤ (Int.tmod (wrap64 ((wrap64 (a2_0)) + 32768)) (l0.length : Int)) then (if (Int.tmod (wrap64 ((wrap64 (a2_0)) + 32768)) (l0.length : Int)) < (y287.length : Int) then ((some (y287.set ((Int.tmod (wrap64 ((wrap64 (a2_0)) + 32768)) (l0.length : Int)) : Int).toNat (⟨wrap64 (((rd_T36 y287 (Int.tmod (wrap64 ((wrap64 (a2_0)) + 32768)) (l0.length : Int))).f0) + (wrap64 (a2_1))), (rd_T36 y287 (Int.tmod (wrap64 ((wrap64 (a2_0)) + 32768)) (l0.length : Int))).f1, (rd_T36 y287 (Int.tmod (wrap64 ((wrap64 (a2_0)) + 32768)) (l0.length : Int))).f2, (rd_T36 y287 (Int.tmod (wrap64 ((wrap64 (a2_0)) + 32768)) (l0.length : Int))).f3⟩ : S36) : List (S36))).bind fun y291 => ((vinculumlaw27_right.f kj5 y291 (wrap64 (a1 + (wrap64 (a2_1))))).bind fun t292 => (if t292 = true then ((glue_Set.f kj5 l0 a1).bind fun bt293 => ((glue_Set.f kj5 y291 (wrap64 (a1 + (wrap64 (a2_1))))).bind fun bt298 => (if bt293.2.2 = 0 then (if bt298.2.2 = 0 then (if (bt293.1.length : Int) = (l0.length : Int) then (if (bt298.1.length : Int) = (l0.length : Int) then (vinculumlaw27_GlueShift.j1 kj5 (Int.tmod (wrap64 ((wrap64 (a2_0)) + 32768)) (l0.length : Int)) bt293.1 bt298.1 (bt293.2.1 != bt298.2.1) a2_0 a2_1) else (vinculumlaw27_GlueShift.j1 kj5 (Int.tmod (wrap64 ((wrap64 (a2_0)) + 32768)) (l0.length : Int)) bt293.1 bt298.1 true a2_0 a2_1)) else (vinculumlaw27_GlueShift.j1 kj5 (Int.tmod (wrap64 ((wrap64 (a2_0)) + 32768)) (l0.length : Int)) bt293.1 bt298.1 true a2_0 a2_1)) else (vinculumlaw27_GlueShift.j1 kj5 (Int.tmod (wrap64 ((wrap64 (a2_0)) + 32768)) (l0.length : Int)) bt293.1 bt298.1 true a2_0 a2_1)) else (vinculumlaw27_GlueShift.j1 kj5 (Int.tmod (wrap64 ((wrap64 (a2_0)) + 32768)) (l0.length : Int)) bt293.1 bt298.1 true a2_0 a2_1)))) else (some true)))) else (none)) else (none))) else (none)))) = some r := by rw [if_neg (show ¬ (false = true) by decide)] at H; exact H
          clear H
          have H := H1
          clear H1
          by_cases c14 : (l0.length : Int) = 0
          · rw [if_pos c14] at H
            exact absurd H (by simp)
          · rw [if_neg c14] at H
            have c14b0 : ((l0.length : Int) == 0) = false := beq_eq_false_iff_ne.mpr c14
            have c14b1 : ((l0.length : Int) != 0) = true := bne_iff_ne.mpr c14
            have c14b2 : ¬ (l0 = []) := fun h_ => c14 (by rw [h_]; rfl)
            obtain ⟨y284, hy284⟩ : ∃ y_ : List (S36), y_ = (([] : List (S36))) := ⟨_, rfl⟩
            replace H : (if y284.length + l0.length < 4398046511104 then ((some (y284 ++ l0 : List (S36))).bind fun y287 => (if 0 ≤ (Int.tmod (wrap64 ((wrap64 (a2_0)) + 32768)) (l0.length : Int)) then (if (Int.tmod (wrap64 ((wrap64 (a2_0)) + 32768)) (l0.length : Int)) < (y287.length : Int) then ((some (y287.set ((Int.tmod (wrap64 ((wrap64 (a2_0)) + 32768)) (l0.length : Int)) : Int).toNat (⟨wrap64 (((rd_T36 y287 (Int.tmod (wrap64 ((wrap64 (a2_0)) + 32768)) (l0.length : Int))).f0) + (wrap64 (a2_1))), (rd_T36 y287 (Int.tmod (wrap64 ((wrap64 (a2_0)) + 32768)) (l0.length : Int))).f1, (rd_T36 y287 (Int.tmod (wrap64 ((wrap64 (a2_0)) + 32768)) (l0.length : Int))).f2, (rd_T36 y287 (Int.tmod (wrap64 ((wrap64 (a2_0)) + 32768)) (l0.length : Int))).f3⟩ : S36) : List (S36))).bind fun y291 => ((vinculumlaw27_right.f kj5 y291 (wrap64 (a1 + (wrap64 (a2_1))))).bind fun t292 => (if t292 = true then ((glue_Set.f kj5 l0 a1).bind fun bt293 => ((glue_Set.f kj5 y291 (wrap64 (a1 + (wrap64 (a2_1))))).bind fun bt298 => (if bt293.2.2 = 0 then (if bt298.2.2 = 0 then (if (bt293.1.length : Int) = (l0.length : Int) then (if (bt298.1.length : Int) = (l0.length : Int) then (vinculumlaw27_GlueShift.j1 kj5 (Int.tmod (wrap64 ((wrap64 (a2_0)) + 32768)) (l0.length : Int)) bt293.1 bt298.1 (bt293.2.1 != bt298.2.1) a2_0 a2_1) else (vinculumlaw27_GlueShift.j1 kj5 (Int.tmod (wrap64 ((wrap64 (a2_0)) + 32768)) (l0.length : Int)) bt293.1 bt298.1 true a2_0 a2_1)) else (vinculumlaw27_GlueShift.j1 kj5 (Int.tmod (wrap64 ((wrap64 (a2_0)) + 32768)) (l0.length : Int)) bt293.1 bt298.1 true a2_0 a2_1)) else (vinculumlaw27_GlueShift.j1 kj5 (Int.tmod (wrap64 ((wrap64 (a2_0)) + 32768)) (l0.length : Int)) bt293.1 bt298.1 true a2_0 a2_1)) else (vinculumlaw27_GlueShift.j1 kj5 (Int.tmod (wrap64 ((wrap64 (a2_0)) + 32768)) (l0.length : Int)) bt293.1 bt298.1 true a2_0 a2_1)))) else (some true)))) else (none)) else (none))) else (none)) = some r := by first | (rw [hy284]; with_reducible exact H) | (have H2_ := (Option.bind_some _ _).symm.trans H; rw [hy284]; with_reducible exact H2_) | (have H2_ := (Option.bind_some _ _).symm.trans H; with_reducible exact H2_) | with_reducible exact H | (rw [hy284]; exact H) | exact H
            have Ny284 := Aside0.mk hy284
            clear hy284
            by_cases c15 : y284.length + l0.length < 4398046511104
            · rw [if_pos c15] at H
              have LMc15 := Aside0.mk c15
              clear c15
              obtain ⟨y287, hy287⟩ : ∃ y_ : List (S36), y_ = (y284 ++ l0) := ⟨_, rfl⟩
              replace H : (if 0 ≤ (Int.tmod (wrap64 ((wrap64 (a2_0)) + 32768)) (l0.length : Int)) then (if (Int.tmod (wrap64 ((wrap64 (a2_0)) + 32768)) (l0.length : Int)) < (y287.length : Int) then ((some (y287.set ((Int.tmod (wrap64 ((wrap64 (a2_0)) + 32768)) (l0.length : Int)) : Int).toNat (⟨wrap64 (((rd_T36 y287 (Int.tmod (wrap64 ((wrap64 (a2_0)) + 32768)) (l0.length : Int))).f0) + (wrap64 (a2_1))), (rd_T36 y287 (Int.tmod (wrap64 ((wrap64 (a2_0)) + 32768)) (l0.length : Int))).f1, (rd_T36 y287 (Int.tmod (wrap64 ((wrap64 (a2_0)) + 32768)) (l0.length : Int))).f2, (rd_T36 y287 (Int.tmod (wrap64 ((wrap64 (a2_0)) + 32768)) (l0.length : Int))).f3⟩ : S36) : List (S36))).bind fun y291 => ((vinculumlaw27_right.f kj5 y291 (wrap64 (a1 + (wrap64 (a2_1))))).bind fun t292 => (if t292 = true then ((glue_Set.f kj5 l0 a1).bind fun bt293 => ((glue_Set.f kj5 y291 (wrap64 (a1 + (wrap64 (a2_1))))).bind fun bt298 => (if bt293.2.2 = 0 then (if bt298.2.2 = 0 then (if (bt293.1.length : Int) = (l0.length : Int) then (if (bt298.1.length : Int) = (l0.length : Int) then (vinculumlaw27_GlueShift.j1 kj5 (Int.tmod (wrap64 ((wrap64 (a2_0)) + 32768)) (l0.length : Int)) bt293.1 bt298.1 (bt293.2.1 != bt298.2.1) a2_0 a2_1) else (vinculumlaw27_GlueShift.j1 kj5 (Int.tmod (wrap64 ((wrap64 (a2_0)) + 32768)) (l0.length : Int)) bt293.1 bt298.1 true a2_0 a2_1)) else (vinculumlaw27_GlueShift.j1 kj5 (Int.tmod (wrap64 ((wrap64 (a2_0)) + 32768)) (l0.length : Int)) bt293.1 bt298.1 true a2_0 a2_1)) else (vinculumlaw27_GlueShift.j1 kj5 (Int.tmod (wrap64 ((wrap64 (a2_0)) + 32768)) (l0.length : Int)) bt293.1 bt298.1 true a2_0 a2_1)) else (vinculumlaw27_GlueShift.j1 kj5 (Int.tmod (wrap64 ((wrap64 (a2_0)) + 32768)) (l0.length : Int)) bt293.1 bt298.1 true a2_0 a2_1)))) else (some true)))) else (none)) else (none)) = some r := by first | (rw [hy287]; with_reducible exact H) | (have H2_ := (Option.bind_some _ _).symm.trans H; rw [hy287]; with_reducible exact H2_) | (have H2_ := (Option.bind_some _ _).symm.trans H; with_reducible exact H2_) | with_reducible exact H | (rw [hy287]; exact H) | exact H
              have Ny287 := Aside0.mk hy287
              clear hy287
              obtain ⟨ji16, hji16⟩ : ∃ j_ : Int, (Int.tmod (wrap64 ((wrap64 (a2_0)) + 32768)) (l0.length : Int)) = j_ := ⟨_, rfl⟩
              replace H : (if 0 ≤ (ji16) then (if (ji16) < (y287.length : Int) then ((some (y287.set ((ji16) : Int).toNat (⟨wrap64 (((rd_T36 y287 (ji16)).f0) + (wrap64 (a2_1))), (rd_T36 y287 (ji16)).f1, (rd_T36 y287 (ji16)).f2, (rd_T36 y287 (ji16)).f3⟩ : S36) : List (S36))).bind fun y291 => ((vinculumlaw27_right.f kj5 y291 (wrap64 (a1 + (wrap64 (a2_1))))).bind fun t292 => (if t292 = true then ((glue_Set.f kj5 l0 a1).bind fun bt293 => ((glue_Set.f kj5 y291 (wrap64 (a1 + (wrap64 (a2_1))))).bind fun bt298 => (if bt293.2.2 = 0 then (if bt298.2.2 = 0 then (if (bt293.1.length : Int) = (l0.length : Int) then (if (bt298.1.length : Int) = (l0.length : Int) then (vinculumlaw27_GlueShift.j1 kj5 ji16 bt293.1 bt298.1 (bt293.2.1 != bt298.2.1) a2_0 a2_1) else (vinculumlaw27_GlueShift.j1 kj5 ji16 bt293.1 bt298.1 true a2_0 a2_1)) else (vinculumlaw27_GlueShift.j1 kj5 ji16 bt293.1 bt298.1 true a2_0 a2_1)) else (vinculumlaw27_GlueShift.j1 kj5 ji16 bt293.1 bt298.1 true a2_0 a2_1)) else (vinculumlaw27_GlueShift.j1 kj5 ji16 bt293.1 bt298.1 true a2_0 a2_1)))) else (some true)))) else (none)) else (none)) = some r := by first | (rw [hji16] at H; exact H) | (simp only [hji16] at H ⊢; exact H)
              by_cases c17 : 0 ≤ (ji16)
              · rw [if_pos c17] at H
                have c17b0 : decide (0 ≤ (ji16)) = true := decide_eq_true c17
                clear c17
                by_cases c18 : (ji16) < (y287.length : Int)
                · rw [if_pos c18] at H
                  have c18b0 : decide ((ji16) < (y287.length : Int)) = true := decide_eq_true c18
                  clear c18
                  obtain ⟨y291, hy291⟩ : ∃ y_ : List (S36), y_ = (y287.set ((ji16) : Int).toNat (⟨wrap64 (((rd_T36 y287 (ji16)).f0) + (wrap64 (a2_1))), (rd_T36 y287 (ji16)).f1, (rd_T36 y287 (ji16)).f2, (rd_T36 y287 (ji16)).f3⟩ : S36)) := ⟨_, rfl⟩
                  replace H : ((vinculumlaw27_right.f kj5 y291 (wrap64 (a1 + (wrap64 (a2_1))))).bind fun t292 => (if t292 = true then ((glue_Set.f kj5 l0 a1).bind fun bt293 => ((glue_Set.f kj5 y291 (wrap64 (a1 + (wrap64 (a2_1))))).bind fun bt298 => (if bt293.2.2 = 0 then (if bt298.2.2 = 0 then (if (bt293.1.length : Int) = (l0.length : Int) then (if (bt298.1.length : Int) = (l0.length : Int) then (vinculumlaw27_GlueShift.j1 kj5 ji16 bt293.1 bt298.1 (bt293.2.1 != bt298.2.1) a2_0 a2_1) else (vinculumlaw27_GlueShift.j1 kj5 ji16 bt293.1 bt298.1 true a2_0 a2_1)) else (vinculumlaw27_GlueShift.j1 kj5 ji16 bt293.1 bt298.1 true a2_0 a2_1)) else (vinculumlaw27_GlueShift.j1 kj5 ji16 bt293.1 bt298.1 true a2_0 a2_1)) else (vinculumlaw27_GlueShift.j1 kj5 ji16 bt293.1 bt298.1 true a2_0 a2_1)))) else (some true))) = some r := by first | (rw [hy291]; with_reducible exact H) | (have H2_ := (Option.bind_some _ _).symm.trans H; rw [hy291]; with_reducible exact H2_) | (have H2_ := (Option.bind_some _ _).symm.trans H; with_reducible exact H2_) | with_reducible exact H | (rw [hy291]; exact H) | exact H
                  have Ny291 := Aside0.mk hy291
                  clear hy291
                  replace H := Option.bind_eq_some_iff.mp H
                  obtain ⟨t292, A200, H⟩ := H
                  replace H : (if t292 = true then ((glue_Set.f kj5 l0 a1).bind fun bt293 => ((glue_Set.f kj5 y291 (wrap64 (a1 + (wrap64 (a2_1))))).bind fun bt298 => (if bt293.2.2 = 0 then (if bt298.2.2 = 0 then (if (bt293.1.length : Int) = (l0.length : Int) then (if (bt298.1.length : Int) = (l0.length : Int) then (vinculumlaw27_GlueShift.j1 kj5 ji16 bt293.1 bt298.1 (bt293.2.1 != bt298.2.1) a2_0 a2_1) else (vinculumlaw27_GlueShift.j1 kj5 ji16 bt293.1 bt298.1 true a2_0 a2_1)) else (vinculumlaw27_GlueShift.j1 kj5 ji16 bt293.1 bt298.1 true a2_0 a2_1)) else (vinculumlaw27_GlueShift.j1 kj5 ji16 bt293.1 bt298.1 true a2_0 a2_1)) else (vinculumlaw27_GlueShift.j1 kj5 ji16 bt293.1 bt298.1 true a2_0 a2_1)))) else (some true)) = some r := H
                  have A20 := Aside0.mk A200
                  clear A200
                  by_cases c21 : t292 = true
                  · subst c21
                    have H1 : ((glue_Set.f kj5 l0 a1).bind fun bt293 => ((glue_Set.f kj5 y291 (wrap64 (a1 + (wrap64 (a2_1))))).bind fun bt298 => (if bt293.2.2 = 0 then (if bt298.2.2 = 0 then (if (bt293.1.length : Int) = (l0.length : Int) then (if (bt298.1.length : Int) = (l0.length : Int) then (vinculumlaw27_GlueShift.j1 kj5 ji16 bt293.1 bt298.1 (bt293.2.1 != bt298.2.1) a2_0 a2_1) else (vinculumlaw27_GlueShift.j1 kj5 ji16 bt293.1 bt298.1 true a2_0 a2_1)) else (vinculumlaw27_GlueShift.j1 kj5 ji16 bt293.1 bt298.1 true a2_0 a2_1)) else (vinculumlaw27_GlueShift.j1 kj5 ji16 bt293.1 bt298.1 true a2_0 a2_1)) else (vinculumlaw27_GlueShift.j1 kj5 ji16 bt293.1 bt298.1 true a2_0 a2_1)))) = some r := by rw [if_pos rfl] at H; exact H
                    clear H
                    have H := H1
                    clear H1
                    replace H := Option.bind_eq_some_iff.mp H
                    obtain ⟨⟨t293, t294, t295⟩, A220, H⟩ := H
                    replace H : ((glue_Set.f kj5 y291 (wrap64 (a1 + (wrap64 (a2_1))))).bind fun bt298 => (if t295 = 0 then (if bt298.2.2 = 0 then (if (t293.length : Int) = (l0.length : Int) then (if (bt298.1.length : Int) = (l0.length : Int) then (vinculumlaw27_GlueShift.j1 kj5 ji16 t293 bt298.1 (t294 != bt298.2.1) a2_0 a2_1) else (vinculumlaw27_GlueShift.j1 kj5 ji16 t293 bt298.1 true a2_0 a2_1)) else (vinculumlaw27_GlueShift.j1 kj5 ji16 t293 bt298.1 true a2_0 a2_1)) else (vinculumlaw27_GlueShift.j1 kj5 ji16 t293 bt298.1 true a2_0 a2_1)) else (vinculumlaw27_GlueShift.j1 kj5 ji16 t293 bt298.1 true a2_0 a2_1))) = some r := H
                    have A22 := Aside0.mk A220
                    clear A220
                    replace H := Option.bind_eq_some_iff.mp H
                    obtain ⟨⟨t298, t299, t300⟩, A230, H⟩ := H
                    replace H : (if t295 = 0 then (if t300 = 0 then (if (t293.length : Int) = (l0.length : Int) then (if (t298.length : Int) = (l0.length : Int) then (vinculumlaw27_GlueShift.j1 kj5 ji16 t293 t298 (t294 != t299) a2_0 a2_1) else (vinculumlaw27_GlueShift.j1 kj5 ji16 t293 t298 true a2_0 a2_1)) else (vinculumlaw27_GlueShift.j1 kj5 ji16 t293 t298 true a2_0 a2_1)) else (vinculumlaw27_GlueShift.j1 kj5 ji16 t293 t298 true a2_0 a2_1)) else (vinculumlaw27_GlueShift.j1 kj5 ji16 t293 t298 true a2_0 a2_1)) = some r := H
                    have A23 := Aside0.mk A230
                    clear A230
                    have HC24 := Aside0.mk H
                    clear H
                    have hcz25_0 : wc.cell? ⟨gb281, 0, none⟩ = some (.int .i16 a2_0) := (blk_cell BK281.out 0).trans rfl
                    have hcz25_1 : wc.cell? ⟨gb281, 1, none⟩ = some (.int .i16 a2_1) := (blk_cell BK281.out 1).trans rfl
                    have hfz25_0 := blk_frozen BK281.out 0
                    have hfz25_1 := blk_frozen BK281.out 1
                    try go_wp2_with (first | ((with_reducible refine gate_dst (N := 35) rfl ?_); (try (refine gate_guard (by rfl) ?_; dsimp only)); refine Kd.R_lit k36 _ 36 ?hg (N := 35) ?hd (xs := ([] : List (S36))) (inner := []) (ok := fun _ => True) (okp := fun _ => True) ?hr ?hp (fun _ hk => hk) trivial (Below.refl _ _) (Nat.le_refl _) (by simp) ?_; (case hd => rfl); (case hg => rfl); (case hr => first | (go_simp; done) | (go_simp; rfl)); (case hp => exact (Reps.none _ _)); intro v285 w26 ho27 hb hg_ hnew_; clear hg_ hnew_; (first | rw [← Ny284.out] at ho27 | (simp only [Int.reduceToNat] at ho27; rw [← Ny284.out] at ho27)); have n0_ := Aside0.mk (Kd.R_lower ho27 (below_size (by repeat (first | (with_reducible first | exact HB.out | apply below_alloc | apply pw_below_drewN | apply below_drew1 | refine below_set ?_ GE281.out) | exact HB.out)))); have n1_ := Aside0.mk (blk_below (g := gb281) (o := .cells #[.int .i16 a2_0, .int .i16 a2_1] 41 (0, 0)) (by (with_reducible repeat (first | refine blk_drewN ?_ _ | refine blk_drew ?_ | refine blk_alloc ?_ _)); exact BK281.out) hb); have n2_ := Aside0.mk (below_step (by repeat (first | (with_reducible first | exact HB.out | apply below_alloc | apply pw_below_drewN | apply below_drew1 | refine below_set ?_ GE281.out) | exact HB.out)) hb); clear BK281; clear HB; have HO286 := n0_; have BK281 := n1_; have HB := n2_; clear n0_ n1_ n2_; clear hb ho27) | ((with_reducible refine gate_builtin (b := .append) (xs := #[.tmp 35, .tmp 36]) rfl ?_); (try (refine gate_guard (by rfl) ?_; dsimp only)); at_builtin; refine Kd.R_append_rows k36 (w0 := w) w.heap.size rfl (.tmp 35) (.tmp 36) 22 36 (.agg #[(.int .i64 0), (.int .i64 0), (.int .i64 0), (.int .i64 0)]) 32 rfl Try.underlying22 info36 rfl (by decide) (by omega) v285 y284 l0 _ _ _ (fun _ => True) (fun _ => False) rfl rfl ?aO ?aR (fun _ _ h => h) (fun _ h => h.elim) ?aF ?aB ?aS ?aL ?_; (case aR => repeat (first | exact (Kd.C_below HR0.out HB.out) | (with_reducible refine Kd.C_alloc ?_ _) | (with_reducible refine Kd.C_drewN ?_ _) | (with_reducible refine Kd.C_drew ?_))); (case aB => exact (by repeat (first | (with_reducible first | exact HB.out | apply below_alloc | apply pw_below_drewN | apply below_drew1 | refine below_set ?_ GE281.out) | exact HB.out))); (case aF => exact (fun _ _ => trivial)); (case aO => exact (by (with_reducible repeat (first | apply Kd.R_alloc | apply Kd.R_drewN | apply Kd.R_drew)); exact HO286.out)); (case aS => exact (below_size (by repeat (first | (with_reducible first | exact HB.out | apply below_alloc | apply pw_below_drewN | apply below_drew1 | refine below_set ?_ GE281.out) | exact HB.out)))); (case aL => have := LMc15.out; omega); intro v288 w28 ho hb hg hat; rw [← Ny287.out] at ho; have n0_ := Aside0.mk (blk_grown (g := gb281) (o := .cells #[.int .i16 a2_0, .int .i16 a2_1] 41 (0, 0)) (by (with_reducible repeat (first | refine blk_drewN ?_ _ | refine blk_drew ?_ | refine blk_alloc ?_ _)); exact BK281.out) hg (Kd.R_ne HO286.out BK281.out (by decide))); have n1_ := Aside0.mk (hb); have n2_ := Aside0.mk (ho); clear BK281; clear HB; clear HO286; have BK281 := n0_; have HB := n1_; have HO289 := n2_; clear n0_ n1_ n2_; clear ho hb hg hat))
                    have n0_ := Aside0.mk (Kd.R_drew HO289.out)
                    have n1_ := Aside0.mk (blk_drew BK281.out)
                    have n2_ := Aside0.mk (below_drew1 HB.out)
                    clear HO289
                    clear BK281
                    clear HB
                    have HO289 := n0_
                    have BK281 := n1_
                    have HB := n2_
                    clear n0_ n1_ n2_
                    obtain ⟨Ao30, co30, eo30⟩ := Kd.R_slice HO289.out
                    (first | subst eo30 | (injection eo30 with f1_ f2_ f3_; have f4_ := f1_.symm; have f5_ := f3_.symm; clear f1_ f2_ f3_; subst f4_; subst f5_))
                    have p290 : 0 ≤ ((ji16) : Int) := of_decide_eq_true (by first | (with_reducible assumption) | assumption)
                    have q290 : (ji16) < (y287.length : Int) := of_decide_eq_true (by first | (with_reducible assumption) | assumption)
                    obtain ⟨ad290, e290, hx290_0, hx290_1, hx290_2, hx290_3⟩ := at_T36 (Kd.R_reads' HO289.out).2.2 (ji16) p290 q290
                    cases e290
                    replace p290 := eq_true p290
                    replace q290 := eq_true q290
                    have p19 : 0 ≤ ((ji16) : Int) := of_decide_eq_true (by first | (with_reducible assumption) | assumption)
                    have q19 : ((ji16) : Int) < ((y287.length : Int) : Int) := of_decide_eq_true (by first | (with_reducible assumption) | assumption)
                    obtain ⟨go19, co19, eo19, gb19, gl19, cl19, HG19⟩ := Kd.R_form HO289.out (by omega)
                    (first | cases eo19 | (injection eo19 with ea_ en_ ec_; (first | subst ea_ | (injection ea_ with ea_; subst ea_)); subst ec_; clear en_))
                    have GB19 := Aside0.mk gb19
                    have GG19 := Aside0.mk HG19
                    clear gb19 gl19 HG19
                    (first | simp only [add_plain] at hx290_0 | skip)
                    (first | simp only [add_plain] at hx290_1 | skip)
                    (first | simp only [add_plain] at hx290_2 | skip)
                    (first | simp only [add_plain] at hx290_3 | skip)
                    obtain ⟨ce19, hcl19, hM19, hcc19, hfr19⟩ := Kd.R_elem HO289.out z36 ((ji16) : Int) p19 q19
                    obtain rfl := k36_openM hM19
                    have hx19_0 : World.cell? _ ⟨go19, ((ji16) : Int).toNat * 4, none⟩ = some (.int .i64 ((rd_T36 y287 (ji16)).f0)) := hcc19 0 _ rfl
                    have hx19_1 : World.cell? _ ⟨go19, ((ji16) : Int).toNat * 4 + 1, none⟩ = some (.int .i64 ((rd_T36 y287 (ji16)).f1)) := hcc19 1 _ rfl
                    have hx19_2 : World.cell? _ ⟨go19, ((ji16) : Int).toNat * 4 + 2, none⟩ = some (.int .i64 ((rd_T36 y287 (ji16)).f2)) := hcc19 2 _ rfl
                    have hx19_3 : World.cell? _ ⟨go19, ((ji16) : Int).toNat * 4 + 3, none⟩ = some (.int .i64 ((rd_T36 y287 (ji16)).f3)) := hcc19 3 _ rfl
                    have hf19_0 : World.frozen? _ ⟨go19, ((ji16) : Int).toNat * 4, none⟩ = false := hfr19 0
                    have hf19_1 : World.frozen? _ ⟨go19, ((ji16) : Int).toNat * 4 + 1, none⟩ = false := hfr19 1
                    have hf19_2 : World.frozen? _ ⟨go19, ((ji16) : Int).toNat * 4 + 2, none⟩ = false := hfr19 2
                    have hf19_3 : World.frozen? _ ⟨go19, ((ji16) : Int).toNat * 4 + 3, none⟩ = false := hfr19 3
                    clear hcl19 hcc19 hfr19 hM19
                    replace p19 := eq_true p19
                    replace q19 := eq_true q19
                    obtain ⟨ce31, hcl31, hM31, hcc31, hfr31⟩ := Kd.R_elem HO289.out z36 ((ji16) : Int) (of_decide_eq_true (by first | (with_reducible assumption) | assumption)) (by have h_ : ((ji16) : Int) < ((y287.length : Int) : Int) := of_decide_eq_true (by first | (with_reducible assumption) | assumption); first | exact h_ | (have e_ := (Kd.R_reads' HO289.out).1; omega) | simpa using h_)
                    obtain rfl := k36_openM hM31
                    have HP31 := (Kd.R_seg HO289.out ((ji16) : Int) (of_decide_eq_true (by first | (with_reducible assumption) | assumption)) (by have h_ : ((ji16) : Int) < ((y287.length : Int) : Int) := of_decide_eq_true (by first | (with_reducible assumption) | assumption); first | exact h_ | (have e_ := (Kd.R_reads' HO289.out).1; omega) | simpa using h_) (seg := [.int .i64 (wrap64 (((rd_T36 y287 (ji16)).f0) + (wrap64 (a2_1))))]) (j := 0) hcl31 hcc31 (show 1 ≤ 4 from by decide) (x' := (⟨wrap64 (((rd_T36 y287 (ji16)).f0) + (wrap64 (a2_1))), (rd_T36 y287 (ji16)).f1, (rd_T36 y287 (ji16)).f2, (rd_T36 y287 (ji16)).f3⟩ : S36)) (k36_mkM _ _ _ (⟨wrap64 (((rd_T36 y287 (ji16)).f0) + (wrap64 (a2_1))), (rd_T36 y287 (ji16)).f1, (rd_T36 y287 (ji16)).f2, (rd_T36 y287 (ji16)).f3⟩ : S36) ) (fun _ hk => hk)).1
                    rw [← Ny291.out] at HP31
                    have HQ31 := Aside0.mk HP31
                    clear hcl31 hcc31 hfr31 hM31 HP31
                    refine start_ (n := 12) (S := fun w' => w'.cell? ⟨gb281, 0, none⟩ = some (.int .i16 a2_0) ∧ w'.cell? ⟨gb281, 1, none⟩ = some (.int .i16 a2_1) ∧ w'.cell? ⟨go19, (ji16).toNat * 4, none⟩ = some (.int .i64 ((rd_T36 y287 (ji16)).f0)) ∧ w'.cell? ⟨go19, ((ji16).toNat * 4) + 1, none⟩ = some (.int .i64 ((rd_T36 y287 (ji16)).f1)) ∧ w'.cell? ⟨go19, ((ji16).toNat * 4) + 2, none⟩ = some (.int .i64 ((rd_T36 y287 (ji16)).f2)) ∧ w'.cell? ⟨go19, ((ji16).toNat * 4) + 3, none⟩ = some (.int .i64 ((rd_T36 y287 (ji16)).f3))) (ds := [11]) #[false, false, false, false, false, false, false, false, false, false, false, false] (by kernel_rfl) rfl rfl ⟨(blk_cell BK281.out 0).trans rfl, (blk_cell BK281.out 1).trans rfl, hx290_0, hx290_1, hx290_2, hx290_3⟩ (fun hHeld => ?_); refine with_tabW vinculumlaw27_GlueShift.tab7 vinculumlaw27_GlueShift.bits7 (fun HT_ HW_ => ?_)
                    generalize w28.drew = w29 at HO289 BK281 HB GG19 HQ31 hf19_0 hf19_1 hf19_2 hf19_3 hx19_0 hx19_1 hx19_2 hx19_3 hx290_0 hx290_1 hx290_2 hx290_3 hHeld ⊢
                    refine pure_ (i := 0) (N := some 38) (v := ?_) (a' := ?_) #[true, false, false, false, false, false, false, false, false, false, false, false] rfl rfl (any_of HT_.out (by kernel_rfl)) (fun _ _ _ h => h) (Or.inl ⟨by rfl, ?_⟩) ?_ ?_
                    rotate_left
                    · intro w'
                      go_simp
                      with_reducible rfl
                    rotate_left
                    · simp only [Act.put, List.setIfInBounds_toArray, List.set_cons_zero, List.set_cons_succ, i64_w, i32_w]
                      rfl
                    refine pure_ (i := 1) (N := some 39) (v := ?_) (a' := ?_) #[true, true, false, false, false, false, false, false, false, false, false, false] rfl rfl (any_of HT_.out (by kernel_rfl)) (fun _ _ _ h => h) (Or.inl ⟨by rfl, ?_⟩) ?_ ?_
                    rotate_left
                    · intro w'
                      go_simp
                      with_reducible rfl
                    rotate_left
                    · simp only [Act.put, List.setIfInBounds_toArray, List.set_cons_zero, List.set_cons_succ, i64_w, i32_w]
                      rfl
                    refine pure_ (i := 2) (N := some 40) (v := ?_) (a' := ?_) #[true, true, true, false, false, false, false, false, false, false, false, false] rfl rfl (any_of HT_.out (by kernel_rfl)) (fun _ _ _ h => h) (Or.inl ⟨by rfl, ?_⟩) ?_ ?_
                    rotate_left
                    · intro w'
                      go_simp
                      with_reducible rfl
                    rotate_left
                    · simp only [Act.put, List.setIfInBounds_toArray, List.set_cons_zero, List.set_cons_succ, i64_w, i32_w]
                      rfl
                    refine pure_ (i := 3) (N := some 41) (v := ?_) (a' := ?_) #[true, true, true, true, false, false, false, false, false, false, false, false] rfl rfl (any_of HT_.out (by kernel_rfl)) (fun _ _ _ h => h) (Or.inl ⟨by rfl, ?_⟩) ?_ ?_
                    rotate_left
                    · intro w'
                      go_simp
                      with_reducible rfl
                    rotate_left
                    · simp only [Act.put, List.setIfInBounds_toArray, List.set_cons_zero, List.set_cons_succ, i64_w, i32_w]
                      rfl
                    refine pure_ (i := 5) (N := some 43) (v := ?_) (a' := ?_) #[true, true, true, true, false, true, false, false, false, false, false, false] rfl rfl (any_of HT_.out (by kernel_rfl)) (fun _ _ _ h => h) (Or.inl ⟨by rfl, ?_⟩) ?_ ?_
                    rotate_left
                    · intro w'
                      go_simp
                      with_reducible rfl
                    rotate_left
                    · simp only [Act.put, List.setIfInBounds_toArray, List.set_cons_zero, List.set_cons_succ, i64_w, i32_w]
                      rfl
                    refine take_ (i := 4) (N := some 42) (v := ?_) (a' := ?_) #[true, true, true, true, true, true, false, false, false, false, false, false] rfl rfl (take_ofW HT_.out HW_.out (by kernel_rfl)) (fun _ _ _ h => h) (Or.inl ⟨by rfl, ?_⟩) hHeld ?_ ?_
                    rotate_left
                    · rintro w' ⟨s0, s1, s2, s3, s4, s5⟩
                      go_simp
                      with_reducible rfl
                    rotate_left
                    · simp only [Act.put, List.setIfInBounds_toArray, List.set_cons_zero, List.set_cons_succ, i64_w, i32_w]
                      rfl
                    refine take_ (i := 6) (N := some 44) (v := ?_) (a' := ?_) #[true, true, true, true, true, true, true, false, false, false, false, false] rfl rfl (take_ofW HT_.out HW_.out (by kernel_rfl)) (fun _ _ _ h => h) (Or.inl ⟨by rfl, ?_⟩) hHeld ?_ ?_
                    rotate_left
                    · rintro w' ⟨s0, s1, s2, s3, s4, s5⟩
                      go_simp
                      with_reducible rfl
                    rotate_left
                    · simp only [Act.put, List.setIfInBounds_toArray, List.set_cons_zero, List.set_cons_succ, i64_w, i32_w]
                      rfl
                    refine pure_ (i := 7) (N := some 45) (v := ?_) (a' := ?_) #[true, true, true, true, true, true, true, true, false, false, false, false] rfl rfl (any_of HT_.out (by kernel_rfl)) (fun _ _ _ h => h) (Or.inl ⟨by rfl, ?_⟩) ?_ ?_
                    rotate_left
                    · intro w'
                      go_simp
                      with_reducible rfl
                    rotate_left
                    · simp only [Act.put, List.setIfInBounds_toArray, List.set_cons_zero, List.set_cons_succ, i64_w, i32_w]
                      rfl
                    refine pure_ (i := 8) (N := some 46) (v := ?_) (a' := ?_) #[true, true, true, true, true, true, true, true, true, false, false, false] rfl rfl (any_of HT_.out (by kernel_rfl)) (fun _ _ _ h => h) (Or.inl ⟨by rfl, ?_⟩) ?_ ?_
                    rotate_left
                    · intro w'
                      go_simp
                      with_reducible rfl
                    rotate_left
                    · simp only [Act.put, List.setIfInBounds_toArray, List.set_cons_zero, List.set_cons_succ, i64_w, i32_w]
                      rfl
                    refine pure_ (i := 9) (N := some 47) (v := ?_) (a' := ?_) #[true, true, true, true, true, true, true, true, true, true, false, false] rfl rfl (any_of HT_.out (by kernel_rfl)) (fun _ _ _ h => h) (Or.inl ⟨by rfl, ?_⟩) ?_ ?_
                    rotate_left
                    · intro w'
                      go_simp
                      with_reducible rfl
                    rotate_left
                    · simp only [Act.put, List.setIfInBounds_toArray, List.set_cons_zero, List.set_cons_succ, i64_w, i32_w]
                      rfl
                    refine pure_ (i := 10) (N := some 48) (v := ?_) (a' := ?_) #[true, true, true, true, true, true, true, true, true, true, true, false] rfl rfl (any_of HT_.out (by kernel_rfl)) (fun _ _ _ h => h) (Or.inl ⟨by rfl, ?_⟩) ?_ ?_
                    rotate_left
                    · intro w'
                      go_simp
                      with_reducible rfl
                    rotate_left
                    · simp only [Act.put, List.setIfInBounds_toArray, List.set_cons_zero, List.set_cons_succ, i64_w, i32_w]
                      rfl
                    refine last_ (i := 11) (N := none) #[true, true, true, true, true, true, true, true, true, true, true, true] rfl rfl (one_of HT_.out (by kernel_rfl)) (by decide) (fun K hK => ?_)
                    refine skip_ (w1 := ?_) (by rfl) rfl ?_ ?_
                    rotate_left
                    · go_simp
                      rfl
                    refine hK.out _ _ ?_
                    clear hK K
                    refine done_ (done_of HT_.out (by kernel_rfl)) ?_
                    have hcz32_0 : w29.cell? ⟨gb281, 0, none⟩ = some (.int .i16 a2_0) := (blk_cell BK281.out 0).trans rfl
                    have hcz32_1 : w29.cell? ⟨gb281, 1, none⟩ = some (.int .i16 a2_1) := (blk_cell BK281.out 1).trans rfl
                    have hfz32_0 := blk_frozen BK281.out 0
                    have hfz32_1 := blk_frozen BK281.out 1
                    go_upto_region 12 with (first | ((with_reducible refine gate_callee (f := 27) rfl ?_); refine goesL_ (some 55) rfl rfl Try.func27 (by kernel_rfl) rfl #[.slice (some ⟨go19, 0, none⟩) y291.length co30, .int .i64 (wrap64 (a1 + (wrap64 (a2_1))))] rfl (by (try simp only [List.map_toArray, List.map_cons, List.map_nil]); first | done | (rw [show y291.length = y287.length from (Kd.R_reads' HQ31.out).1.symm] <;> rfl) | rfl | (simp only [List.length_drop, List.length_take]; rfl)) ?_; (with_reducible refine (vinculumlaw27_right.calls kj5 _ _ y291 (wrap64 (a1 + (wrap64 (a2_1)))) true _ ?side1 ?side2 A20.out).mono ?_); (case side1 => refine (Kd.R_reads' (e := 36) (base := w.heap.size) (ok := fun k_ => True) (n := y287.length) (c := co30) ?_).2.2; exact (by (with_reducible repeat (first | apply Kd.R_alloc | apply Kd.R_drewN | apply Kd.R_drew)); exact HQ31.out)); (case side2 => rw [show y291.length = y287.length from (Kd.R_reads' HQ31.out).1.symm]; exact (Kd.R_reads' HO289.out).2.1); rintro e w33 ⟨rfl, hb⟩; refine ⟨_, rfl, ?_⟩; have n0_ := Aside0.mk (Kd.R_below (by (with_reducible repeat (first | apply Kd.R_alloc | apply Kd.R_drewN | apply Kd.R_drew)); exact HQ31.out) hb); have n1_ := Aside0.mk (blk_below (g := gb281) (o := .cells #[.int .i16 a2_0, .int .i16 a2_1] 41 (0, 0)) (by (with_reducible repeat (first | refine blk_drewN ?_ _ | refine blk_drew ?_ | refine blk_alloc ?_ _)); refine blk_far ?_ (by have h_ := Kd.R_ne HO289.out BK281.out (by decide); intro e_; exact h_ (by rw [e_]; rfl)) _; (with_reducible repeat (first | refine blk_drewN ?_ _ | refine blk_drew ?_ | refine blk_alloc ?_ _)); exact BK281.out) hb); have n2_ := Aside0.mk (below_step (by repeat (first | (with_reducible first | exact HB.out | apply below_alloc | apply pw_below_drewN | apply below_drew1 | refine below_set ?_ GB19.out | refine below_set ?_ GE281.out) | exact HB.out)) hb); clear HO289; clear BK281; clear HB; have HO289 := n0_; have BK281 := n1_; have HB := n2_; clear n0_ n1_ n2_; (try clear hb); (try clear hb2); (try clear hk); (try clear hi)) | ((with_reducible refine gate_callee (f := 22) rfl ?_); refine goesL_ (some 60) rfl rfl Try.func22 (by kernel_rfl) rfl #[.slice A0 l0.length c0, .int .i64 a1] rfl (by (try simp only [List.map_toArray, List.map_cons, List.map_nil]); first | done | rfl | (simp only [List.length_drop, List.length_take]; rfl)) ?_; (with_reducible refine (glue_Set.calls kj5 _ _ l0 a1 t293 t294 t295 _ ?side1 ?side2 A22.out).mono ?_); (case side1 => repeat (first | exact (Kd.C_below HR0.out HB.out) | (with_reducible refine Kd.C_alloc ?_ _) | (with_reducible refine Kd.C_drewN ?_ _) | (with_reducible refine Kd.C_drew ?_))); (case side2 => exact HC0.out); rintro e w34 ⟨v296, rfl, ho0, hb⟩; refine ⟨_, rfl, ?_⟩; have n0_ := Aside0.mk (Kd.R_below (by (with_reducible repeat (first | apply Kd.R_alloc | apply Kd.R_drewN | apply Kd.R_drew)); exact HO289.out) hb); have n1_ := Aside0.mk (Kd.R_lower ho0 (below_size (by repeat (first | (with_reducible first | exact HB.out | apply below_alloc | apply pw_below_drewN | apply below_drew1 | refine below_set ?_ GE281.out) | exact HB.out)))); have n2_ := Aside0.mk (blk_below (g := gb281) (o := .cells #[.int .i16 a2_0, .int .i16 a2_1] 41 (0, 0)) (by (with_reducible repeat (first | refine blk_drewN ?_ _ | refine blk_drew ?_ | refine blk_alloc ?_ _)); exact BK281.out) hb); have n3_ := Aside0.mk (below_step (by repeat (first | (with_reducible first | exact HB.out | apply below_alloc | apply pw_below_drewN | apply below_drew1 | refine below_set ?_ GE281.out) | exact HB.out)) hb); clear HO289; clear BK281; clear HB; have HO289 := n0_; have HO297 := n1_; have BK281 := n2_; have HB := n3_; clear n0_ n1_ n2_ n3_; (try clear hb); (try clear hb2); (try clear hk); (try clear hi); (try clear ho0); have hcz35_0 : w34.cell? ⟨gb281, 0, none⟩ = some (.int .i16 a2_0) := (blk_cell BK281.out 0).trans rfl; have hcz35_1 : w34.cell? ⟨gb281, 1, none⟩ = some (.int .i16 a2_1) := (blk_cell BK281.out 1).trans rfl; have hfz35_0 := blk_frozen BK281.out 0; have hfz35_1 := blk_frozen BK281.out 1) | ((with_reducible refine gate_callee (f := 22) rfl ?_); refine goesL_ (some 71) rfl rfl Try.func22 (by kernel_rfl) rfl #[.slice (some ⟨go19, 0, none⟩) y291.length co30, .int .i64 (wrap64 (a1 + (wrap64 (a2_1))))] rfl (by (try simp only [List.map_toArray, List.map_cons, List.map_nil]); first | done | (rw [show y291.length = y287.length from (Kd.R_reads' HO289.out).1.symm] <;> rfl) | rfl | (simp only [List.length_drop, List.length_take]; rfl)) ?_; (with_reducible refine (glue_Set.calls kj5 _ _ y291 (wrap64 (a1 + (wrap64 (a2_1)))) t298 t299 t300 _ ?side1 ?side2 A23.out).mono ?_); (case side1 => repeat (first | exact (Kd.R_reads' HO289.out).2.2 | (with_reducible refine Kd.C_alloc ?_ _) | (with_reducible refine Kd.C_drewN ?_ _) | (with_reducible refine Kd.C_drew ?_))); (case side2 => rw [show y291.length = y287.length from (Kd.R_reads' HO289.out).1.symm]; exact (Kd.R_reads' HO289.out).2.1); rintro e w36 ⟨v301, rfl, ho0, hb⟩; refine ⟨_, rfl, ?_⟩; have n0_ := Aside0.mk (Kd.R_below (by (with_reducible repeat (first | apply Kd.R_alloc | apply Kd.R_drewN | apply Kd.R_drew)); exact HO289.out) hb); have n1_ := Aside0.mk (Kd.R_elder' (by (with_reducible repeat (first | apply Kd.R_alloc | apply Kd.R_drewN | apply Kd.R_drew)); exact HO297.out) (Kd.R_base ho0) hb); have n2_ := Aside0.mk (Kd.R_lower (Kd.R_new' ho0 (Kd.R_lt (by (with_reducible repeat (first | apply Kd.R_alloc | apply Kd.R_drewN | apply Kd.R_drew)); exact HO297.out))) (below_size (by repeat (first | (with_reducible first | exact HB.out | apply below_alloc | apply pw_below_drewN | apply below_drew1 | refine below_set ?_ GE281.out) | exact HB.out)))); have n3_ := Aside0.mk (blk_below (g := gb281) (o := .cells #[.int .i16 a2_0, .int .i16 a2_1] 41 (0, 0)) (by (with_reducible repeat (first | refine blk_drewN ?_ _ | refine blk_drew ?_ | refine blk_alloc ?_ _)); exact BK281.out) hb); have n4_ := Aside0.mk (below_step (by repeat (first | (with_reducible first | exact HB.out | apply below_alloc | apply pw_below_drewN | apply below_drew1 | refine below_set ?_ GE281.out) | exact HB.out)) hb); clear HO289; clear HO297; clear BK281; clear HB; have HO289 := n0_; have HO297 := n1_; have HO302 := n2_; have BK281 := n3_; have HB := n4_; clear n0_ n1_ n2_ n3_ n4_; (try clear hb); (try clear hb2); (try clear hk); (try clear hi); (try clear ho0)))
                    (try simp only [Act.put, List.setIfInBounds_toArray, List.set_cons_zero, List.set_cons_succ])
                    go_cut [99] (fun v99 wc => ∃ (kq : Nat) (x99_23 : Bool), v99 = .bool x99_23 ∧ Aside0 (vinculumlaw27_GlueShift.j1 kq ji16 t293 t298 x99_23 a2_0 a2_1 = some r) ∧ Aside0 (kq ≤ kj5) ∧ Aside0 (Kd.R (Kd.int .i64) 3 wc w.heap.size (fun k_ => some k_ ≠ (v301 : Value).ownBlock) v296 t293) ∧ Aside0 (Kd.R (Kd.int .i64) 3 wc w.heap.size (fun k_ => some k_ ≠ (v296 : Value).ownBlock) v301 t298) ∧ Aside0 (wc.heap[gb281]? = some (.cells #[.int .i16 a2_0, .int .i16 a2_1] 41 (0, 0))) ∧ Aside0 (Below w.heap.size w wc))
                    case first =>
                      have H := HC24.out
                      clear HC24
                      by_cases c37 : t295 = 0
                      · rw [if_pos c37] at H
                        have c37b0 : (t295 == 0) = true := beq_iff_eq.mpr c37
                        have c37b1 : (t295 != 0) = false := bne_eq_false_iff_eq.mpr c37
                        clear c37
                        (first | rw [c37b0] | (simp only [i64_w, i32_w]; rw [c37b0]) | skip)
                        by_cases c38 : t300 = 0
                        · rw [if_pos c38] at H
                          have c38b0 : (t300 == 0) = true := beq_iff_eq.mpr c38
                          have c38b1 : (t300 != 0) = false := bne_eq_false_iff_eq.mpr c38
                          clear c38
                          by_cases c39 : (t293.length : Int) = (l0.length : Int)
                          · rw [if_pos c39] at H
                            have c39b0 : ((t293.length : Int) == (l0.length : Int)) = true := beq_iff_eq.mpr c39
                            have c39b1 : ((t293.length : Int) != (l0.length : Int)) = false := bne_eq_false_iff_eq.mpr c39
                            have c39b2 : (t293.length == l0.length) = true := by first | simpa using c39 | (simp at c39 ⊢; omega)
                            clear c39
                            by_cases c40 : (t298.length : Int) = (l0.length : Int)
                            · rw [if_pos c40] at H
                              have c40b0 : ((t298.length : Int) == (l0.length : Int)) = true := beq_iff_eq.mpr c40
                              have c40b1 : ((t298.length : Int) != (l0.length : Int)) = false := bne_eq_false_iff_eq.mpr c40
                              have c40b2 : (t298.length == l0.length) = true := by first | simpa using c40 | (simp at c40 ⊢; omega)
                              clear c40
                              have H' := Aside0.mk H
                              clear H
                              obtain ⟨Ao41, co41, eo41⟩ := Kd.R_slice HO297.out
                              subst eo41
                              obtain ⟨Ao42, co42, eo42⟩ := Kd.R_slice HO302.out
                              subst eo42
                              go_wp2
                              go_meet
                              case rel => exact ⟨_, ((t294 != t299)), (by first | rfl | (simp; done) | (simp [*]; done)), H', ⟨by have := HJ5.out; first | omega | exact Nat.le_refl _⟩, ⟨by (with_reducible repeat (first | apply Kd.R_alloc | apply Kd.R_drewN | apply Kd.R_drew)); exact Kd.R_mono HO297.out (fun _ hk => hk.2)⟩, ⟨by (with_reducible repeat (first | apply Kd.R_alloc | apply Kd.R_drewN | apply Kd.R_drew)); exact Kd.R_mono HO302.out (fun _ hk => hk.2)⟩, ⟨by (with_reducible repeat (first | refine blk_drewN ?_ _ | refine blk_drew ?_ | refine blk_alloc ?_ _)); exact BK281.out⟩, ⟨by repeat (first | (with_reducible first | exact HB.out | apply below_alloc | apply pw_below_drewN | apply below_drew1 | refine below_set ?_ GE281.out) | exact HB.out)⟩⟩
                            · rw [if_neg c40] at H
                              have c40b0 : ((t298.length : Int) == (l0.length : Int)) = false := beq_eq_false_iff_ne.mpr c40
                              have c40b1 : ((t298.length : Int) != (l0.length : Int)) = true := bne_iff_ne.mpr c40
                              have c40b2 : (t298.length == l0.length) = false := by first | simpa using c40 | (simp at c40 ⊢; omega)
                              have H' := Aside0.mk H
                              clear H
                              obtain ⟨Ao43, co43, eo43⟩ := Kd.R_slice HO297.out
                              subst eo43
                              obtain ⟨Ao44, co44, eo44⟩ := Kd.R_slice HO302.out
                              subst eo44
                              go_wp2
                              go_meet
                              case rel => exact ⟨_, (true), (by first | rfl | (simp; done) | (simp [*]; done)), H', ⟨by have := HJ5.out; first | omega | exact Nat.le_refl _⟩, ⟨by (with_reducible repeat (first | apply Kd.R_alloc | apply Kd.R_drewN | apply Kd.R_drew)); exact Kd.R_mono HO297.out (fun _ hk => hk.2)⟩, ⟨by (with_reducible repeat (first | apply Kd.R_alloc | apply Kd.R_drewN | apply Kd.R_drew)); exact Kd.R_mono HO302.out (fun _ hk => hk.2)⟩, ⟨by (with_reducible repeat (first | refine blk_drewN ?_ _ | refine blk_drew ?_ | refine blk_alloc ?_ _)); exact BK281.out⟩, ⟨by repeat (first | (with_reducible first | exact HB.out | apply below_alloc | apply pw_below_drewN | apply below_drew1 | refine below_set ?_ GE281.out) | exact HB.out)⟩⟩
                          · rw [if_neg c39] at H
                            have c39b0 : ((t293.length : Int) == (l0.length : Int)) = false := beq_eq_false_iff_ne.mpr c39
                            have c39b1 : ((t293.length : Int) != (l0.length : Int)) = true := bne_iff_ne.mpr c39
                            have c39b2 : (t293.length == l0.length) = false := by first | simpa using c39 | (simp at c39 ⊢; omega)
                            have H' := Aside0.mk H
                            clear H
                            obtain ⟨Ao45, co45, eo45⟩ := Kd.R_slice HO297.out
                            subst eo45
                            go_wp2
                            go_meet
                            case rel => exact ⟨_, (true), (by first | rfl | (simp; done) | (simp [*]; done)), H', ⟨by have := HJ5.out; first | omega | exact Nat.le_refl _⟩, ⟨by (with_reducible repeat (first | apply Kd.R_alloc | apply Kd.R_drewN | apply Kd.R_drew)); exact Kd.R_mono HO297.out (fun _ hk => hk.2)⟩, ⟨by (with_reducible repeat (first | apply Kd.R_alloc | apply Kd.R_drewN | apply Kd.R_drew)); exact Kd.R_mono HO302.out (fun _ hk => hk.2)⟩, ⟨by (with_reducible repeat (first | refine blk_drewN ?_ _ | refine blk_drew ?_ | refine blk_alloc ?_ _)); exact BK281.out⟩, ⟨by repeat (first | (with_reducible first | exact HB.out | apply below_alloc | apply pw_below_drewN | apply below_drew1 | refine below_set ?_ GE281.out) | exact HB.out)⟩⟩
                        · rw [if_neg c38] at H
                          have c38b0 : (t300 == 0) = false := beq_eq_false_iff_ne.mpr c38
                          have c38b1 : (t300 != 0) = true := bne_iff_ne.mpr c38
                          have H' := Aside0.mk H
                          clear H
                          go_wp2
                          go_meet
                          case rel => exact ⟨_, (true), (by first | rfl | (simp; done) | (simp [*]; done)), H', ⟨by have := HJ5.out; first | omega | exact Nat.le_refl _⟩, ⟨by (with_reducible repeat (first | apply Kd.R_alloc | apply Kd.R_drewN | apply Kd.R_drew)); exact Kd.R_mono HO297.out (fun _ hk => hk.2)⟩, ⟨by (with_reducible repeat (first | apply Kd.R_alloc | apply Kd.R_drewN | apply Kd.R_drew)); exact Kd.R_mono HO302.out (fun _ hk => hk.2)⟩, ⟨by (with_reducible repeat (first | refine blk_drewN ?_ _ | refine blk_drew ?_ | refine blk_alloc ?_ _)); exact BK281.out⟩, ⟨by repeat (first | (with_reducible first | exact HB.out | apply below_alloc | apply pw_below_drewN | apply below_drew1 | refine below_set ?_ GE281.out) | exact HB.out)⟩⟩
                      · rw [if_neg c37] at H
                        have c37b0 : (t295 == 0) = false := beq_eq_false_iff_ne.mpr c37
                        have c37b1 : (t295 != 0) = true := bne_iff_ne.mpr c37
                        (first | rw [c37b0] | (simp only [i64_w, i32_w]; rw [c37b0]) | skip)
                        have H' := Aside0.mk H
                        clear H
                        go_wp2
                        go_meet
                        case rel => exact ⟨_, (true), (by first | rfl | (simp; done) | (simp [*]; done)), H', ⟨by have := HJ5.out; first | omega | exact Nat.le_refl _⟩, ⟨by (with_reducible repeat (first | apply Kd.R_alloc | apply Kd.R_drewN | apply Kd.R_drew)); exact Kd.R_mono HO297.out (fun _ hk => hk.2)⟩, ⟨by (with_reducible repeat (first | apply Kd.R_alloc | apply Kd.R_drewN | apply Kd.R_drew)); exact Kd.R_mono HO302.out (fun _ hk => hk.2)⟩, ⟨by (with_reducible repeat (first | refine blk_drewN ?_ _ | refine blk_drew ?_ | refine blk_alloc ?_ _)); exact BK281.out⟩, ⟨by repeat (first | (with_reducible first | exact HB.out | apply below_alloc | apply pw_below_drewN | apply below_drew1 | refine below_set ?_ GE281.out) | exact HB.out)⟩⟩
                    case rest =>
                      clear HC24
                      try clear c1
                      try clear p1
                      try clear q1
                      try clear hx1
                      try clear c2
                      try clear p2
                      try clear q2
                      try clear hx2
                      try clear c3
                      try clear c4
                      try clear c5
                      try clear p6
                      try clear c10
                      try clear c13
                      try clear c14
                      try clear c14b0
                      try clear c14b1
                      try clear c14b2
                      try clear c15
                      try clear c17
                      try clear c17b0
                      try clear c18
                      try clear c18b0
                      try clear c19
                      try clear p19
                      try clear q19
                      try clear hx19
                      try clear hf19
                      try clear c21
                      try clear c22
                      try clear c27
                      try clear p29
                      try clear q29
                      try clear hx29
                      try clear c31
                      try clear c37
                      try clear c37b0
                      try clear c37b1
                      try clear c38
                      try clear c38b0
                      try clear c38b1
                      try clear c39
                      try clear c39b0
                      try clear c39b1
                      try clear c39b2
                      try clear c40
                      try clear c40b0
                      try clear c40b1
                      try clear c40b2
                      try clear hcz25_0
                      try clear hcz25_1
                      try clear hcz32_0
                      try clear hcz32_1
                      try clear hcz35_0
                      try clear hcz35_1
                      try clear hfz25_0
                      try clear hfz25_1
                      try clear hfz32_0
                      try clear hfz32_1
                      try clear hfz35_0
                      try clear hfz35_1
                      try clear hx19_0
                      try clear hx19_1
                      try clear hx19_2
                      try clear hx19_3
                      try clear hx290_0
                      try clear hx290_1
                      try clear hx290_2
                      try clear hx290_3
                      try clear p19
                      try clear p2
                      try clear p290
                      try clear q19
                      try clear q290
                      obtain ⟨kq, x99_23, rfl, HA, HJ23, HO_9, HO_12, BK281, HB⟩ := hcut
                      cases kq with
                      | zero => exact absurd HA.out (by simp [vinculumlaw27_GlueShift.j1])
                      | succ kj23 =>
                        have H := HA.out
                        clear HA
                        simp only [vinculumlaw27_GlueShift.j1] at H
                        by_cases c46 : x99_23 = true
                        · subst c46
                          have H1 : (none) = some r := by rw [if_pos rfl] at H; exact H
                          clear H
                          have H := H1
                          clear H1
                          exact absurd H (by simp)
                        · replace c46 := Bool.eq_false_iff.mpr c46
                          subst c46
                          have H1 : (vinculumlaw27_GlueShift.l0 kj23 ji16 t293 t298 0 a2_0 a2_1) = some r := by rw [if_neg (show ¬ (false = true) by decide)] at H; exact H
                          clear H
                          have H := H1
                          clear H1
                          have H' := Aside0.mk H
                          clear H
                          go_wp2
                          go_loopg [15] kj23 (fun kq v15 w' => ∃ (x15_3 : Int), v15 = .int .i64 x15_3 ∧ Aside0 (vinculumlaw27_GlueShift.l0 kq ji16 t293 t298 x15_3 a2_0 a2_1 = some r) ∧ Aside0 (kq ≤ kj23) ∧ Aside0 (Kd.R (Kd.int .i64) 3 w' w.heap.size (fun k_ => some k_ ≠ (v301 : Value).ownBlock) v296 t293) ∧ Aside0 (Kd.R (Kd.int .i64) 3 w' w.heap.size (fun k_ => some k_ ≠ (v296 : Value).ownBlock) v301 t298) ∧ Aside0 (w'.heap[gb281]? = some (.cells #[.int .i16 a2_0, .int .i16 a2_1] 41 (0, 0))) ∧ Aside0 (Below w.heap.size w w'))
                          case atStart => exact ⟨(0), (by first | rfl | (simp; done) | (simp [*]; done)), H', ⟨Nat.le_refl _⟩, ⟨by (with_reducible repeat (first | apply Kd.R_alloc | apply Kd.R_drewN | apply Kd.R_drew)); exact HO_9.out⟩, ⟨by (with_reducible repeat (first | apply Kd.R_alloc | apply Kd.R_drewN | apply Kd.R_drew)); exact HO_12.out⟩, ⟨by (with_reducible repeat (first | refine blk_drewN ?_ _ | refine blk_drew ?_ | refine blk_alloc ?_ _)); exact BK281.out⟩, ⟨by repeat (first | (with_reducible first | exact HB.out | apply below_alloc | apply pw_below_drewN | apply below_drew1 | refine below_set ?_ GE281.out) | exact HB.out)⟩⟩
                          case round =>
                            clear H'
                            try clear c1
                            try clear p1
                            try clear q1
                            try clear hx1
                            try clear c2
                            try clear p2
                            try clear q2
                            try clear hx2
                            try clear c3
                            try clear c4
                            try clear c5
                            try clear p6
                            try clear c10
                            try clear c13
                            try clear c14
                            try clear c14b0
                            try clear c14b1
                            try clear c14b2
                            try clear c15
                            try clear c17
                            try clear c17b0
                            try clear c18
                            try clear c18b0
                            try clear c19
                            try clear p19
                            try clear q19
                            try clear hx19
                            try clear hf19
                            try clear c21
                            try clear c22
                            try clear c27
                            try clear p29
                            try clear q29
                            try clear hx29
                            try clear c31
                            try clear c37
                            try clear c37b0
                            try clear c37b1
                            try clear c38
                            try clear c38b0
                            try clear c38b1
                            try clear c39
                            try clear c39b0
                            try clear c39b1
                            try clear c39b2
                            try clear c40
                            try clear c40b0
                            try clear c40b1
                            try clear c40b2
                            try clear c46
                            try clear hcz25_0
                            try clear hcz25_1
                            try clear hcz32_0
                            try clear hcz32_1
                            try clear hcz35_0
                            try clear hcz35_1
                            try clear hfz25_0
                            try clear hfz25_1
                            try clear hfz32_0
                            try clear hfz32_1
                            try clear hfz35_0
                            try clear hfz35_1
                            try clear hx19_0
                            try clear hx19_1
                            try clear hx19_2
                            try clear hx19_3
                            try clear hx290_0
                            try clear hx290_1
                            try clear hx290_2
                            try clear hx290_3
                            try clear p1
                            try clear p19
                            try clear p2
                            try clear p29
                            try clear p290
                            try clear p6
                            try clear q1
                            try clear q19
                            try clear q2
                            try clear q29
                            try clear q290
                            obtain ⟨x15_3, rfl, HA, HK3, HO_9, HO_12, BK281, HB⟩ := hrel
                            cases gk with
                            | zero => exact absurd HA.out (by simp [vinculumlaw27_GlueShift.l0])
                            | succ k3 =>
                              have H := HA.out
                              clear HA
                              simp only [vinculumlaw27_GlueShift.l0] at H
                              by_cases c47 : x15_3 < (t293.length : Int)
                              · rw [if_pos c47] at H
                                have c47b0 : decide (x15_3 < (t293.length : Int)) = true := decide_eq_true c47
                                clear c47
                                by_cases c48 : 0 ≤ x15_3
                                · rw [if_pos c48] at H
                                  have c48b0 : decide (0 ≤ x15_3) = true := decide_eq_true c48
                                  clear c48
                                  by_cases c49 : x15_3 = ji16
                                  · rw [if_pos c49] at H
                                    have c49b0 : (x15_3 == ji16) = true := beq_iff_eq.mpr c49
                                    have c49b1 : (x15_3 != ji16) = false := bne_eq_false_iff_eq.mpr c49
                                    clear c49
                                    by_cases c50 : x15_3 < (t298.length : Int)
                                    · rw [if_pos c50] at H
                                      have c50b0 : decide (x15_3 < (t298.length : Int)) = true := decide_eq_true c50
                                      clear c50
                                      by_cases c51 : (rd t298 x15_3) = (wrap64 ((rd t293 x15_3) + (wrap64 (a2_1))))
                                      · rw [if_pos c51] at H
                                        have c51b0 : ((rd t298 x15_3) == (wrap64 ((rd t293 x15_3) + (wrap64 (a2_1))))) = true := beq_iff_eq.mpr c51
                                        have c51b1 : ((rd t298 x15_3) != (wrap64 ((rd t293 x15_3) + (wrap64 (a2_1))))) = false := bne_eq_false_iff_eq.mpr c51
                                        clear c51
                                        have H' := Aside0.mk H
                                        clear H
                                        obtain ⟨Ao52, co52, eo52⟩ := Kd.R_slice HO_9.out
                                        subst eo52
                                        have p303 : 0 ≤ (x15_3 : Int) := of_decide_eq_true (by first | (with_reducible assumption) | assumption)
                                        have q303 : x15_3 < (t293.length : Int) := of_decide_eq_true (by first | (with_reducible assumption) | assumption)
                                        obtain ⟨ad303, e303, hx303_0⟩ := Kd.at_int (Kd.R_reads' HO_9.out).2.2 x15_3 p303 q303
                                        cases e303
                                        replace p303 := eq_true p303
                                        replace q303 := eq_true q303
                                        have hcz53_0 : wr.cell? ⟨gb281, 0, none⟩ = some (.int .i16 a2_0) := (blk_cell BK281.out 0).trans rfl
                                        have hcz53_1 : wr.cell? ⟨gb281, 1, none⟩ = some (.int .i16 a2_1) := (blk_cell BK281.out 1).trans rfl
                                        have hfz53_0 := blk_frozen BK281.out 0
                                        have hfz53_1 := blk_frozen BK281.out 1
                                        obtain ⟨Ao54, co54, eo54⟩ := Kd.R_slice HO_12.out
                                        subst eo54
                                        have p304 : 0 ≤ (x15_3 : Int) := of_decide_eq_true (by first | (with_reducible assumption) | assumption)
                                        have q304 : x15_3 < (t298.length : Int) := of_decide_eq_true (by first | (with_reducible assumption) | assumption)
                                        obtain ⟨ad304, e304, hx304_0⟩ := Kd.at_int (Kd.R_reads' HO_12.out).2.2 x15_3 p304 q304
                                        cases e304
                                        replace p304 := eq_true p304
                                        replace q304 := eq_true q304
                                        go_wp2
                                        go_roundg k3
                                        case measure => have := HJ5.out; have := HJ23.out; have := HK3.out; omega
                                        case rel => exact ⟨(wrap64 (x15_3 + 1)), (by first | rfl | (simp; done) | (simp [*]; done)), H', ⟨by have := HJ5.out; have := HJ23.out; have := HK3.out; omega⟩, ⟨by (with_reducible repeat (first | apply Kd.R_alloc | apply Kd.R_drewN | apply Kd.R_drew)); exact HO_9.out⟩, ⟨by (with_reducible repeat (first | apply Kd.R_alloc | apply Kd.R_drewN | apply Kd.R_drew)); exact HO_12.out⟩, ⟨by (with_reducible repeat (first | refine blk_drewN ?_ _ | refine blk_drew ?_ | refine blk_alloc ?_ _)); exact BK281.out⟩, ⟨by repeat (first | (with_reducible first | exact HB.out | apply below_alloc | apply pw_below_drewN | apply below_drew1 | refine below_set ?_ GE281.out) | exact HB.out)⟩⟩
                                      · rw [if_neg c51] at H
                                        exact absurd H (by simp)
                                    · rw [if_neg c50] at H
                                      exact absurd H (by simp)
                                  · rw [if_neg c49] at H
                                    have c49b0 : (x15_3 == ji16) = false := beq_eq_false_iff_ne.mpr c49
                                    have c49b1 : (x15_3 != ji16) = true := bne_iff_ne.mpr c49
                                    by_cases c55 : x15_3 < (t298.length : Int)
                                    · rw [if_pos c55] at H
                                      have c55b0 : decide (x15_3 < (t298.length : Int)) = true := decide_eq_true c55
                                      clear c55
                                      by_cases c56 : (rd t298 x15_3) = (rd t293 x15_3)
                                      · rw [if_pos c56] at H
                                        have c56b0 : ((rd t298 x15_3) == (rd t293 x15_3)) = true := beq_iff_eq.mpr c56
                                        have c56b1 : ((rd t298 x15_3) != (rd t293 x15_3)) = false := bne_eq_false_iff_eq.mpr c56
                                        clear c56
                                        have H' := Aside0.mk H
                                        clear H
                                        obtain ⟨Ao57, co57, eo57⟩ := Kd.R_slice HO_9.out
                                        subst eo57
                                        have p303 : 0 ≤ (x15_3 : Int) := of_decide_eq_true (by first | (with_reducible assumption) | assumption)
                                        have q303 : x15_3 < (t293.length : Int) := of_decide_eq_true (by first | (with_reducible assumption) | assumption)
                                        obtain ⟨ad303, e303, hx303_0⟩ := Kd.at_int (Kd.R_reads' HO_9.out).2.2 x15_3 p303 q303
                                        cases e303
                                        replace p303 := eq_true p303
                                        replace q303 := eq_true q303
                                        obtain ⟨Ao58, co58, eo58⟩ := Kd.R_slice HO_12.out
                                        subst eo58
                                        have p305 : 0 ≤ (x15_3 : Int) := of_decide_eq_true (by first | (with_reducible assumption) | assumption)
                                        have q305 : x15_3 < (t298.length : Int) := of_decide_eq_true (by first | (with_reducible assumption) | assumption)
                                        obtain ⟨ad305, e305, hx305_0⟩ := Kd.at_int (Kd.R_reads' HO_12.out).2.2 x15_3 p305 q305
                                        cases e305
                                        replace p305 := eq_true p305
                                        replace q305 := eq_true q305
                                        go_wp2
                                        go_roundg k3
                                        case measure => have := HJ5.out; have := HJ23.out; have := HK3.out; omega
                                        case rel => exact ⟨(wrap64 (x15_3 + 1)), (by first | rfl | (simp; done) | (simp [*]; done)), H', ⟨by have := HJ5.out; have := HJ23.out; have := HK3.out; omega⟩, ⟨by (with_reducible repeat (first | apply Kd.R_alloc | apply Kd.R_drewN | apply Kd.R_drew)); exact HO_9.out⟩, ⟨by (with_reducible repeat (first | apply Kd.R_alloc | apply Kd.R_drewN | apply Kd.R_drew)); exact HO_12.out⟩, ⟨by (with_reducible repeat (first | refine blk_drewN ?_ _ | refine blk_drew ?_ | refine blk_alloc ?_ _)); exact BK281.out⟩, ⟨by repeat (first | (with_reducible first | exact HB.out | apply below_alloc | apply pw_below_drewN | apply below_drew1 | refine below_set ?_ GE281.out) | exact HB.out)⟩⟩
                                      · rw [if_neg c56] at H
                                        exact absurd H (by simp)
                                    · rw [if_neg c55] at H
                                      exact absurd H (by simp)
                                · rw [if_neg c48] at H
                                  exact absurd H (by simp)
                              · rw [if_neg c47] at H
                                have c47b0 : decide (x15_3 < (t293.length : Int)) = false := decide_eq_false c47
                                clear c47
                                obtain rfl := Option.some.inj H
                                obtain ⟨Ao59, co59, eo59⟩ := Kd.R_slice HO_9.out
                                subst eo59
                                go_wp2
                                go_ret
                                exact ⟨by first | rfl | (simp [errW_none, errW_some] <;> rfl) | (simp only [← hji16]; first | rfl | (simp [errW_none, errW_some] <;> rfl)) | (simp [*, errW_none, errW_some] <;> rfl), by repeat (first | (with_reducible first | exact HB.out | apply below_alloc | apply pw_below_drewN | apply below_drew1 | refine below_set ?_ GE281.out) | exact HB.out)⟩
                  · replace c21 := Bool.eq_false_iff.mpr c21
                    subst c21
                    have H1 : (some true) = some r := by rw [if_neg (show ¬ (false = true) by decide)] at H; exact H
                    clear H
                    have H := H1
                    clear H1
                    obtain rfl := Option.some.inj H
                    have hcz60_0 : wc.cell? ⟨gb281, 0, none⟩ = some (.int .i16 a2_0) := (blk_cell BK281.out 0).trans rfl
                    have hcz60_1 : wc.cell? ⟨gb281, 1, none⟩ = some (.int .i16 a2_1) := (blk_cell BK281.out 1).trans rfl
                    have hfz60_0 := blk_frozen BK281.out 0
                    have hfz60_1 := blk_frozen BK281.out 1
                    try go_wp2_with (first | ((with_reducible refine gate_dst (N := 35) rfl ?_); (try (refine gate_guard (by rfl) ?_; dsimp only)); refine Kd.R_lit k36 _ 36 ?hg (N := 35) ?hd (xs := ([] : List (S36))) (inner := []) (ok := fun _ => True) (okp := fun _ => True) ?hr ?hp (fun _ hk => hk) trivial (Below.refl _ _) (Nat.le_refl _) (by simp) ?_; (case hd => rfl); (case hg => rfl); (case hr => first | (go_simp; done) | (go_simp; rfl)); (case hp => exact (Reps.none _ _)); intro v285 w61 ho62 hb hg_ hnew_; clear hg_ hnew_; (first | rw [← Ny284.out] at ho62 | (simp only [Int.reduceToNat] at ho62; rw [← Ny284.out] at ho62)); have n0_ := Aside0.mk (Kd.R_lower ho62 (below_size (by repeat (first | (with_reducible first | exact HB.out | apply below_alloc | apply pw_below_drewN | apply below_drew1 | refine below_set ?_ GE281.out) | exact HB.out)))); have n1_ := Aside0.mk (blk_below (g := gb281) (o := .cells #[.int .i16 a2_0, .int .i16 a2_1] 41 (0, 0)) (by (with_reducible repeat (first | refine blk_drewN ?_ _ | refine blk_drew ?_ | refine blk_alloc ?_ _)); exact BK281.out) hb); have n2_ := Aside0.mk (below_step (by repeat (first | (with_reducible first | exact HB.out | apply below_alloc | apply pw_below_drewN | apply below_drew1 | refine below_set ?_ GE281.out) | exact HB.out)) hb); clear BK281; clear HB; have HO286 := n0_; have BK281 := n1_; have HB := n2_; clear n0_ n1_ n2_; clear hb ho62) | ((with_reducible refine gate_builtin (b := .append) (xs := #[.tmp 35, .tmp 36]) rfl ?_); (try (refine gate_guard (by rfl) ?_; dsimp only)); at_builtin; refine Kd.R_append_rows k36 (w0 := w) w.heap.size rfl (.tmp 35) (.tmp 36) 22 36 (.agg #[(.int .i64 0), (.int .i64 0), (.int .i64 0), (.int .i64 0)]) 32 rfl Try.underlying22 info36 rfl (by decide) (by omega) v285 y284 l0 _ _ _ (fun _ => True) (fun _ => False) rfl rfl ?aO ?aR (fun _ _ h => h) (fun _ h => h.elim) ?aF ?aB ?aS ?aL ?_; (case aR => repeat (first | exact (Kd.C_below HR0.out HB.out) | (with_reducible refine Kd.C_alloc ?_ _) | (with_reducible refine Kd.C_drewN ?_ _) | (with_reducible refine Kd.C_drew ?_))); (case aB => exact (by repeat (first | (with_reducible first | exact HB.out | apply below_alloc | apply pw_below_drewN | apply below_drew1 | refine below_set ?_ GE281.out) | exact HB.out))); (case aF => exact (fun _ _ => trivial)); (case aO => exact (by (with_reducible repeat (first | apply Kd.R_alloc | apply Kd.R_drewN | apply Kd.R_drew)); exact HO286.out)); (case aS => exact (below_size (by repeat (first | (with_reducible first | exact HB.out | apply below_alloc | apply pw_below_drewN | apply below_drew1 | refine below_set ?_ GE281.out) | exact HB.out)))); (case aL => have := LMc15.out; omega); intro v288 w63 ho hb hg hat; rw [← Ny287.out] at ho; have n0_ := Aside0.mk (blk_grown (g := gb281) (o := .cells #[.int .i16 a2_0, .int .i16 a2_1] 41 (0, 0)) (by (with_reducible repeat (first | refine blk_drewN ?_ _ | refine blk_drew ?_ | refine blk_alloc ?_ _)); exact BK281.out) hg (Kd.R_ne HO286.out BK281.out (by decide))); have n1_ := Aside0.mk (hb); have n2_ := Aside0.mk (ho); clear BK281; clear HB; clear HO286; have BK281 := n0_; have HB := n1_; have HO289 := n2_; clear n0_ n1_ n2_; clear ho hb hg hat))
                    have n0_ := Aside0.mk (Kd.R_drew HO289.out)
                    have n1_ := Aside0.mk (blk_drew BK281.out)
                    have n2_ := Aside0.mk (below_drew1 HB.out)
                    clear HO289
                    clear BK281
                    clear HB
                    have HO289 := n0_
                    have BK281 := n1_
                    have HB := n2_
                    clear n0_ n1_ n2_
                    obtain ⟨Ao65, co65, eo65⟩ := Kd.R_slice HO289.out
                    (first | subst eo65 | (injection eo65 with f1_ f2_ f3_; have f4_ := f1_.symm; have f5_ := f3_.symm; clear f1_ f2_ f3_; subst f4_; subst f5_))
                    have p290 : 0 ≤ ((ji16) : Int) := of_decide_eq_true (by first | (with_reducible assumption) | assumption)
                    have q290 : (ji16) < (y287.length : Int) := of_decide_eq_true (by first | (with_reducible assumption) | assumption)
                    obtain ⟨ad290, e290, hx290_0, hx290_1, hx290_2, hx290_3⟩ := at_T36 (Kd.R_reads' HO289.out).2.2 (ji16) p290 q290
                    cases e290
                    replace p290 := eq_true p290
                    replace q290 := eq_true q290
                    have p19 : 0 ≤ ((ji16) : Int) := of_decide_eq_true (by first | (with_reducible assumption) | assumption)
                    have q19 : ((ji16) : Int) < ((y287.length : Int) : Int) := of_decide_eq_true (by first | (with_reducible assumption) | assumption)
                    obtain ⟨go19, co19, eo19, gb19, gl19, cl19, HG19⟩ := Kd.R_form HO289.out (by omega)
                    (first | cases eo19 | (injection eo19 with ea_ en_ ec_; (first | subst ea_ | (injection ea_ with ea_; subst ea_)); subst ec_; clear en_))
                    have GB19 := Aside0.mk gb19
                    have GG19 := Aside0.mk HG19
                    clear gb19 gl19 HG19
                    (first | simp only [add_plain] at hx290_0 | skip)
                    (first | simp only [add_plain] at hx290_1 | skip)
                    (first | simp only [add_plain] at hx290_2 | skip)
                    (first | simp only [add_plain] at hx290_3 | skip)
                    obtain ⟨ce19, hcl19, hM19, hcc19, hfr19⟩ := Kd.R_elem HO289.out z36 ((ji16) : Int) p19 q19
                    obtain rfl := k36_openM hM19
                    have hx19_0 : World.cell? _ ⟨go19, ((ji16) : Int).toNat * 4, none⟩ = some (.int .i64 ((rd_T36 y287 (ji16)).f0)) := hcc19 0 _ rfl
                    have hx19_1 : World.cell? _ ⟨go19, ((ji16) : Int).toNat * 4 + 1, none⟩ = some (.int .i64 ((rd_T36 y287 (ji16)).f1)) := hcc19 1 _ rfl
                    have hx19_2 : World.cell? _ ⟨go19, ((ji16) : Int).toNat * 4 + 2, none⟩ = some (.int .i64 ((rd_T36 y287 (ji16)).f2)) := hcc19 2 _ rfl
                    have hx19_3 : World.cell? _ ⟨go19, ((ji16) : Int).toNat * 4 + 3, none⟩ = some (.int .i64 ((rd_T36 y287 (ji16)).f3)) := hcc19 3 _ rfl
                    have hf19_0 : World.frozen? _ ⟨go19, ((ji16) : Int).toNat * 4, none⟩ = false := hfr19 0
                    have hf19_1 : World.frozen? _ ⟨go19, ((ji16) : Int).toNat * 4 + 1, none⟩ = false := hfr19 1
                    have hf19_2 : World.frozen? _ ⟨go19, ((ji16) : Int).toNat * 4 + 2, none⟩ = false := hfr19 2
                    have hf19_3 : World.frozen? _ ⟨go19, ((ji16) : Int).toNat * 4 + 3, none⟩ = false := hfr19 3
                    clear hcl19 hcc19 hfr19 hM19
                    replace p19 := eq_true p19
                    replace q19 := eq_true q19
                    obtain ⟨ce66, hcl66, hM66, hcc66, hfr66⟩ := Kd.R_elem HO289.out z36 ((ji16) : Int) (of_decide_eq_true (by first | (with_reducible assumption) | assumption)) (by have h_ : ((ji16) : Int) < ((y287.length : Int) : Int) := of_decide_eq_true (by first | (with_reducible assumption) | assumption); first | exact h_ | (have e_ := (Kd.R_reads' HO289.out).1; omega) | simpa using h_)
                    obtain rfl := k36_openM hM66
                    have HP66 := (Kd.R_seg HO289.out ((ji16) : Int) (of_decide_eq_true (by first | (with_reducible assumption) | assumption)) (by have h_ : ((ji16) : Int) < ((y287.length : Int) : Int) := of_decide_eq_true (by first | (with_reducible assumption) | assumption); first | exact h_ | (have e_ := (Kd.R_reads' HO289.out).1; omega) | simpa using h_) (seg := [.int .i64 (wrap64 (((rd_T36 y287 (ji16)).f0) + (wrap64 (a2_1))))]) (j := 0) hcl66 hcc66 (show 1 ≤ 4 from by decide) (x' := (⟨wrap64 (((rd_T36 y287 (ji16)).f0) + (wrap64 (a2_1))), (rd_T36 y287 (ji16)).f1, (rd_T36 y287 (ji16)).f2, (rd_T36 y287 (ji16)).f3⟩ : S36)) (k36_mkM _ _ _ (⟨wrap64 (((rd_T36 y287 (ji16)).f0) + (wrap64 (a2_1))), (rd_T36 y287 (ji16)).f1, (rd_T36 y287 (ji16)).f2, (rd_T36 y287 (ji16)).f3⟩ : S36) ) (fun _ hk => hk)).1
                    rw [← Ny291.out] at HP66
                    have HQ66 := Aside0.mk HP66
                    clear hcl66 hcc66 hfr66 hM66 HP66
                    refine start_ (n := 12) (S := fun w' => w'.cell? ⟨gb281, 0, none⟩ = some (.int .i16 a2_0) ∧ w'.cell? ⟨gb281, 1, none⟩ = some (.int .i16 a2_1) ∧ w'.cell? ⟨go19, (ji16).toNat * 4, none⟩ = some (.int .i64 ((rd_T36 y287 (ji16)).f0)) ∧ w'.cell? ⟨go19, ((ji16).toNat * 4) + 1, none⟩ = some (.int .i64 ((rd_T36 y287 (ji16)).f1)) ∧ w'.cell? ⟨go19, ((ji16).toNat * 4) + 2, none⟩ = some (.int .i64 ((rd_T36 y287 (ji16)).f2)) ∧ w'.cell? ⟨go19, ((ji16).toNat * 4) + 3, none⟩ = some (.int .i64 ((rd_T36 y287 (ji16)).f3))) (ds := [11]) #[false, false, false, false, false, false, false, false, false, false, false, false] (by kernel_rfl) rfl rfl ⟨(blk_cell BK281.out 0).trans rfl, (blk_cell BK281.out 1).trans rfl, hx290_0, hx290_1, hx290_2, hx290_3⟩ (fun hHeld => ?_); refine with_tabW vinculumlaw27_GlueShift.tab7 vinculumlaw27_GlueShift.bits7 (fun HT_ HW_ => ?_)
                    generalize w63.drew = w64 at HO289 BK281 HB GG19 HQ66 hf19_0 hf19_1 hf19_2 hf19_3 hx19_0 hx19_1 hx19_2 hx19_3 hx290_0 hx290_1 hx290_2 hx290_3 hHeld ⊢
                    refine pure_ (i := 0) (N := some 38) (v := ?_) (a' := ?_) #[true, false, false, false, false, false, false, false, false, false, false, false] rfl rfl (any_of HT_.out (by kernel_rfl)) (fun _ _ _ h => h) (Or.inl ⟨by rfl, ?_⟩) ?_ ?_
                    rotate_left
                    · intro w'
                      go_simp
                      with_reducible rfl
                    rotate_left
                    · simp only [Act.put, List.setIfInBounds_toArray, List.set_cons_zero, List.set_cons_succ, i64_w, i32_w]
                      rfl
                    refine pure_ (i := 1) (N := some 39) (v := ?_) (a' := ?_) #[true, true, false, false, false, false, false, false, false, false, false, false] rfl rfl (any_of HT_.out (by kernel_rfl)) (fun _ _ _ h => h) (Or.inl ⟨by rfl, ?_⟩) ?_ ?_
                    rotate_left
                    · intro w'
                      go_simp
                      with_reducible rfl
                    rotate_left
                    · simp only [Act.put, List.setIfInBounds_toArray, List.set_cons_zero, List.set_cons_succ, i64_w, i32_w]
                      rfl
                    refine pure_ (i := 2) (N := some 40) (v := ?_) (a' := ?_) #[true, true, true, false, false, false, false, false, false, false, false, false] rfl rfl (any_of HT_.out (by kernel_rfl)) (fun _ _ _ h => h) (Or.inl ⟨by rfl, ?_⟩) ?_ ?_
                    rotate_left
                    · intro w'
                      go_simp
                      with_reducible rfl
                    rotate_left
                    · simp only [Act.put, List.setIfInBounds_toArray, List.set_cons_zero, List.set_cons_succ, i64_w, i32_w]
                      rfl
                    refine pure_ (i := 3) (N := some 41) (v := ?_) (a' := ?_) #[true, true, true, true, false, false, false, false, false, false, false, false] rfl rfl (any_of HT_.out (by kernel_rfl)) (fun _ _ _ h => h) (Or.inl ⟨by rfl, ?_⟩) ?_ ?_
                    rotate_left
                    · intro w'
                      go_simp
                      with_reducible rfl
                    rotate_left
                    · simp only [Act.put, List.setIfInBounds_toArray, List.set_cons_zero, List.set_cons_succ, i64_w, i32_w]
                      rfl
                    refine pure_ (i := 5) (N := some 43) (v := ?_) (a' := ?_) #[true, true, true, true, false, true, false, false, false, false, false, false] rfl rfl (any_of HT_.out (by kernel_rfl)) (fun _ _ _ h => h) (Or.inl ⟨by rfl, ?_⟩) ?_ ?_
                    rotate_left
                    · intro w'
                      go_simp
                      with_reducible rfl
                    rotate_left
                    · simp only [Act.put, List.setIfInBounds_toArray, List.set_cons_zero, List.set_cons_succ, i64_w, i32_w]
                      rfl
                    refine take_ (i := 4) (N := some 42) (v := ?_) (a' := ?_) #[true, true, true, true, true, true, false, false, false, false, false, false] rfl rfl (take_ofW HT_.out HW_.out (by kernel_rfl)) (fun _ _ _ h => h) (Or.inl ⟨by rfl, ?_⟩) hHeld ?_ ?_
                    rotate_left
                    · rintro w' ⟨s0, s1, s2, s3, s4, s5⟩
                      go_simp
                      with_reducible rfl
                    rotate_left
                    · simp only [Act.put, List.setIfInBounds_toArray, List.set_cons_zero, List.set_cons_succ, i64_w, i32_w]
                      rfl
                    refine take_ (i := 6) (N := some 44) (v := ?_) (a' := ?_) #[true, true, true, true, true, true, true, false, false, false, false, false] rfl rfl (take_ofW HT_.out HW_.out (by kernel_rfl)) (fun _ _ _ h => h) (Or.inl ⟨by rfl, ?_⟩) hHeld ?_ ?_
                    rotate_left
                    · rintro w' ⟨s0, s1, s2, s3, s4, s5⟩
                      go_simp
                      with_reducible rfl
                    rotate_left
                    · simp only [Act.put, List.setIfInBounds_toArray, List.set_cons_zero, List.set_cons_succ, i64_w, i32_w]
                      rfl
                    refine pure_ (i := 7) (N := some 45) (v := ?_) (a' := ?_) #[true, true, true, true, true, true, true, true, false, false, false, false] rfl rfl (any_of HT_.out (by kernel_rfl)) (fun _ _ _ h => h) (Or.inl ⟨by rfl, ?_⟩) ?_ ?_
                    rotate_left
                    · intro w'
                      go_simp
                      with_reducible rfl
                    rotate_left
                    · simp only [Act.put, List.setIfInBounds_toArray, List.set_cons_zero, List.set_cons_succ, i64_w, i32_w]
                      rfl
                    refine pure_ (i := 8) (N := some 46) (v := ?_) (a' := ?_) #[true, true, true, true, true, true, true, true, true, false, false, false] rfl rfl (any_of HT_.out (by kernel_rfl)) (fun _ _ _ h => h) (Or.inl ⟨by rfl, ?_⟩) ?_ ?_
                    rotate_left
                    · intro w'
                      go_simp
                      with_reducible rfl
                    rotate_left
                    · simp only [Act.put, List.setIfInBounds_toArray, List.set_cons_zero, List.set_cons_succ, i64_w, i32_w]
                      rfl
                    refine pure_ (i := 9) (N := some 47) (v := ?_) (a' := ?_) #[true, true, true, true, true, true, true, true, true, true, false, false] rfl rfl (any_of HT_.out (by kernel_rfl)) (fun _ _ _ h => h) (Or.inl ⟨by rfl, ?_⟩) ?_ ?_
                    rotate_left
                    · intro w'
                      go_simp
                      with_reducible rfl
                    rotate_left
                    · simp only [Act.put, List.setIfInBounds_toArray, List.set_cons_zero, List.set_cons_succ, i64_w, i32_w]
                      rfl
                    refine pure_ (i := 10) (N := some 48) (v := ?_) (a' := ?_) #[true, true, true, true, true, true, true, true, true, true, true, false] rfl rfl (any_of HT_.out (by kernel_rfl)) (fun _ _ _ h => h) (Or.inl ⟨by rfl, ?_⟩) ?_ ?_
                    rotate_left
                    · intro w'
                      go_simp
                      with_reducible rfl
                    rotate_left
                    · simp only [Act.put, List.setIfInBounds_toArray, List.set_cons_zero, List.set_cons_succ, i64_w, i32_w]
                      rfl
                    refine last_ (i := 11) (N := none) #[true, true, true, true, true, true, true, true, true, true, true, true] rfl rfl (one_of HT_.out (by kernel_rfl)) (by decide) (fun K hK => ?_)
                    refine skip_ (w1 := ?_) (by rfl) rfl ?_ ?_
                    rotate_left
                    · go_simp
                      rfl
                    refine hK.out _ _ ?_
                    clear hK K
                    refine done_ (done_of HT_.out (by kernel_rfl)) ?_
                    have hcz67_0 : w64.cell? ⟨gb281, 0, none⟩ = some (.int .i16 a2_0) := (blk_cell BK281.out 0).trans rfl
                    have hcz67_1 : w64.cell? ⟨gb281, 1, none⟩ = some (.int .i16 a2_1) := (blk_cell BK281.out 1).trans rfl
                    have hfz67_0 := blk_frozen BK281.out 0
                    have hfz67_1 := blk_frozen BK281.out 1
                    try go_wp2_with (first | ((with_reducible refine gate_callee (f := 27) rfl ?_); refine goesL_ (some 55) rfl rfl Try.func27 (by kernel_rfl) rfl #[.slice (some ⟨go19, 0, none⟩) y291.length co65, .int .i64 (wrap64 (a1 + (wrap64 (a2_1))))] rfl (by (try simp only [List.map_toArray, List.map_cons, List.map_nil]); first | done | (rw [show y291.length = y287.length from (Kd.R_reads' HQ66.out).1.symm] <;> rfl) | rfl | (simp only [List.length_drop, List.length_take]; rfl)) ?_; (with_reducible refine (vinculumlaw27_right.calls kj5 _ _ y291 (wrap64 (a1 + (wrap64 (a2_1)))) false _ ?side1 ?side2 A20.out).mono ?_); (case side1 => refine (Kd.R_reads' (e := 36) (base := w.heap.size) (ok := fun k_ => True) (n := y287.length) (c := co65) ?_).2.2; exact (by (with_reducible repeat (first | apply Kd.R_alloc | apply Kd.R_drewN | apply Kd.R_drew)); exact HQ66.out)); (case side2 => rw [show y291.length = y287.length from (Kd.R_reads' HQ66.out).1.symm]; exact (Kd.R_reads' HO289.out).2.1); rintro e w68 ⟨rfl, hb⟩; refine ⟨_, rfl, ?_⟩; have n0_ := Aside0.mk (Kd.R_below (by (with_reducible repeat (first | apply Kd.R_alloc | apply Kd.R_drewN | apply Kd.R_drew)); exact HQ66.out) hb); have n1_ := Aside0.mk (blk_below (g := gb281) (o := .cells #[.int .i16 a2_0, .int .i16 a2_1] 41 (0, 0)) (by (with_reducible repeat (first | refine blk_drewN ?_ _ | refine blk_drew ?_ | refine blk_alloc ?_ _)); refine blk_far ?_ (by have h_ := Kd.R_ne HO289.out BK281.out (by decide); intro e_; exact h_ (by rw [e_]; rfl)) _; (with_reducible repeat (first | refine blk_drewN ?_ _ | refine blk_drew ?_ | refine blk_alloc ?_ _)); exact BK281.out) hb); have n2_ := Aside0.mk (below_step (by repeat (first | (with_reducible first | exact HB.out | apply below_alloc | apply pw_below_drewN | apply below_drew1 | refine below_set ?_ GB19.out | refine below_set ?_ GE281.out) | exact HB.out)) hb); clear HO289; clear BK281; clear HB; have HO289 := n0_; have BK281 := n1_; have HB := n2_; clear n0_ n1_ n2_; (try clear hb); (try clear hb2); (try clear hk); (try clear hi)))
                    go_ret
                    exact ⟨by first | rfl | (simp [errW_none, errW_some] <;> rfl) | (simp only [← hji16]; first | rfl | (simp [errW_none, errW_some] <;> rfl)) | (simp [*, errW_none, errW_some] <;> rfl), by repeat (first | (with_reducible first | exact HB.out | apply below_alloc | apply pw_below_drewN | apply below_drew1 | refine below_set ?_ GE281.out) | exact HB.out)⟩
                · rw [if_neg c18] at H
                  exact absurd H (by simp)
              · rw [if_neg c17] at H
                exact absurd H (by simp)
            · rw [if_neg c15] at H
              exact absurd H (by simp)
  · replace c5 := Bool.eq_false_iff.mpr c5
    subst c5
    have H1 : (none) = some r := by rw [if_neg (show ¬ (false = true) by decide)] at H; exact H
    clear H
    have H := H1
    clear H1
    exact absurd H (by simp)

end Go.Proofs.Ytojcnndkdopahaa.P
