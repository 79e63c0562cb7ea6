/- Written by wip/tool/hprint.py (the kit's print.py with hand-proved contracts set in): contracts of the functions that the statements of this seat reach, without conditions beyond those named in each theorem. -/
import Derived.Test.YtojcnndkdopahaaP0
import Derived.Test.YtojcnndkdopahaaP18
import Derived.Test.YtojcnndkdopahaaP19
import Derived.Test.YtojcnndkdopahaaP20
import Derived.Test.YtojcnndkdopahaaP22
import Derived.Test.YtojcnndkdopahaaP26
namespace Go.Proofs.Ytojcnndkdopahaa.P
open Go.RowKit Go.Proofs.YtojcnndkdopahaaW.PrintWords Go.Proofs.YtojcnndkdopahaaW.PrintLast Go.Proofs.YtojcnndkdopahaaW.PrintMore
attribute [local go_sem] max2_int min2_int max_two min_two max_three min_three max_four min_four   -- for this text's walks alone
set_option linter.unusedVariables false
set_option linter.unusedSimpArgs false

/-! ### vinculumref27_Badness: function 26 -/
mutual
def vinculumref27_Badness.j0 : Nat → List (S36) → Int → Bool → Option (Int × Int)
  | 0, _, _, _ => none
  | k + 1, x0, x7, x30 => if x30 = true then (some (0, 0)) else ((vinculumref27_Stretch.f k x0 0).bind fun t216 => (if x7 < 0 then ((vinculumref27_Shrink.f k x0).bind fun t217 => (vinculumref27_Badness.j1 k x7 t217)) else (vinculumref27_Badness.j1 k x7 t216)))
def vinculumref27_Badness.j1 : Nat → Int → Int → Option (Int × Int)
  | 0, _, _ => none
  | k + 1, x7, x8 => if x8 = 0 then (some (10000, 0)) else (if x7 < (wrap64 (-x8)) then (some (10001, 0)) else (if (wrap64 (Int.tdiv (wrap64 (100 * (mx x7 (wrap64 (-x7))))) x8)) > 1000 then (some (10000, 0)) else (some (mn (wrap64 (Int.tdiv (wrap64 ((wrap64 ((wrap64 (Int.tdiv (wrap64 (100 * (mx x7 (wrap64 (-x7))))) x8)) * (wrap64 (Int.tdiv (wrap64 (100 * (mx x7 (wrap64 (-x7))))) x8)))) * (wrap64 (Int.tdiv (wrap64 (100 * (mx x7 (wrap64 (-x7))))) x8)))) 10000)) 10000, 0))))
end
def vinculumref27_Badness.f (k : Nat) (l0 : List (S36)) (a1 : Int) : Option (Int × Int) := (vinculumref27_check.f k l0 a1).bind fun t213 => (if t213 = 0 then ((vinculumref27_Natural.f k l0).bind fun t214 => (if (wrap64 (a1 - t214)) = 0 then (vinculumref27_Badness.j0 k l0 (wrap64 (a1 - t214)) true) else (if (wrap64 (a1 - t214)) > 0 then ((vinculumref27_Order.f k l0).bind fun t215 => (vinculumref27_Badness.j0 k l0 (wrap64 (a1 - t214)) (decide (t215 > 0)))) else (vinculumref27_Badness.j0 k l0 (wrap64 (a1 - t214)) false)))) else (some (0, t213)))
theorem vinculumref27_Badness.mono_l : ∀ k, (∀ y0 y1 y2, LeO (vinculumref27_Badness.j0 k y0 y1 y2) (vinculumref27_Badness.j0 (k + 1) y0 y1 y2)) ∧ (∀ y0 y1, LeO (vinculumref27_Badness.j1 k y0 y1) (vinculumref27_Badness.j1 (k + 1) y0 y1))
  | 0 => ⟨fun _ _ _ r h => by simp [vinculumref27_Badness.j0] at h, fun _ _ r h => by simp [vinculumref27_Badness.j1] at h⟩
  | k + 1 => by
    obtain ⟨ih0, ih1⟩ := vinculumref27_Badness.mono_l k
    refine ⟨?_, ?_⟩
    · intro y0 y1 y2
      unfold vinculumref27_Badness.j0
      repeat' first
      | (with_reducible exact ih0 _ _ _)
      | (with_reducible exact ih1 _ _)
      | (with_reducible exact vinculumref27_Natural.mono _ _)
      | (with_reducible exact vinculumref27_Order.mono _ _)
      | (with_reducible exact vinculumref27_Shrink.mono _ _)
      | (with_reducible exact vinculumref27_Stretch.mono _ _ _)
      | (with_reducible exact vinculumref27_check.mono _ _ _)
      | (with_reducible exact LeO.refl _)
      | (with_reducible exact LeO.none _)
      | (with_reducible refine LeO.ite ?_ ?_)
      | (with_reducible refine LeO.bind ?_ (fun _ => ?_))
      | exact ih0 _ _ _
      | exact ih1 _ _
      | exact vinculumref27_Natural.mono _ _
      | exact vinculumref27_Order.mono _ _
      | exact vinculumref27_Shrink.mono _ _
      | exact vinculumref27_Stretch.mono _ _ _
      | exact vinculumref27_check.mono _ _ _
      | exact LeO.none _
      | refine LeO.ite ?_ ?_
      | refine LeO.bind ?_ (fun _ => ?_)
    · intro y0 y1
      unfold vinculumref27_Badness.j1
      repeat' first
      | (with_reducible exact ih0 _ _ _)
      | (with_reducible exact ih1 _ _)
      | (with_reducible exact vinculumref27_Natural.mono _ _)
      | (with_reducible exact vinculumref27_Order.mono _ _)
      | (with_reducible exact vinculumref27_Shrink.mono _ _)
      | (with_reducible exact vinculumref27_Stretch.mono _ _ _)
      | (with_reducible exact vinculumref27_check.mono _ _ _)
      | (with_reducible exact LeO.refl _)
      | (with_reducible exact LeO.none _)
      | (with_reducible refine LeO.ite ?_ ?_)
      | (with_reducible refine LeO.bind ?_ (fun _ => ?_))
      | exact ih0 _ _ _
      | exact ih1 _ _
      | exact vinculumref27_Natural.mono _ _
      | exact vinculumref27_Order.mono _ _
      | exact vinculumref27_Shrink.mono _ _
      | exact vinculumref27_Stretch.mono _ _ _
      | exact vinculumref27_check.mono _ _ _
      | exact LeO.none _
      | refine LeO.ite ?_ ?_
      | refine LeO.bind ?_ (fun _ => ?_)
theorem vinculumref27_Badness.mono : ∀ a0 a1 k, LeO (vinculumref27_Badness.f k a0 a1) (vinculumref27_Badness.f (k + 1) a0 a1) := by
  intro a0 a1 k
  obtain ⟨ih0, ih1⟩ := vinculumref27_Badness.mono_l k
  unfold vinculumref27_Badness.f
  repeat' first
      | (with_reducible exact ih0 _ _ _)
      | (with_reducible exact ih1 _ _)
      | (with_reducible exact vinculumref27_Natural.mono _ _)
      | (with_reducible exact vinculumref27_Order.mono _ _)
      | (with_reducible exact vinculumref27_Shrink.mono _ _)
      | (with_reducible exact vinculumref27_Stretch.mono _ _ _)
      | (with_reducible exact vinculumref27_check.mono _ _ _)
      | (with_reducible exact LeO.refl _)
      | (with_reducible exact LeO.none _)
      | (with_reducible refine LeO.ite ?_ ?_)
      | (with_reducible refine LeO.bind ?_ (fun _ => ?_))
      | exact ih0 _ _ _
      | exact ih1 _ _
      | exact vinculumref27_Natural.mono _ _
      | exact vinculumref27_Order.mono _ _
      | exact vinculumref27_Shrink.mono _ _
      | exact vinculumref27_Stretch.mono _ _ _
      | exact vinculumref27_check.mono _ _ _
      | exact LeO.none _
      | refine LeO.ite ?_ ?_
      | refine LeO.bind ?_ (fun _ => ?_)
set_option maxHeartbeats 8000000 in
set_option maxRecDepth 100000 in
theorem vinculumref27_Badness.calls (k : Nat) (A0 : Option Addr) (c0 : Nat) (l0 : List (S36)) (a1 : Int) (r1 : Int) (r2 : Int) (w : World) (hr0 : Kd.C k36 w A0 l0.length l0) (hc0 : l0.length ≤ c0) (h : vinculumref27_Badness.f k l0 a1 = some (r1, r2)) :
    Calls Try.prog 26 #[.slice A0 l0.length c0, .int .i64 a1] w fun e w' => e = .returned (.tuple #[.int .i64 r1, .int .i64 r2]) ∧ Below w.heap.size w w' := by
  have HR0 := Aside0.mk hr0
  have HC0 := Aside0.mk hc0
  clear hr0 hc0
  have HB := Aside0.mk (Below.refl w.heap.size w)
  have H : ((vinculumref27_check.f k l0 a1).bind fun t213 => (if t213 = 0 then ((vinculumref27_Natural.f k l0).bind fun t214 => (if (wrap64 (a1 - t214)) = 0 then (vinculumref27_Badness.j0 k l0 (wrap64 (a1 - t214)) true) else (if (wrap64 (a1 - t214)) > 0 then ((vinculumref27_Order.f k l0).bind fun t215 => (vinculumref27_Badness.j0 k l0 (wrap64 (a1 - t214)) (decide (t215 > 0)))) else (vinculumref27_Badness.j0 k l0 (wrap64 (a1 - t214)) false)))) else (some (0, t213)))) = some (r1, r2) := h
  clear h
  replace H := Option.bind_eq_some_iff.mp H
  obtain ⟨t213, A30, H⟩ := H
  replace H : (if t213 = 0 then ((vinculumref27_Natural.f k l0).bind fun t214 => (if (wrap64 (a1 - t214)) = 0 then (vinculumref27_Badness.j0 k l0 (wrap64 (a1 - t214)) true) else (if (wrap64 (a1 - t214)) > 0 then ((vinculumref27_Order.f k l0).bind fun t215 => (vinculumref27_Badness.j0 k l0 (wrap64 (a1 - t214)) (decide (t215 > 0)))) else (vinculumref27_Badness.j0 k l0 (wrap64 (a1 - t214)) false)))) else (some (0, t213))) = some (r1, r2) := H
  have A3 := Aside0.mk A30
  clear A30
  by_cases c4 : t213 = 0
  · rw [if_pos c4] at H
    have c4b0 : (t213 == 0) = true := beq_iff_eq.mpr c4
    have c4b1 : (t213 != 0) = false := bne_eq_false_iff_eq.mpr c4
    clear c4
    replace H := Option.bind_eq_some_iff.mp H
    obtain ⟨t214, A50, H⟩ := H
    replace H : (if (wrap64 (a1 - t214)) = 0 then (vinculumref27_Badness.j0 k l0 (wrap64 (a1 - t214)) true) else (if (wrap64 (a1 - t214)) > 0 then ((vinculumref27_Order.f k l0).bind fun t215 => (vinculumref27_Badness.j0 k l0 (wrap64 (a1 - t214)) (decide (t215 > 0)))) else (vinculumref27_Badness.j0 k l0 (wrap64 (a1 - t214)) false))) = some (r1, r2) := H
    have A5 := Aside0.mk A50
    clear A50
    have HC6 := Aside0.mk H
    clear H
    go_enter Try.func26, Try.ntmps26
    go_upto_region 5 with (first | ((with_reducible refine gate_callee (f := 41) rfl ?_); refine goesL_ (some 12) rfl rfl Try.func41 (by kernel_rfl) rfl #[.slice A0 l0.length c0, .int .i64 a1] rfl (by (try simp only [List.map_toArray, List.map_cons, List.map_nil]); first | done | rfl | (simp only [List.length_drop, List.length_take]; rfl)) ?_; (with_reducible refine (vinculumref27_check.calls k _ _ l0 a1 t213 _ ?side1 ?side2 A3.out).mono ?_); (case side1 => repeat (first | exact HR0.out | (with_reducible refine Kd.C_alloc ?_ _) | (with_reducible refine Kd.C_drewN ?_ _) | (with_reducible refine Kd.C_drew ?_))); (case side2 => exact HC0.out); rintro e w7 ⟨rfl, hb⟩; refine ⟨_, rfl, ?_⟩; have n0_ := Aside0.mk (below_step (by repeat (first | (with_reducible first | exact HB.out | apply below_alloc | apply pw_below_drewN | apply below_drew1) | exact HB.out)) hb); clear HB; have HB := n0_; clear n0_; (try clear hb); (try clear hb2); (try clear hk); (try clear hi)) | ((with_reducible refine gate_callee (f := 17) rfl ?_); refine goesL_ (some 18) rfl rfl Try.func17 (by kernel_rfl) rfl #[.slice A0 l0.length c0] rfl (by (try simp only [List.map_toArray, List.map_cons, List.map_nil]); first | done | rfl | (simp only [List.length_drop, List.length_take]; rfl)) ?_; (with_reducible refine (vinculumref27_Natural.calls k _ _ l0 t214 _ ?side1 ?side2 A5.out).mono ?_); (case side1 => repeat (first | exact (Kd.C_below HR0.out HB.out) | (with_reducible refine Kd.C_alloc ?_ _) | (with_reducible refine Kd.C_drewN ?_ _) | (with_reducible refine Kd.C_drew ?_))); (case side2 => exact HC0.out); rintro e w8 ⟨rfl, hb⟩; refine ⟨_, rfl, ?_⟩; have n0_ := Aside0.mk (below_step (by repeat (first | (with_reducible first | exact HB.out | apply below_alloc | apply pw_below_drewN | apply below_drew1) | exact HB.out)) hb); clear HB; have HB := n0_; clear n0_; (try clear hb); (try clear hb2); (try clear hk); (try clear hi)))
    (try simp only [Act.put, List.setIfInBounds_toArray, List.set_cons_zero, List.set_cons_succ])
    go_cut [30] (fun v30 wc => ∃ (kq : Nat) (x30_5 : Bool), v30 = .bool x30_5 ∧ Aside0 (vinculumref27_Badness.j0 kq l0 (wrap64 (a1 - t214)) x30_5 = some (r1, r2)) ∧ Aside0 (kq ≤ k) ∧ Aside0 (Below w.heap.size w wc))
    case first =>
      have H := HC6.out
      clear HC6
      by_cases c9 : (wrap64 (a1 - t214)) = 0
      · rw [if_pos c9] at H
        have c9b0 : ((wrap64 (a1 - t214)) == 0) = true := beq_iff_eq.mpr c9
        have c9b1 : ((wrap64 (a1 - t214)) != 0) = false := bne_eq_false_iff_eq.mpr c9
        clear c9
        (first | rw [c9b0] | (simp only [i64_w, i32_w]; rw [c9b0]) | skip)
        have H' := Aside0.mk H
        clear H
        go_wp2
        go_meet
        case rel => exact ⟨_, (true), (by first | rfl | (simp; done) | (simp [*]; done)), H', ⟨by first | omega | exact Nat.le_refl _⟩, ⟨by repeat (first | (with_reducible first | exact HB.out | apply below_alloc | apply pw_below_drewN | apply below_drew1) | exact HB.out)⟩⟩
      · rw [if_neg c9] at H
        have c9b0 : ((wrap64 (a1 - t214)) == 0) = false := beq_eq_false_iff_ne.mpr c9
        have c9b1 : ((wrap64 (a1 - t214)) != 0) = true := bne_iff_ne.mpr c9
        (first | rw [c9b0] | (simp only [i64_w, i32_w]; rw [c9b0]) | skip)
        by_cases c10 : (wrap64 (a1 - t214)) > 0
        · rw [if_pos c10] at H
          have c10b0 : decide (0 < (wrap64 (a1 - t214))) = true := decide_eq_true c10
          clear c10
          replace H := Option.bind_eq_some_iff.mp H
          obtain ⟨t215, A110, H⟩ := H
          replace H : (vinculumref27_Badness.j0 k l0 (wrap64 (a1 - t214)) (decide (t215 > 0))) = some (r1, r2) := H
          have A11 := Aside0.mk A110
          clear A110
          have H' := Aside0.mk H
          clear H
          go_wp2_with (first | (go_at_call 28; (with_reducible refine (vinculumref27_Order.calls k _ _ l0 t215 _ ?side1 ?side2 A11.out).mono ?_); (case side1 => repeat (first | exact (Kd.C_below HR0.out HB.out) | (with_reducible refine Kd.C_alloc ?_ _) | (with_reducible refine Kd.C_drewN ?_ _) | (with_reducible refine Kd.C_drew ?_))); (case side2 => exact HC0.out); rintro e w12 ⟨rfl, hb⟩; have n0_ := Aside0.mk (below_step (by repeat (first | (with_reducible first | exact HB.out | apply below_alloc | apply pw_below_drewN | apply below_drew1) | exact HB.out)) hb); clear HB; have HB := n0_; clear n0_; (try clear hb); (try clear hb2); (try clear hk); (try clear hi)))
          go_meet
          case rel => exact ⟨_, (decide (t215 > 0)), (by first | rfl | (simp; done) | (simp [*]; done)), H', ⟨by first | omega | exact Nat.le_refl _⟩, ⟨by repeat (first | (with_reducible first | exact HB.out | apply below_alloc | apply pw_below_drewN | apply below_drew1) | exact HB.out)⟩⟩
        · rw [if_neg c10] at H
          have c10b0 : decide (0 < (wrap64 (a1 - t214))) = false := decide_eq_false c10
          clear c10
          have H' := Aside0.mk H
          clear H
          go_wp2
          go_meet
          case rel => exact ⟨_, (false), (by first | rfl | (simp; done) | (simp [*]; done)), H', ⟨by first | omega | exact Nat.le_refl _⟩, ⟨by repeat (first | (with_reducible first | exact HB.out | apply below_alloc | apply pw_below_drewN | apply below_drew1) | exact HB.out)⟩⟩
    case rest =>
      clear HC6
      try clear c1
      try clear c2
      try clear p2
      try clear c4
      try clear c4b0
      try clear c4b1
      try clear p6
      try clear c9
      try clear c9b0
      try clear c9b1
      try clear c10
      try clear c10b0
      obtain ⟨kq, x30_5, rfl, HA, HJ5, HB⟩ := hcut
      cases kq with
      | zero => exact absurd HA.out (by simp [vinculumref27_Badness.j0])
      | succ kj5 =>
        have H := HA.out
        clear HA
        simp only [vinculumref27_Badness.j0] at H
        by_cases c13 : x30_5 = true
        · subst c13
          have H1 : (some (0, 0)) = some (r1, r2) := by rw [if_pos rfl] at H; exact H
          clear H
          have H := H1
          clear H1
          simp only [Option.some.injEq, Prod.mk.injEq] at H
          obtain ⟨rfl, rfl⟩ := H
          go_wp2
          go_ret2
          exact ⟨by first | rfl | (simp [errW_none, errW_some] <;> rfl) | (simp [*, errW_none, errW_some] <;> rfl), by repeat (first | (with_reducible first | exact HB.out | apply below_alloc | apply pw_below_drewN | apply below_drew1) | exact HB.out)⟩
        · replace c13 := Bool.eq_false_iff.mpr c13
          subst c13
          have H1 : ((vinculumref27_Stretch.f kj5 l0 0).bind fun t216 => (if (wrap64 (a1 - t214)) < 0 then ((vinculumref27_Shrink.f kj5 l0).bind fun t217 => (vinculumref27_Badness.j1 kj5 (wrap64 (a1 - t214)) t217)) else (vinculumref27_Badness.j1 kj5 (wrap64 (a1 - t214)) t216))) = some (r1, r2) := by rw [if_neg (show ¬ (false = true) by decide)] at H; exact H
          clear H
          have H := H1
          clear H1
          replace H := Option.bind_eq_some_iff.mp H
          obtain ⟨t216, A140, H⟩ := H
          replace H : (if (wrap64 (a1 - t214)) < 0 then ((vinculumref27_Shrink.f kj5 l0).bind fun t217 => (vinculumref27_Badness.j1 kj5 (wrap64 (a1 - t214)) t217)) else (vinculumref27_Badness.j1 kj5 (wrap64 (a1 - t214)) t216)) = some (r1, r2) := H
          have A14 := Aside0.mk A140
          clear A140
          have HC15 := Aside0.mk H
          clear H
          go_upto_if 34 with (first | ((with_reducible refine gate_callee (f := 19) rfl ?_); refine goesL_ (some 32) rfl rfl Try.func19 (by kernel_rfl) rfl #[.slice A0 l0.length c0, .int .i64 0] rfl (by (try simp only [List.map_toArray, List.map_cons, List.map_nil]); first | done | rfl | (simp only [List.length_drop, List.length_take]; rfl)) ?_; (with_reducible refine (vinculumref27_Stretch.calls kj5 _ _ l0 0 t216 _ ?side1 ?side2 A14.out).mono ?_); (case side1 => repeat (first | exact (Kd.C_below HR0.out HB.out) | (with_reducible refine Kd.C_alloc ?_ _) | (with_reducible refine Kd.C_drewN ?_ _) | (with_reducible refine Kd.C_drew ?_))); (case side2 => exact HC0.out); rintro e w16 ⟨rfl, hb⟩; refine ⟨_, rfl, ?_⟩; have n0_ := Aside0.mk (below_step (by repeat (first | (with_reducible first | exact HB.out | apply below_alloc | apply pw_below_drewN | apply below_drew1) | exact HB.out)) hb); clear HB; have HB := n0_; clear n0_; (try clear hb); (try clear hb2); (try clear hk); (try clear hi)))
          (try simp only [Act.put, List.setIfInBounds_toArray, List.set_cons_zero, List.set_cons_succ])
          go_cut [8] (fun v8 wc => ∃ (kq : Nat) (x8_14 : Int), v8 = .int .i64 x8_14 ∧ Aside0 (vinculumref27_Badness.j1 kq (wrap64 (a1 - t214)) x8_14 = some (r1, r2)) ∧ Aside0 (kq ≤ kj5) ∧ Aside0 (Below w.heap.size w wc))
          case first =>
            have H := HC15.out
            clear HC15
            by_cases c17 : (wrap64 (a1 - t214)) < 0
            · rw [if_pos c17] at H
              have c17b0 : decide ((wrap64 (a1 - t214)) < 0) = true := decide_eq_true c17
              clear c17
              (first | rw [c17b0] | (simp only [i64_w, i32_w]; rw [c17b0]) | skip)
              replace H := Option.bind_eq_some_iff.mp H
              obtain ⟨t217, A180, H⟩ := H
              replace H : (vinculumref27_Badness.j1 kj5 (wrap64 (a1 - t214)) t217) = some (r1, r2) := H
              have A18 := Aside0.mk A180
              clear A180
              have H' := Aside0.mk H
              clear H
              go_wp2_with (first | ((with_reducible refine gate_callee (f := 21) rfl ?_); refine goesL_ (some 36) rfl rfl Try.func21 (by kernel_rfl) rfl #[.slice A0 l0.length c0] rfl (by (try simp only [List.map_toArray, List.map_cons, List.map_nil]); first | done | rfl | (simp only [List.length_drop, List.length_take]; rfl)) ?_; (with_reducible refine (vinculumref27_Shrink.calls kj5 _ _ l0 t217 _ ?side1 ?side2 A18.out).mono ?_); (case side1 => repeat (first | exact (Kd.C_below HR0.out HB.out) | (with_reducible refine Kd.C_alloc ?_ _) | (with_reducible refine Kd.C_drewN ?_ _) | (with_reducible refine Kd.C_drew ?_))); (case side2 => exact HC0.out); rintro e w19 ⟨rfl, hb⟩; refine ⟨_, rfl, ?_⟩; have n0_ := Aside0.mk (below_step (by repeat (first | (with_reducible first | exact HB.out | apply below_alloc | apply pw_below_drewN | apply below_drew1) | exact HB.out)) hb); clear HB; have HB := n0_; clear n0_; (try clear hb); (try clear hb2); (try clear hk); (try clear hi)))
              go_meet
              case rel => exact ⟨_, (t217), (by first | rfl | (simp; done) | (simp [*]; done)), H', ⟨by have := HJ5.out; first | omega | exact Nat.le_refl _⟩, ⟨by repeat (first | (with_reducible first | exact HB.out | apply below_alloc | apply pw_below_drewN | apply below_drew1) | exact HB.out)⟩⟩
            · rw [if_neg c17] at H
              have c17b0 : decide ((wrap64 (a1 - t214)) < 0) = false := decide_eq_false c17
              clear c17
              (first | rw [c17b0] | (simp only [i64_w, i32_w]; rw [c17b0]) | skip)
              have H' := Aside0.mk H
              clear H
              go_wp2
              go_meet
              case rel => exact ⟨_, (t216), (by first | rfl | (simp; done) | (simp [*]; done)), H', ⟨by have := HJ5.out; first | omega | exact Nat.le_refl _⟩, ⟨by repeat (first | (with_reducible first | exact HB.out | apply below_alloc | apply pw_below_drewN | apply below_drew1) | exact HB.out)⟩⟩
          case rest =>
            clear HC15
            try clear c1
            try clear c2
            try clear p2
            try clear c4
            try clear c4b0
            try clear c4b1
            try clear p6
            try clear c9
            try clear c9b0
            try clear c9b1
            try clear c10
            try clear c10b0
            try clear c13
            try clear c17
            try clear c17b0
            try clear c19
            try clear p2
            try clear p6
            obtain ⟨kq, x8_14, rfl, HA, HJ14, HB⟩ := hcut
            cases kq with
            | zero => exact absurd HA.out (by simp [vinculumref27_Badness.j1])
            | succ kj14 =>
              have H := HA.out
              clear HA
              simp only [vinculumref27_Badness.j1] at H
              by_cases c20 : x8_14 = 0
              · rw [if_pos c20] at H
                have c20b0 : (x8_14 == 0) = true := beq_iff_eq.mpr c20
                have c20b1 : (x8_14 != 0) = false := bne_eq_false_iff_eq.mpr c20
                clear c20
                simp only [Option.some.injEq, Prod.mk.injEq] at H
                obtain ⟨rfl, rfl⟩ := H
                go_wp2
                go_ret2
                exact ⟨by first | rfl | (simp [errW_none, errW_some] <;> rfl) | (simp [*, errW_none, errW_some] <;> rfl), by repeat (first | (with_reducible first | exact HB.out | apply below_alloc | apply pw_below_drewN | apply below_drew1) | exact HB.out)⟩
              · rw [if_neg c20] at H
                have c20b0 : (x8_14 == 0) = false := beq_eq_false_iff_ne.mpr c20
                have c20b1 : (x8_14 != 0) = true := bne_iff_ne.mpr c20
                by_cases c21 : (wrap64 (a1 - t214)) < (wrap64 (-x8_14))
                · rw [if_pos c21] at H
                  have c21b0 : decide ((wrap64 (a1 - t214)) < (wrap64 (-x8_14))) = true := decide_eq_true c21
                  clear c21
                  simp only [Option.some.injEq, Prod.mk.injEq] at H
                  obtain ⟨rfl, rfl⟩ := H
                  go_wp2
                  go_ret2
                  exact ⟨by first | rfl | (simp [errW_none, errW_some] <;> rfl) | (simp [*, errW_none, errW_some] <;> rfl), by repeat (first | (with_reducible first | exact HB.out | apply below_alloc | apply pw_below_drewN | apply below_drew1) | exact HB.out)⟩
                · rw [if_neg c21] at H
                  have c21b0 : decide ((wrap64 (a1 - t214)) < (wrap64 (-x8_14))) = false := decide_eq_false c21
                  clear c21
                  obtain ⟨ji22, hji22⟩ : ∃ j_ : Int, (mx (wrap64 (a1 - t214)) (wrap64 (-(wrap64 (a1 - t214))))) = j_ := ⟨_, rfl⟩
                  replace H : (if (wrap64 (Int.tdiv (wrap64 (100 * (ji22))) x8_14)) > 1000 then (some (10000, 0)) else (some (mn (wrap64 (Int.tdiv (wrap64 ((wrap64 ((wrap64 (Int.tdiv (wrap64 (100 * (ji22))) x8_14)) * (wrap64 (Int.tdiv (wrap64 (100 * (ji22))) x8_14)))) * (wrap64 (Int.tdiv (wrap64 (100 * (ji22))) x8_14)))) 10000)) 10000, 0))) = some (r1, r2) := by first | (rw [hji22] at H; exact H) | (simp only [hji22] at H ⊢; exact H)
                  have hji22_ : (if (wrap64 (a1 - t214)) < (wrap64 (-(wrap64 (a1 - t214)))) then (wrap64 (-(wrap64 (a1 - t214)))) else (wrap64 (a1 - t214))) = ji22 := hji22
                  by_cases c23 : (wrap64 (Int.tdiv (wrap64 (100 * (ji22))) x8_14)) > 1000
                  · rw [if_pos c23] at H
                    have c23b0 : decide (1000 < (wrap64 (Int.tdiv (wrap64 (100 * (ji22))) x8_14))) = true := decide_eq_true c23
                    clear c23
                    simp only [Option.some.injEq, Prod.mk.injEq] at H
                    obtain ⟨rfl, rfl⟩ := H
                    go_wp2
                    go_ret2
                    exact ⟨by first | rfl | (simp [errW_none, errW_some] <;> rfl) | (simp only [← hji22]; first | rfl | (simp [errW_none, errW_some] <;> rfl)) | (simp [*, errW_none, errW_some] <;> rfl), by repeat (first | (with_reducible first | exact HB.out | apply below_alloc | apply pw_below_drewN | apply below_drew1) | exact HB.out)⟩
                  · rw [if_neg c23] at H
                    have c23b0 : decide (1000 < (wrap64 (Int.tdiv (wrap64 (100 * (ji22))) x8_14))) = false := decide_eq_false c23
                    clear c23
                    obtain ⟨ji24, hji24⟩ : ∃ j_ : Int, (mn (wrap64 (Int.tdiv (wrap64 ((wrap64 ((wrap64 (Int.tdiv (wrap64 (100 * (ji22))) x8_14)) * (wrap64 (Int.tdiv (wrap64 (100 * (ji22))) x8_14)))) * (wrap64 (Int.tdiv (wrap64 (100 * (ji22))) x8_14)))) 10000)) 10000) = j_ := ⟨_, rfl⟩
                    replace H : (some (ji24, 0)) = some (r1, r2) := by first | (rw [hji24] at H; exact H) | (simp only [hji24] at H ⊢; exact H)
                    have hji24_ : (if 10000 < (wrap64 (Int.tdiv (wrap64 ((wrap64 ((wrap64 (Int.tdiv (wrap64 (100 * (ji22))) x8_14)) * (wrap64 (Int.tdiv (wrap64 (100 * (ji22))) x8_14)))) * (wrap64 (Int.tdiv (wrap64 (100 * (ji22))) x8_14)))) 10000)) then 10000 else (wrap64 (Int.tdiv (wrap64 ((wrap64 ((wrap64 (Int.tdiv (wrap64 (100 * (ji22))) x8_14)) * (wrap64 (Int.tdiv (wrap64 (100 * (ji22))) x8_14)))) * (wrap64 (Int.tdiv (wrap64 (100 * (ji22))) x8_14)))) 10000))) = ji24 := hji24
                    simp only [Option.some.injEq, Prod.mk.injEq] at H
                    obtain ⟨rfl, rfl⟩ := H
                    go_wp2
                    go_ret2
                    exact ⟨by first | rfl | (simp [errW_none, errW_some] <;> rfl) | (simp only [← hji22, ← hji24]; first | rfl | (simp [errW_none, errW_some] <;> rfl)) | (simp [*, errW_none, errW_some] <;> rfl), by repeat (first | (with_reducible first | exact HB.out | apply below_alloc | apply pw_below_drewN | apply below_drew1) | exact HB.out)⟩
  · rw [if_neg c4] at H
    have c4b0 : (t213 == 0) = false := beq_eq_false_iff_ne.mpr c4
    have c4b1 : (t213 != 0) = true := bne_iff_ne.mpr c4
    simp only [Option.some.injEq, Prod.mk.injEq] at H
    obtain ⟨rfl, rfl⟩ := H
    go_enter Try.func26, Try.ntmps26
    go_wp2_with (first | ((with_reducible refine gate_callee (f := 41) rfl ?_); refine goesL_ (some 12) rfl rfl Try.func41 (by kernel_rfl) rfl #[.slice A0 l0.length c0, .int .i64 a1] rfl (by (try simp only [List.map_toArray, List.map_cons, List.map_nil]); first | done | rfl | (simp only [List.length_drop, List.length_take]; rfl)) ?_; (with_reducible refine (vinculumref27_check.calls k _ _ l0 a1 t213 _ ?side1 ?side2 A3.out).mono ?_); (case side1 => repeat (first | exact HR0.out | (with_reducible refine Kd.C_alloc ?_ _) | (with_reducible refine Kd.C_drewN ?_ _) | (with_reducible refine Kd.C_drew ?_))); (case side2 => exact HC0.out); rintro e w25 ⟨rfl, hb⟩; refine ⟨_, rfl, ?_⟩; have n0_ := Aside0.mk (below_step (by repeat (first | (with_reducible first | exact HB.out | apply below_alloc | apply pw_below_drewN | apply below_drew1) | exact HB.out)) hb); clear HB; have HB := n0_; clear n0_; (try clear hb); (try clear hb2); (try clear hk); (try clear hi)))
    go_ret2
    exact ⟨by first | rfl | (simp [errW_none, errW_some] <;> rfl) | (simp [*, errW_none, errW_some] <;> rfl), by repeat (first | (with_reducible first | exact HB.out | apply below_alloc | apply pw_below_drewN | apply below_drew1) | exact HB.out)⟩

end Go.Proofs.Ytojcnndkdopahaa.P
