/- Written by wip/tool/hprint.py (the kit's print.py with hand-proved contracts set in): contracts of the functions that the statements of this seat reach, without conditions beyond those named in each theorem. -/
import Derived.Test.YtojcnndkdopahaaP0
import Derived.Test.YtojcnndkdopahaaP7
import Derived.Test.YtojcnndkdopahaaP9
import Derived.Test.YtojcnndkdopahaaP11
import Derived.Test.YtojcnndkdopahaaP12
import Derived.Test.YtojcnndkdopahaaP13
namespace Go.Proofs.Ytojcnndkdopahaa.P
open Go.RowKit Go.Proofs.YtojcnndkdopahaaW.PrintWords Go.Proofs.YtojcnndkdopahaaW.PrintLast Go.Proofs.YtojcnndkdopahaaW.PrintMore
attribute [local go_sem] max2_int min2_int max_two min_two max_three min_three max_four min_four   -- for this text's walks alone
set_option linter.unusedVariables false
set_option linter.unusedSimpArgs false

/-! ### glue_Badness: function 25 -/
def glue_Badness.j0 : Nat → Int → Int → Option (Int × Int)
  | 0, _, _ => none
  | k + 1, x7, x8 => if x7 = 0 then (some (0, 0)) else (if x8 = 0 then (some (10000, 0)) else (if x7 < (wrap64 (-x8)) then (some (10001, 0)) else (if (wrap64 (Int.tdiv (wrap64 (100 * (mx x7 (wrap64 (-x7))))) x8)) > 1000 then (some (10000, 0)) else (some (mn 10000 (wrap64 (Int.tdiv (wrap64 ((wrap64 ((wrap64 (Int.tdiv (wrap64 (100 * (mx x7 (wrap64 (-x7))))) x8)) * (wrap64 (Int.tdiv (wrap64 (100 * (mx x7 (wrap64 (-x7))))) x8)))) * (wrap64 (Int.tdiv (wrap64 (100 * (mx x7 (wrap64 (-x7))))) x8)))) 10000)), 0)))))
def glue_Badness.f (k : Nat) (l0 : List (S36)) (a1 : Int) : Option (Int × Int) := (glue_check.f k l0 a1).bind fun t108 => (if t108 = 0 then ((glue_Natural.f k l0).bind fun t109 => ((glue_Shrink.f k l0).bind fun t110 => (if (wrap64 (a1 - t109)) > 0 then ((glue_order.f k l0).bind fun t111 => (if t111 > 0 then (some (0, 0)) else ((glue_Stretch.f k l0 0).bind fun t112 => (glue_Badness.j0 k (wrap64 (a1 - t109)) t112)))) else (glue_Badness.j0 k (wrap64 (a1 - t109)) t110)))) else (some (0, t108)))
theorem glue_Badness.mono_l : ∀ k, (∀ y0 y1, LeO (glue_Badness.j0 k y0 y1) (glue_Badness.j0 (k + 1) y0 y1))
  | 0 => fun _ _ r h => by simp [glue_Badness.j0] at h
  | k + 1 => by
    have ih0 := glue_Badness.mono_l k
    · intro y0 y1
      unfold glue_Badness.j0
      repeat' first
      | (with_reducible exact ih0 _ _)
      | (with_reducible exact glue_Natural.mono _ _)
      | (with_reducible exact glue_Shrink.mono _ _)
      | (with_reducible exact glue_Stretch.mono _ _ _)
      | (with_reducible exact glue_check.mono _ _ _)
      | (with_reducible exact glue_order.mono _ _)
      | (with_reducible exact LeO.refl _)
      | (with_reducible exact LeO.none _)
      | (with_reducible refine LeO.ite ?_ ?_)
      | (with_reducible refine LeO.bind ?_ (fun _ => ?_))
      | exact ih0 _ _
      | exact glue_Natural.mono _ _
      | exact glue_Shrink.mono _ _
      | exact glue_Stretch.mono _ _ _
      | exact glue_check.mono _ _ _
      | exact glue_order.mono _ _
      | exact LeO.none _
      | refine LeO.ite ?_ ?_
      | refine LeO.bind ?_ (fun _ => ?_)
theorem glue_Badness.mono : ∀ a0 a1 k, LeO (glue_Badness.f k a0 a1) (glue_Badness.f (k + 1) a0 a1) := by
  intro a0 a1 k
  have ih0 := glue_Badness.mono_l k
  unfold glue_Badness.f
  repeat' first
      | (with_reducible exact ih0 _ _)
      | (with_reducible exact glue_Natural.mono _ _)
      | (with_reducible exact glue_Shrink.mono _ _)
      | (with_reducible exact glue_Stretch.mono _ _ _)
      | (with_reducible exact glue_check.mono _ _ _)
      | (with_reducible exact glue_order.mono _ _)
      | (with_reducible exact LeO.refl _)
      | (with_reducible exact LeO.none _)
      | (with_reducible refine LeO.ite ?_ ?_)
      | (with_reducible refine LeO.bind ?_ (fun _ => ?_))
      | exact ih0 _ _
      | exact glue_Natural.mono _ _
      | exact glue_Shrink.mono _ _
      | exact glue_Stretch.mono _ _ _
      | exact glue_check.mono _ _ _
      | exact glue_order.mono _ _
      | exact LeO.none _
      | refine LeO.ite ?_ ?_
      | refine LeO.bind ?_ (fun _ => ?_)
set_option maxHeartbeats 8000000 in
set_option maxRecDepth 100000 in
theorem glue_Badness.calls (k : Nat) (A0 : Option Addr) (c0 : Nat) (l0 : List (S36)) (a1 : Int) (r1 : Int) (r2 : Int) (w : World) (hr0 : Kd.C k36 w A0 l0.length l0) (hc0 : l0.length ≤ c0) (h : glue_Badness.f k l0 a1 = some (r1, r2)) :
    Calls Try.prog 25 #[.slice A0 l0.length c0, .int .i64 a1] w fun e w' => e = .returned (.tuple #[.int .i64 r1, .int .i64 r2]) ∧ Below w.heap.size w w' := by
  have HR0 := Aside0.mk hr0
  have HC0 := Aside0.mk hc0
  clear hr0 hc0
  have HB := Aside0.mk (Below.refl w.heap.size w)
  have H : ((glue_check.f k l0 a1).bind fun t108 => (if t108 = 0 then ((glue_Natural.f k l0).bind fun t109 => ((glue_Shrink.f k l0).bind fun t110 => (if (wrap64 (a1 - t109)) > 0 then ((glue_order.f k l0).bind fun t111 => (if t111 > 0 then (some (0, 0)) else ((glue_Stretch.f k l0 0).bind fun t112 => (glue_Badness.j0 k (wrap64 (a1 - t109)) t112)))) else (glue_Badness.j0 k (wrap64 (a1 - t109)) t110)))) else (some (0, t108)))) = some (r1, r2) := h
  clear h
  replace H := Option.bind_eq_some_iff.mp H
  obtain ⟨t108, A30, H⟩ := H
  replace H : (if t108 = 0 then ((glue_Natural.f k l0).bind fun t109 => ((glue_Shrink.f k l0).bind fun t110 => (if (wrap64 (a1 - t109)) > 0 then ((glue_order.f k l0).bind fun t111 => (if t111 > 0 then (some (0, 0)) else ((glue_Stretch.f k l0 0).bind fun t112 => (glue_Badness.j0 k (wrap64 (a1 - t109)) t112)))) else (glue_Badness.j0 k (wrap64 (a1 - t109)) t110)))) else (some (0, t108))) = some (r1, r2) := H
  have A3 := Aside0.mk A30
  clear A30
  by_cases c4 : t108 = 0
  · rw [if_pos c4] at H
    have c4b0 : (t108 == 0) = true := beq_iff_eq.mpr c4
    have c4b1 : (t108 != 0) = false := bne_eq_false_iff_eq.mpr c4
    clear c4
    replace H := Option.bind_eq_some_iff.mp H
    obtain ⟨t109, A50, H⟩ := H
    replace H : ((glue_Shrink.f k l0).bind fun t110 => (if (wrap64 (a1 - t109)) > 0 then ((glue_order.f k l0).bind fun t111 => (if t111 > 0 then (some (0, 0)) else ((glue_Stretch.f k l0 0).bind fun t112 => (glue_Badness.j0 k (wrap64 (a1 - t109)) t112)))) else (glue_Badness.j0 k (wrap64 (a1 - t109)) t110))) = some (r1, r2) := H
    have A5 := Aside0.mk A50
    clear A50
    replace H := Option.bind_eq_some_iff.mp H
    obtain ⟨t110, A60, H⟩ := H
    replace H : (if (wrap64 (a1 - t109)) > 0 then ((glue_order.f k l0).bind fun t111 => (if t111 > 0 then (some (0, 0)) else ((glue_Stretch.f k l0 0).bind fun t112 => (glue_Badness.j0 k (wrap64 (a1 - t109)) t112)))) else (glue_Badness.j0 k (wrap64 (a1 - t109)) t110)) = some (r1, r2) := H
    have A6 := Aside0.mk A60
    clear A60
    have HC7 := Aside0.mk H
    clear H
    go_enter Try.func25, Try.ntmps25
    go_upto_if 23 with (first | ((with_reducible refine gate_callee (f := 38) rfl ?_); refine goesL_ (some 12) rfl rfl Try.func38 (by kernel_rfl) rfl #[.slice A0 l0.length c0, .int .i64 a1] rfl (by (try simp only [List.map_toArray, List.map_cons, List.map_nil]); first | done | rfl | (simp only [List.length_drop, List.length_take]; rfl)) ?_; (with_reducible refine (glue_check.calls k _ _ l0 a1 t108 _ ?side1 ?side2 A3.out).mono ?_); (case side1 => repeat (first | exact HR0.out | (with_reducible refine Kd.C_alloc ?_ _) | (with_reducible refine Kd.C_drewN ?_ _) | (with_reducible refine Kd.C_drew ?_))); (case side2 => exact HC0.out); rintro e w8 ⟨rfl, hb⟩; refine ⟨_, rfl, ?_⟩; have n0_ := Aside0.mk (below_step (by repeat (first | (with_reducible first | exact HB.out | apply below_alloc | apply pw_below_drewN | apply below_drew1) | exact HB.out)) hb); clear HB; have HB := n0_; clear n0_; (try clear hb); (try clear hb2); (try clear hk); (try clear hi)) | ((with_reducible refine gate_callee (f := 16) rfl ?_); refine goesL_ (some 18) rfl rfl Try.func16 (by kernel_rfl) rfl #[.slice A0 l0.length c0] rfl (by (try simp only [List.map_toArray, List.map_cons, List.map_nil]); first | done | rfl | (simp only [List.length_drop, List.length_take]; rfl)) ?_; (with_reducible refine (glue_Natural.calls k _ _ l0 t109 _ ?side1 ?side2 A5.out).mono ?_); (case side1 => repeat (first | exact (Kd.C_below HR0.out HB.out) | (with_reducible refine Kd.C_alloc ?_ _) | (with_reducible refine Kd.C_drewN ?_ _) | (with_reducible refine Kd.C_drew ?_))); (case side2 => exact HC0.out); rintro e w9 ⟨rfl, hb⟩; refine ⟨_, rfl, ?_⟩; have n0_ := Aside0.mk (below_step (by repeat (first | (with_reducible first | exact HB.out | apply below_alloc | apply pw_below_drewN | apply below_drew1) | exact HB.out)) hb); clear HB; have HB := n0_; clear n0_; (try clear hb); (try clear hb2); (try clear hk); (try clear hi)) | ((with_reducible refine gate_callee (f := 20) rfl ?_); refine goesL_ (some 21) rfl rfl Try.func20 (by kernel_rfl) rfl #[.slice A0 l0.length c0] rfl (by (try simp only [List.map_toArray, List.map_cons, List.map_nil]); first | done | rfl | (simp only [List.length_drop, List.length_take]; rfl)) ?_; (with_reducible refine (glue_Shrink.calls k _ _ l0 t110 _ ?side1 ?side2 A6.out).mono ?_); (case side1 => repeat (first | exact (Kd.C_below HR0.out HB.out) | (with_reducible refine Kd.C_alloc ?_ _) | (with_reducible refine Kd.C_drewN ?_ _) | (with_reducible refine Kd.C_drew ?_))); (case side2 => exact HC0.out); rintro e w10 ⟨rfl, hb⟩; refine ⟨_, rfl, ?_⟩; have n0_ := Aside0.mk (below_step (by repeat (first | (with_reducible first | exact HB.out | apply below_alloc | apply pw_below_drewN | apply below_drew1) | exact HB.out)) hb); clear HB; have HB := n0_; clear n0_; (try clear hb); (try clear hb2); (try clear hk); (try clear hi)))
    (try simp only [Act.put, List.setIfInBounds_toArray, List.set_cons_zero, List.set_cons_succ])
    go_cut [8] (fun v8 wc => ∃ (kq : Nat) (x8_6 : Int), v8 = .int .i64 x8_6 ∧ Aside0 (glue_Badness.j0 kq (wrap64 (a1 - t109)) x8_6 = some (r1, r2)) ∧ Aside0 (kq ≤ k) ∧ Aside0 (Below w.heap.size w wc))
    case first =>
      have H := HC7.out
      clear HC7
      by_cases c11 : (wrap64 (a1 - t109)) > 0
      · rw [if_pos c11] at H
        have c11b0 : decide (0 < (wrap64 (a1 - t109))) = true := decide_eq_true c11
        clear c11
        (first | rw [c11b0] | (simp only [i64_w, i32_w]; rw [c11b0]) | skip)
        replace H := Option.bind_eq_some_iff.mp H
        obtain ⟨t111, A120, H⟩ := H
        replace H : (if t111 > 0 then (some (0, 0)) else ((glue_Stretch.f k l0 0).bind fun t112 => (glue_Badness.j0 k (wrap64 (a1 - t109)) t112))) = some (r1, r2) := H
        have A12 := Aside0.mk A120
        clear A120
        by_cases c13 : t111 > 0
        · rw [if_pos c13] at H
          have c13b0 : decide (0 < t111) = true := decide_eq_true c13
          clear c13
          simp only [Option.some.injEq, Prod.mk.injEq] at H
          obtain ⟨rfl, rfl⟩ := H
          go_wp2_with (first | ((with_reducible refine gate_callee (f := 39) rfl ?_); refine goesL_ (some 25) rfl rfl Try.func39 (by kernel_rfl) rfl #[.slice A0 l0.length c0] rfl (by (try simp only [List.map_toArray, List.map_cons, List.map_nil]); first | done | rfl | (simp only [List.length_drop, List.length_take]; rfl)) ?_; (with_reducible refine (glue_order.calls k _ _ l0 t111 _ ?side1 ?side2 A12.out).mono ?_); (case side1 => repeat (first | exact (Kd.C_below HR0.out HB.out) | (with_reducible refine Kd.C_alloc ?_ _) | (with_reducible refine Kd.C_drewN ?_ _) | (with_reducible refine Kd.C_drew ?_))); (case side2 => exact HC0.out); rintro e w14 ⟨rfl, hb⟩; refine ⟨_, rfl, ?_⟩; have n0_ := Aside0.mk (below_step (by repeat (first | (with_reducible first | exact HB.out | apply below_alloc | apply pw_below_drewN | apply below_drew1) | exact HB.out)) hb); clear HB; have HB := n0_; clear n0_; (try clear hb); (try clear hb2); (try clear hk); (try clear hi)))
          go_ret2
          exact ⟨by first | rfl | (simp [errW_none, errW_some] <;> rfl) | (simp [*, errW_none, errW_some] <;> rfl), by repeat (first | (with_reducible first | exact HB.out | apply below_alloc | apply pw_below_drewN | apply below_drew1) | exact HB.out)⟩
        · rw [if_neg c13] at H
          have c13b0 : decide (0 < t111) = false := decide_eq_false c13
          clear c13
          replace H := Option.bind_eq_some_iff.mp H
          obtain ⟨t112, A150, H⟩ := H
          replace H : (glue_Badness.j0 k (wrap64 (a1 - t109)) t112) = some (r1, r2) := H
          have A15 := Aside0.mk A150
          clear A150
          have H' := Aside0.mk H
          clear H
          go_wp2_with (first | ((with_reducible refine gate_callee (f := 39) rfl ?_); refine goesL_ (some 25) rfl rfl Try.func39 (by kernel_rfl) rfl #[.slice A0 l0.length c0] rfl (by (try simp only [List.map_toArray, List.map_cons, List.map_nil]); first | done | rfl | (simp only [List.length_drop, List.length_take]; rfl)) ?_; (with_reducible refine (glue_order.calls k _ _ l0 t111 _ ?side1 ?side2 A12.out).mono ?_); (case side1 => repeat (first | exact (Kd.C_below HR0.out HB.out) | (with_reducible refine Kd.C_alloc ?_ _) | (with_reducible refine Kd.C_drewN ?_ _) | (with_reducible refine Kd.C_drew ?_))); (case side2 => exact HC0.out); rintro e w16 ⟨rfl, hb⟩; refine ⟨_, rfl, ?_⟩; have n0_ := Aside0.mk (below_step (by repeat (first | (with_reducible first | exact HB.out | apply below_alloc | apply pw_below_drewN | apply below_drew1) | exact HB.out)) hb); clear HB; have HB := n0_; clear n0_; (try clear hb); (try clear hb2); (try clear hk); (try clear hi)) | ((with_reducible refine gate_callee (f := 18) rfl ?_); refine goesL_ (some 28) rfl rfl Try.func18 (by kernel_rfl) rfl #[.slice A0 l0.length c0, .int .i64 0] rfl (by (try simp only [List.map_toArray, List.map_cons, List.map_nil]); first | done | rfl | (simp only [List.length_drop, List.length_take]; rfl)) ?_; (with_reducible refine (glue_Stretch.calls k _ _ l0 0 t112 _ ?side1 ?side2 A15.out).mono ?_); (case side1 => repeat (first | exact (Kd.C_below HR0.out HB.out) | (with_reducible refine Kd.C_alloc ?_ _) | (with_reducible refine Kd.C_drewN ?_ _) | (with_reducible refine Kd.C_drew ?_))); (case side2 => exact HC0.out); rintro e w17 ⟨rfl, hb⟩; refine ⟨_, rfl, ?_⟩; have n0_ := Aside0.mk (below_step (by repeat (first | (with_reducible first | exact HB.out | apply below_alloc | apply pw_below_drewN | apply below_drew1) | exact HB.out)) hb); clear HB; have HB := n0_; clear n0_; (try clear hb); (try clear hb2); (try clear hk); (try clear hi)))
          go_meet
          case rel => exact ⟨_, (t112), (by first | rfl | (simp; done) | (simp [*]; done)), H', ⟨by first | omega | exact Nat.le_refl _⟩, ⟨by repeat (first | (with_reducible first | exact HB.out | apply below_alloc | apply pw_below_drewN | apply below_drew1) | exact HB.out)⟩⟩
      · rw [if_neg c11] at H
        have c11b0 : decide (0 < (wrap64 (a1 - t109))) = false := decide_eq_false c11
        clear c11
        (first | rw [c11b0] | (simp only [i64_w, i32_w]; rw [c11b0]) | skip)
        have H' := Aside0.mk H
        clear H
        go_wp2
        go_meet
        case rel => exact ⟨_, (t110), (by first | rfl | (simp; done) | (simp [*]; done)), H', ⟨by first | omega | exact Nat.le_refl _⟩, ⟨by repeat (first | (with_reducible first | exact HB.out | apply below_alloc | apply pw_below_drewN | apply below_drew1) | exact HB.out)⟩⟩
    case rest =>
      clear HC7
      try clear c1
      try clear c2
      try clear p2
      try clear c3
      try clear c4
      try clear c4b0
      try clear c4b1
      try clear p6
      try clear c11
      try clear c11b0
      try clear c13
      try clear c13b0
      try clear c16
      obtain ⟨kq, x8_6, rfl, HA, HJ6, HB⟩ := hcut
      cases kq with
      | zero => exact absurd HA.out (by simp [glue_Badness.j0])
      | succ kj6 =>
        have H := HA.out
        clear HA
        simp only [glue_Badness.j0] at H
        by_cases c18 : (wrap64 (a1 - t109)) = 0
        · rw [if_pos c18] at H
          have c18b0 : ((wrap64 (a1 - t109)) == 0) = true := beq_iff_eq.mpr c18
          have c18b1 : ((wrap64 (a1 - t109)) != 0) = false := bne_eq_false_iff_eq.mpr c18
          clear c18
          simp only [Option.some.injEq, Prod.mk.injEq] at H
          obtain ⟨rfl, rfl⟩ := H
          go_wp2
          go_ret2
          exact ⟨by first | rfl | (simp [errW_none, errW_some] <;> rfl) | (simp [*, errW_none, errW_some] <;> rfl), by repeat (first | (with_reducible first | exact HB.out | apply below_alloc | apply pw_below_drewN | apply below_drew1) | exact HB.out)⟩
        · rw [if_neg c18] at H
          have c18b0 : ((wrap64 (a1 - t109)) == 0) = false := beq_eq_false_iff_ne.mpr c18
          have c18b1 : ((wrap64 (a1 - t109)) != 0) = true := bne_iff_ne.mpr c18
          by_cases c19 : x8_6 = 0
          · rw [if_pos c19] at H
            have c19b0 : (x8_6 == 0) = true := beq_iff_eq.mpr c19
            have c19b1 : (x8_6 != 0) = false := bne_eq_false_iff_eq.mpr c19
            clear c19
            simp only [Option.some.injEq, Prod.mk.injEq] at H
            obtain ⟨rfl, rfl⟩ := H
            go_wp2
            go_ret2
            exact ⟨by first | rfl | (simp [errW_none, errW_some] <;> rfl) | (simp [*, errW_none, errW_some] <;> rfl), by repeat (first | (with_reducible first | exact HB.out | apply below_alloc | apply pw_below_drewN | apply below_drew1) | exact HB.out)⟩
          · rw [if_neg c19] at H
            have c19b0 : (x8_6 == 0) = false := beq_eq_false_iff_ne.mpr c19
            have c19b1 : (x8_6 != 0) = true := bne_iff_ne.mpr c19
            by_cases c20 : (wrap64 (a1 - t109)) < (wrap64 (-x8_6))
            · rw [if_pos c20] at H
              have c20b0 : decide ((wrap64 (a1 - t109)) < (wrap64 (-x8_6))) = true := decide_eq_true c20
              clear c20
              simp only [Option.some.injEq, Prod.mk.injEq] at H
              obtain ⟨rfl, rfl⟩ := H
              go_wp2
              go_ret2
              exact ⟨by first | rfl | (simp [errW_none, errW_some] <;> rfl) | (simp [*, errW_none, errW_some] <;> rfl), by repeat (first | (with_reducible first | exact HB.out | apply below_alloc | apply pw_below_drewN | apply below_drew1) | exact HB.out)⟩
            · rw [if_neg c20] at H
              have c20b0 : decide ((wrap64 (a1 - t109)) < (wrap64 (-x8_6))) = false := decide_eq_false c20
              clear c20
              obtain ⟨ji21, hji21⟩ : ∃ j_ : Int, (mx (wrap64 (a1 - t109)) (wrap64 (-(wrap64 (a1 - t109))))) = j_ := ⟨_, rfl⟩
              replace H : (if (wrap64 (Int.tdiv (wrap64 (100 * (ji21))) x8_6)) > 1000 then (some (10000, 0)) else (some (mn 10000 (wrap64 (Int.tdiv (wrap64 ((wrap64 ((wrap64 (Int.tdiv (wrap64 (100 * (ji21))) x8_6)) * (wrap64 (Int.tdiv (wrap64 (100 * (ji21))) x8_6)))) * (wrap64 (Int.tdiv (wrap64 (100 * (ji21))) x8_6)))) 10000)), 0))) = some (r1, r2) := by first | (rw [hji21] at H; exact H) | (simp only [hji21] at H ⊢; exact H)
              have hji21_ : (if (wrap64 (a1 - t109)) < (wrap64 (-(wrap64 (a1 - t109)))) then (wrap64 (-(wrap64 (a1 - t109)))) else (wrap64 (a1 - t109))) = ji21 := hji21
              by_cases c22 : (wrap64 (Int.tdiv (wrap64 (100 * (ji21))) x8_6)) > 1000
              · rw [if_pos c22] at H
                have c22b0 : decide (1000 < (wrap64 (Int.tdiv (wrap64 (100 * (ji21))) x8_6))) = true := decide_eq_true c22
                clear c22
                simp only [Option.some.injEq, Prod.mk.injEq] at H
                obtain ⟨rfl, rfl⟩ := H
                go_wp2
                go_ret2
                exact ⟨by first | rfl | (simp [errW_none, errW_some] <;> rfl) | (simp only [← hji21]; first | rfl | (simp [errW_none, errW_some] <;> rfl)) | (simp [*, errW_none, errW_some] <;> rfl), by repeat (first | (with_reducible first | exact HB.out | apply below_alloc | apply pw_below_drewN | apply below_drew1) | exact HB.out)⟩
              · rw [if_neg c22] at H
                have c22b0 : decide (1000 < (wrap64 (Int.tdiv (wrap64 (100 * (ji21))) x8_6))) = false := decide_eq_false c22
                clear c22
                obtain ⟨ji23, hji23⟩ : ∃ j_ : Int, (mn 10000 (wrap64 (Int.tdiv (wrap64 ((wrap64 ((wrap64 (Int.tdiv (wrap64 (100 * (ji21))) x8_6)) * (wrap64 (Int.tdiv (wrap64 (100 * (ji21))) x8_6)))) * (wrap64 (Int.tdiv (wrap64 (100 * (ji21))) x8_6)))) 10000))) = j_ := ⟨_, rfl⟩
                replace H : (some (ji23, 0)) = some (r1, r2) := by first | (rw [hji23] at H; exact H) | (simp only [hji23] at H ⊢; exact H)
                have hji23_ : (if (wrap64 (Int.tdiv (wrap64 ((wrap64 ((wrap64 (Int.tdiv (wrap64 (100 * (ji21))) x8_6)) * (wrap64 (Int.tdiv (wrap64 (100 * (ji21))) x8_6)))) * (wrap64 (Int.tdiv (wrap64 (100 * (ji21))) x8_6)))) 10000)) < 10000 then (wrap64 (Int.tdiv (wrap64 ((wrap64 ((wrap64 (Int.tdiv (wrap64 (100 * (ji21))) x8_6)) * (wrap64 (Int.tdiv (wrap64 (100 * (ji21))) x8_6)))) * (wrap64 (Int.tdiv (wrap64 (100 * (ji21))) x8_6)))) 10000)) else 10000) = ji23 := hji23
                simp only [Option.some.injEq, Prod.mk.injEq] at H
                obtain ⟨rfl, rfl⟩ := H
                go_wp2
                go_ret2
                exact ⟨by first | rfl | (simp [errW_none, errW_some] <;> rfl) | (simp only [← hji21, ← hji23]; first | rfl | (simp [errW_none, errW_some] <;> rfl)) | (simp [*, errW_none, errW_some] <;> rfl), by repeat (first | (with_reducible first | exact HB.out | apply below_alloc | apply pw_below_drewN | apply below_drew1) | exact HB.out)⟩
  · rw [if_neg c4] at H
    have c4b0 : (t108 == 0) = false := beq_eq_false_iff_ne.mpr c4
    have c4b1 : (t108 != 0) = true := bne_iff_ne.mpr c4
    simp only [Option.some.injEq, Prod.mk.injEq] at H
    obtain ⟨rfl, rfl⟩ := H
    go_enter Try.func25, Try.ntmps25
    go_wp2_with (first | ((with_reducible refine gate_callee (f := 38) rfl ?_); refine goesL_ (some 12) rfl rfl Try.func38 (by kernel_rfl) rfl #[.slice A0 l0.length c0, .int .i64 a1] rfl (by (try simp only [List.map_toArray, List.map_cons, List.map_nil]); first | done | rfl | (simp only [List.length_drop, List.length_take]; rfl)) ?_; (with_reducible refine (glue_check.calls k _ _ l0 a1 t108 _ ?side1 ?side2 A3.out).mono ?_); (case side1 => repeat (first | exact HR0.out | (with_reducible refine Kd.C_alloc ?_ _) | (with_reducible refine Kd.C_drewN ?_ _) | (with_reducible refine Kd.C_drew ?_))); (case side2 => exact HC0.out); rintro e w24 ⟨rfl, hb⟩; refine ⟨_, rfl, ?_⟩; have n0_ := Aside0.mk (below_step (by repeat (first | (with_reducible first | exact HB.out | apply below_alloc | apply pw_below_drewN | apply below_drew1) | exact HB.out)) hb); clear HB; have HB := n0_; clear n0_; (try clear hb); (try clear hb2); (try clear hk); (try clear hi)))
    go_ret2
    exact ⟨by first | rfl | (simp [errW_none, errW_some] <;> rfl) | (simp [*, errW_none, errW_some] <;> rfl), by repeat (first | (with_reducible first | exact HB.out | apply below_alloc | apply pw_below_drewN | apply below_drew1) | exact HB.out)⟩

end Go.Proofs.Ytojcnndkdopahaa.P
