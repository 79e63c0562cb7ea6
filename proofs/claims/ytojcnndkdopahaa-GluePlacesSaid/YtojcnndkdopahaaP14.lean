/- Written by wip/tool/hprint.py (the kit's print.py with hand-proved contracts set in): contracts of the functions that the statements of this seat reach, without conditions beyond those named in each theorem. -/
import Derived.Test.YtojcnndkdopahaaP0
import Derived.Test.YtojcnndkdopahaaP7
import Derived.Test.YtojcnndkdopahaaP8
import Derived.Test.YtojcnndkdopahaaP12
namespace Go.Proofs.Ytojcnndkdopahaa.P
open Go.RowKit Go.Proofs.YtojcnndkdopahaaW.PrintWords Go.Proofs.YtojcnndkdopahaaW.PrintLast Go.Proofs.YtojcnndkdopahaaW.PrintMore
attribute [local go_sem] max2_int min2_int max_two min_two max_three min_three max_four min_four   -- for this text's walks alone
set_option linter.unusedVariables false
set_option linter.unusedSimpArgs false

/-! ### vinculumlaw27_GluePlaces: function 8 -/
mutual
def vinculumlaw27_GluePlaces.j0 : Nat → List (S36) → Int → Int → Bool → Option (Bool)
  | 0, _, _, _, _ => none
  | k + 1, x0, x1, x2, x25 => if x25 = true then (some true) else ((glue_Set.f k x0 x1).bind fun bt256 => ((glue_Set.f k x0 (wrap64 (x1 + (wrap64 (x2))))).bind fun bt261 => (if bt256.2.2 = 0 then (if bt261.2.2 = 0 then (if (bt256.1.length : Int) = (x0.length : Int) then (vinculumlaw27_GluePlaces.j1 k x0 bt256.1 bt261.1 ((bt261.1.length : Int) != (x0.length : Int))) else (vinculumlaw27_GluePlaces.j1 k x0 bt256.1 bt261.1 true)) else (vinculumlaw27_GluePlaces.j1 k x0 bt256.1 bt261.1 true)) else (vinculumlaw27_GluePlaces.j1 k x0 bt256.1 bt261.1 true))))
def vinculumlaw27_GluePlaces.j1 : Nat → List (S36) → List Int → List Int → Bool → Option (Bool)
  | 0, _, _, _, _ => none
  | k + 1, x0, x7, x10, x62 => if x62 = true then (some false) else (vinculumlaw27_GluePlaces.l0 k x0 x7 x10 0 0 0)
def vinculumlaw27_GluePlaces.l0 : Nat → List (S36) → List Int → List Int → Int → Int → Int → Option (Bool)
  | 0, _, _, _, _, _, _ => none
  | k + 1, x0, x7, x10, x13, x14, x15 => if x15 < (x0.length : Int) then (if 0 ≤ x15 then (if x15 < (x7.length : Int) then (if x15 < (x10.length : Int) then (if (wrap64 (x13 + (rd x7 x15))) > (wrap64 (x14 + (rd x10 x15))) then (some false) else (vinculumlaw27_GluePlaces.l0 k x0 x7 x10 (wrap64 (x13 + (rd x7 x15))) (wrap64 (x14 + (rd x10 x15))) (wrap64 (x15 + 1)))) else (none)) else (none)) else (none)) else (some true)
end
def vinculumlaw27_GluePlaces.f (k : Nat) (l0 : List (S36)) (a1 : Int) (a2 : Int) : Option (Bool) := (vinculumlaw27_awake.f k).bind fun t254 => (if t254 = true then ((vinculumlaw27_right.f k l0 a1).bind fun t255 => (if t255 = true then (vinculumlaw27_GluePlaces.j0 k l0 a1 a2 (decide (a1 > 536870912))) else (vinculumlaw27_GluePlaces.j0 k l0 a1 a2 true))) else (some false))
theorem vinculumlaw27_GluePlaces.mono_l : ∀ k, (∀ y0 y1 y2 y3, LeO (vinculumlaw27_GluePlaces.j0 k y0 y1 y2 y3) (vinculumlaw27_GluePlaces.j0 (k + 1) y0 y1 y2 y3)) ∧ (∀ y0 y1 y2 y3, LeO (vinculumlaw27_GluePlaces.j1 k y0 y1 y2 y3) (vinculumlaw27_GluePlaces.j1 (k + 1) y0 y1 y2 y3)) ∧ (∀ y0 y1 y2 y3 y4 y5, LeO (vinculumlaw27_GluePlaces.l0 k y0 y1 y2 y3 y4 y5) (vinculumlaw27_GluePlaces.l0 (k + 1) y0 y1 y2 y3 y4 y5))
  | 0 => ⟨fun _ _ _ _ r h => by simp [vinculumlaw27_GluePlaces.j0] at h, fun _ _ _ _ r h => by simp [vinculumlaw27_GluePlaces.j1] at h, fun _ _ _ _ _ _ r h => by simp [vinculumlaw27_GluePlaces.l0] at h⟩
  | k + 1 => by
    obtain ⟨ih0, ih1, ih2⟩ := vinculumlaw27_GluePlaces.mono_l k
    refine ⟨?_, ?_, ?_⟩
    · intro y0 y1 y2 y3
      unfold vinculumlaw27_GluePlaces.j0
      repeat' first
      | (with_reducible exact ih0 _ _ _ _)
      | (with_reducible exact ih1 _ _ _ _)
      | (with_reducible exact ih2 _ _ _ _ _ _)
      | (with_reducible exact glue_Set.mono _ _ _)
      | (with_reducible exact vinculumlaw27_awake.mono _)
      | (with_reducible exact vinculumlaw27_right.mono _ _ _)
      | (with_reducible exact LeO.refl _)
      | (with_reducible exact LeO.none _)
      | (with_reducible refine LeO.ite ?_ ?_)
      | (with_reducible refine LeO.bind ?_ (fun _ => ?_))
      | exact ih0 _ _ _ _
      | exact ih1 _ _ _ _
      | exact ih2 _ _ _ _ _ _
      | exact glue_Set.mono _ _ _
      | exact vinculumlaw27_awake.mono _
      | exact vinculumlaw27_right.mono _ _ _
      | exact LeO.none _
      | refine LeO.ite ?_ ?_
      | refine LeO.bind ?_ (fun _ => ?_)
    · intro y0 y1 y2 y3
      unfold vinculumlaw27_GluePlaces.j1
      repeat' first
      | (with_reducible exact ih0 _ _ _ _)
      | (with_reducible exact ih1 _ _ _ _)
      | (with_reducible exact ih2 _ _ _ _ _ _)
      | (with_reducible exact glue_Set.mono _ _ _)
      | (with_reducible exact vinculumlaw27_awake.mono _)
      | (with_reducible exact vinculumlaw27_right.mono _ _ _)
      | (with_reducible exact LeO.refl _)
      | (with_reducible exact LeO.none _)
      | (with_reducible refine LeO.ite ?_ ?_)
      | (with_reducible refine LeO.bind ?_ (fun _ => ?_))
      | exact ih0 _ _ _ _
      | exact ih1 _ _ _ _
      | exact ih2 _ _ _ _ _ _
      | exact glue_Set.mono _ _ _
      | exact vinculumlaw27_awake.mono _
      | exact vinculumlaw27_right.mono _ _ _
      | exact LeO.none _
      | refine LeO.ite ?_ ?_
      | refine LeO.bind ?_ (fun _ => ?_)
    · intro y0 y1 y2 y3 y4 y5
      unfold vinculumlaw27_GluePlaces.l0
      repeat' first
      | (with_reducible exact ih0 _ _ _ _)
      | (with_reducible exact ih1 _ _ _ _)
      | (with_reducible exact ih2 _ _ _ _ _ _)
      | (with_reducible exact glue_Set.mono _ _ _)
      | (with_reducible exact vinculumlaw27_awake.mono _)
      | (with_reducible exact vinculumlaw27_right.mono _ _ _)
      | (with_reducible exact LeO.refl _)
      | (with_reducible exact LeO.none _)
      | (with_reducible refine LeO.ite ?_ ?_)
      | (with_reducible refine LeO.bind ?_ (fun _ => ?_))
      | exact ih0 _ _ _ _
      | exact ih1 _ _ _ _
      | exact ih2 _ _ _ _ _ _
      | exact glue_Set.mono _ _ _
      | exact vinculumlaw27_awake.mono _
      | exact vinculumlaw27_right.mono _ _ _
      | exact LeO.none _
      | refine LeO.ite ?_ ?_
      | refine LeO.bind ?_ (fun _ => ?_)
theorem vinculumlaw27_GluePlaces.mono : ∀ a0 a1 a2 k, LeO (vinculumlaw27_GluePlaces.f k a0 a1 a2) (vinculumlaw27_GluePlaces.f (k + 1) a0 a1 a2) := by
  intro a0 a1 a2 k
  obtain ⟨ih0, ih1, ih2⟩ := vinculumlaw27_GluePlaces.mono_l k
  unfold vinculumlaw27_GluePlaces.f
  repeat' first
      | (with_reducible exact ih0 _ _ _ _)
      | (with_reducible exact ih1 _ _ _ _)
      | (with_reducible exact ih2 _ _ _ _ _ _)
      | (with_reducible exact glue_Set.mono _ _ _)
      | (with_reducible exact vinculumlaw27_awake.mono _)
      | (with_reducible exact vinculumlaw27_right.mono _ _ _)
      | (with_reducible exact LeO.refl _)
      | (with_reducible exact LeO.none _)
      | (with_reducible refine LeO.ite ?_ ?_)
      | (with_reducible refine LeO.bind ?_ (fun _ => ?_))
      | exact ih0 _ _ _ _
      | exact ih1 _ _ _ _
      | exact ih2 _ _ _ _ _ _
      | exact glue_Set.mono _ _ _
      | exact vinculumlaw27_awake.mono _
      | exact vinculumlaw27_right.mono _ _ _
      | exact LeO.none _
      | refine LeO.ite ?_ ?_
      | refine LeO.bind ?_ (fun _ => ?_)
set_option maxHeartbeats 8000000 in
set_option maxRecDepth 100000 in
theorem vinculumlaw27_GluePlaces.calls (k : Nat) (A0 : Option Addr) (c0 : Nat) (l0 : List (S36)) (a1 : Int) (a2 : Int) (r : Bool) (w : World) (hr0 : Kd.C k36 w A0 l0.length l0) (hc0 : l0.length ≤ c0) (h : vinculumlaw27_GluePlaces.f k l0 a1 a2 = some r) :
    Calls Try.prog 8 #[.slice A0 l0.length c0, .int .i64 a1, .int .u16 a2] w fun e w' => e = .returned (.bool r) ∧ Below w.heap.size w w' := by
  have HR0 := Aside0.mk hr0
  have HC0 := Aside0.mk hc0
  clear hr0 hc0
  have HB := Aside0.mk (Below.refl w.heap.size w)
  have H : ((vinculumlaw27_awake.f k).bind fun t254 => (if t254 = true then ((vinculumlaw27_right.f k l0 a1).bind fun t255 => (if t255 = true then (vinculumlaw27_GluePlaces.j0 k l0 a1 a2 (decide (a1 > 536870912))) else (vinculumlaw27_GluePlaces.j0 k l0 a1 a2 true))) else (some false))) = some r := h
  clear h
  replace H := Option.bind_eq_some_iff.mp H
  obtain ⟨t254, A40, H⟩ := H
  replace H : (if t254 = true then ((vinculumlaw27_right.f k l0 a1).bind fun t255 => (if t255 = true then (vinculumlaw27_GluePlaces.j0 k l0 a1 a2 (decide (a1 > 536870912))) else (vinculumlaw27_GluePlaces.j0 k l0 a1 a2 true))) else (some false)) = some r := H
  have A4 := Aside0.mk A40
  clear A40
  by_cases c5 : t254 = true
  · subst c5
    have H1 : ((vinculumlaw27_right.f k l0 a1).bind fun t255 => (if t255 = true then (vinculumlaw27_GluePlaces.j0 k l0 a1 a2 (decide (a1 > 536870912))) else (vinculumlaw27_GluePlaces.j0 k l0 a1 a2 true))) = some r := by rw [if_pos rfl] at H; exact H
    clear H
    have H := H1
    clear H1
    have HC6 := Aside0.mk H
    clear H
    go_enter Try.func8, Try.ntmps8
    go_upto_region 3 with (first | ((with_reducible refine gate_callee (f := 13) rfl ?_); refine goesL_ (some 16) rfl rfl Try.func13 (by kernel_rfl) rfl #[] rfl (by (try simp only [List.map_toArray, List.map_cons, List.map_nil]); first | done | rfl | (simp only [List.length_drop, List.length_take]; rfl)) ?_; (with_reducible refine (vinculumlaw27_awake.calls k  true _ A4.out).mono ?_); rintro e w7 ⟨rfl, hb⟩; refine ⟨_, rfl, ?_⟩; have n0_ := Aside0.mk (below_step (by repeat (first | (with_reducible first | exact HB.out | apply below_alloc | apply pw_below_drewN | apply below_drew1) | exact HB.out)) hb); clear HB; have HB := n0_; clear n0_; (try clear hb); (try clear hb2); (try clear hk); (try clear hi)))
    (try simp only [Act.put, List.setIfInBounds_toArray, List.set_cons_zero, List.set_cons_succ])
    go_cut [25] (fun v25 wc => ∃ (kq : Nat) (x25_5 : Bool), v25 = .bool x25_5 ∧ Aside0 (vinculumlaw27_GluePlaces.j0 kq l0 a1 a2 x25_5 = some r) ∧ Aside0 (kq ≤ k) ∧ Aside0 (Below w.heap.size w wc))
    case first =>
      have H := HC6.out
      clear HC6
      replace H := Option.bind_eq_some_iff.mp H
      obtain ⟨t255, A80, H⟩ := H
      replace H : (if t255 = true then (vinculumlaw27_GluePlaces.j0 k l0 a1 a2 (decide (a1 > 536870912))) else (vinculumlaw27_GluePlaces.j0 k l0 a1 a2 true)) = some r := H
      have A8 := Aside0.mk A80
      clear A80
      by_cases c9 : t255 = true
      · subst c9
        have H1 : (vinculumlaw27_GluePlaces.j0 k l0 a1 a2 (decide (a1 > 536870912))) = some r := by rw [if_pos rfl] at H; exact H
        clear H
        have H := H1
        clear H1
        have H' := Aside0.mk H
        clear H
        go_wp2_with (first | ((with_reducible refine gate_callee (f := 27) rfl ?_); refine goesL_ (some 20) rfl rfl Try.func27 (by kernel_rfl) rfl #[.slice A0 l0.length c0, .int .i64 a1] rfl (by (try simp only [List.map_toArray, List.map_cons, List.map_nil]); first | done | rfl | (simp only [List.length_drop, List.length_take]; rfl)) ?_; (with_reducible refine (vinculumlaw27_right.calls k _ _ l0 a1 true _ ?side1 ?side2 A8.out).mono ?_); (case side1 => repeat (first | exact (Kd.C_below HR0.out HB.out) | (with_reducible refine Kd.C_alloc ?_ _) | (with_reducible refine Kd.C_drewN ?_ _) | (with_reducible refine Kd.C_drew ?_))); (case side2 => exact HC0.out); rintro e w10 ⟨rfl, hb⟩; refine ⟨_, rfl, ?_⟩; have n0_ := Aside0.mk (below_step (by repeat (first | (with_reducible first | exact HB.out | apply below_alloc | apply pw_below_drewN | apply below_drew1) | exact HB.out)) hb); clear HB; have HB := n0_; clear n0_; (try clear hb); (try clear hb2); (try clear hk); (try clear hi)))
        go_meet
        case rel => exact ⟨_, (decide (a1 > 536870912)), (by first | rfl | (simp; done) | (simp [*]; done)), H', ⟨by first | omega | exact Nat.le_refl _⟩, ⟨by repeat (first | (with_reducible first | exact HB.out | apply below_alloc | apply pw_below_drewN | apply below_drew1) | exact HB.out)⟩⟩
      · replace c9 := Bool.eq_false_iff.mpr c9
        subst c9
        have H1 : (vinculumlaw27_GluePlaces.j0 k l0 a1 a2 true) = some r := by rw [if_neg (show ¬ (false = true) by decide)] at H; exact H
        clear H
        have H := H1
        clear H1
        have H' := Aside0.mk H
        clear H
        go_wp2_with (first | ((with_reducible refine gate_callee (f := 27) rfl ?_); refine goesL_ (some 20) rfl rfl Try.func27 (by kernel_rfl) rfl #[.slice A0 l0.length c0, .int .i64 a1] rfl (by (try simp only [List.map_toArray, List.map_cons, List.map_nil]); first | done | rfl | (simp only [List.length_drop, List.length_take]; rfl)) ?_; (with_reducible refine (vinculumlaw27_right.calls k _ _ l0 a1 false _ ?side1 ?side2 A8.out).mono ?_); (case side1 => repeat (first | exact (Kd.C_below HR0.out HB.out) | (with_reducible refine Kd.C_alloc ?_ _) | (with_reducible refine Kd.C_drewN ?_ _) | (with_reducible refine Kd.C_drew ?_))); (case side2 => exact HC0.out); rintro e w11 ⟨rfl, hb⟩; refine ⟨_, rfl, ?_⟩; have n0_ := Aside0.mk (below_step (by repeat (first | (with_reducible first | exact HB.out | apply below_alloc | apply pw_below_drewN | apply below_drew1) | exact HB.out)) hb); clear HB; have HB := n0_; clear n0_; (try clear hb); (try clear hb2); (try clear hk); (try clear hi)))
        go_meet
        case rel => exact ⟨_, (true), (by first | rfl | (simp; done) | (simp [*]; done)), H', ⟨by first | omega | exact Nat.le_refl _⟩, ⟨by repeat (first | (with_reducible first | exact HB.out | apply below_alloc | apply pw_below_drewN | apply below_drew1) | exact HB.out)⟩⟩
    case rest =>
      clear HC6
      try clear c1
      try clear c2
      try clear p2
      try clear c5
      try clear c8
      try clear c9
      obtain ⟨kq, x25_5, rfl, HA, HJ5, HB⟩ := hcut
      cases kq with
      | zero => exact absurd HA.out (by simp [vinculumlaw27_GluePlaces.j0])
      | succ kj5 =>
        have H := HA.out
        clear HA
        simp only [vinculumlaw27_GluePlaces.j0] at H
        by_cases c12 : x25_5 = true
        · subst c12
          have H1 : (some true) = some r := by rw [if_pos rfl] at H; exact H
          clear H
          have H := H1
          clear H1
          obtain rfl := Option.some.inj H
          go_wp2
          go_ret
          exact ⟨by first | rfl | (simp [errW_none, errW_some] <;> rfl) | (simp [*, errW_none, errW_some] <;> rfl), by repeat (first | (with_reducible first | exact HB.out | apply below_alloc | apply pw_below_drewN | apply below_drew1) | exact HB.out)⟩
        · replace c12 := Bool.eq_false_iff.mpr c12
          subst c12
          have H1 : ((glue_Set.f kj5 l0 a1).bind fun bt256 => ((glue_Set.f kj5 l0 (wrap64 (a1 + (wrap64 (a2))))).bind fun bt261 => (if bt256.2.2 = 0 then (if bt261.2.2 = 0 then (if (bt256.1.length : Int) = (l0.length : Int) then (vinculumlaw27_GluePlaces.j1 kj5 l0 bt256.1 bt261.1 ((bt261.1.length : Int) != (l0.length : Int))) else (vinculumlaw27_GluePlaces.j1 kj5 l0 bt256.1 bt261.1 true)) else (vinculumlaw27_GluePlaces.j1 kj5 l0 bt256.1 bt261.1 true)) else (vinculumlaw27_GluePlaces.j1 kj5 l0 bt256.1 bt261.1 true)))) = some r := by rw [if_neg (show ¬ (false = true) by decide)] at H; exact H
          clear H
          have H := H1
          clear H1
          replace H := Option.bind_eq_some_iff.mp H
          obtain ⟨⟨t256, t257, t258⟩, A130, H⟩ := H
          replace H : ((glue_Set.f kj5 l0 (wrap64 (a1 + (wrap64 (a2))))).bind fun bt261 => (if t258 = 0 then (if bt261.2.2 = 0 then (if (t256.length : Int) = (l0.length : Int) then (vinculumlaw27_GluePlaces.j1 kj5 l0 t256 bt261.1 ((bt261.1.length : Int) != (l0.length : Int))) else (vinculumlaw27_GluePlaces.j1 kj5 l0 t256 bt261.1 true)) else (vinculumlaw27_GluePlaces.j1 kj5 l0 t256 bt261.1 true)) else (vinculumlaw27_GluePlaces.j1 kj5 l0 t256 bt261.1 true))) = some r := H
          have A13 := Aside0.mk A130
          clear A130
          replace H := Option.bind_eq_some_iff.mp H
          obtain ⟨⟨t261, t262, t263⟩, A140, H⟩ := H
          replace H : (if t258 = 0 then (if t263 = 0 then (if (t256.length : Int) = (l0.length : Int) then (vinculumlaw27_GluePlaces.j1 kj5 l0 t256 t261 ((t261.length : Int) != (l0.length : Int))) else (vinculumlaw27_GluePlaces.j1 kj5 l0 t256 t261 true)) else (vinculumlaw27_GluePlaces.j1 kj5 l0 t256 t261 true)) else (vinculumlaw27_GluePlaces.j1 kj5 l0 t256 t261 true)) = some r := H
          have A14 := Aside0.mk A140
          clear A140
          have HC15 := Aside0.mk H
          clear H
          go_upto_region 7 with (first | ((with_reducible refine gate_callee (f := 22) rfl ?_); refine goesL_ (some 29) rfl rfl Try.func22 (by kernel_rfl) rfl #[.slice A0 l0.length c0, .int .i64 a1] rfl (by (try simp only [List.map_toArray, List.map_cons, List.map_nil]); first | done | rfl | (simp only [List.length_drop, List.length_take]; rfl)) ?_; (with_reducible refine (glue_Set.calls kj5 _ _ l0 a1 t256 t257 t258 _ ?side1 ?side2 A13.out).mono ?_); (case side1 => repeat (first | exact (Kd.C_below HR0.out HB.out) | (with_reducible refine Kd.C_alloc ?_ _) | (with_reducible refine Kd.C_drewN ?_ _) | (with_reducible refine Kd.C_drew ?_))); (case side2 => exact HC0.out); rintro e w16 ⟨v259, rfl, ho0, hb⟩; refine ⟨_, rfl, ?_⟩; have n0_ := Aside0.mk (Kd.R_lower ho0 (below_size (by repeat (first | (with_reducible first | exact HB.out | apply below_alloc | apply pw_below_drewN | apply below_drew1) | exact HB.out)))); have n1_ := Aside0.mk (below_step (by repeat (first | (with_reducible first | exact HB.out | apply below_alloc | apply pw_below_drewN | apply below_drew1) | exact HB.out)) hb); clear HB; have HO260 := n0_; have HB := n1_; clear n0_ n1_; (try clear hb); (try clear hb2); (try clear hk); (try clear hi); (try clear ho0)) | ((with_reducible refine gate_callee (f := 22) rfl ?_); refine goesL_ (some 39) rfl rfl Try.func22 (by kernel_rfl) rfl #[.slice A0 l0.length c0, .int .i64 (wrap64 (a1 + (wrap64 (a2))))] rfl (by (try simp only [List.map_toArray, List.map_cons, List.map_nil]); first | done | rfl | (simp only [List.length_drop, List.length_take]; rfl)) ?_; (with_reducible refine (glue_Set.calls kj5 _ _ l0 (wrap64 (a1 + (wrap64 (a2)))) t261 t262 t263 _ ?side1 ?side2 A14.out).mono ?_); (case side1 => repeat (first | exact (Kd.C_below HR0.out HB.out) | (with_reducible refine Kd.C_alloc ?_ _) | (with_reducible refine Kd.C_drewN ?_ _) | (with_reducible refine Kd.C_drew ?_))); (case side2 => exact HC0.out); rintro e w17 ⟨v264, rfl, ho0, hb⟩; refine ⟨_, rfl, ?_⟩; have n0_ := Aside0.mk (Kd.R_elder' (by (with_reducible repeat (first | apply Kd.R_alloc | apply Kd.R_drewN | apply Kd.R_drew)); exact HO260.out) (Kd.R_base ho0) hb); have n1_ := Aside0.mk (Kd.R_lower (Kd.R_new' ho0 (Kd.R_lt (by (with_reducible repeat (first | apply Kd.R_alloc | apply Kd.R_drewN | apply Kd.R_drew)); exact HO260.out))) (below_size (by repeat (first | (with_reducible first | exact HB.out | apply below_alloc | apply pw_below_drewN | apply below_drew1) | exact HB.out)))); have n2_ := Aside0.mk (below_step (by repeat (first | (with_reducible first | exact HB.out | apply below_alloc | apply pw_below_drewN | apply below_drew1) | exact HB.out)) hb); clear HO260; clear HB; have HO260 := n0_; have HO265 := n1_; have HB := n2_; clear n0_ n1_ n2_; (try clear hb); (try clear hb2); (try clear hk); (try clear hi); (try clear ho0)))
          (try simp only [Act.put, List.setIfInBounds_toArray, List.set_cons_zero, List.set_cons_succ])
          go_cut [62] (fun v62 wc => ∃ (kq : Nat) (x62_14 : Bool), v62 = .bool x62_14 ∧ Aside0 (vinculumlaw27_GluePlaces.j1 kq l0 t256 t261 x62_14 = some r) ∧ Aside0 (kq ≤ kj5) ∧ Aside0 (Kd.R (Kd.int .i64) 3 wc w.heap.size (fun k_ => some k_ ≠ (v264 : Value).ownBlock) v259 t256) ∧ Aside0 (Kd.R (Kd.int .i64) 3 wc w.heap.size (fun k_ => some k_ ≠ (v259 : Value).ownBlock) v264 t261) ∧ Aside0 (Below w.heap.size w wc))
          case first =>
            have H := HC15.out
            clear HC15
            by_cases c18 : t258 = 0
            · rw [if_pos c18] at H
              have c18b0 : (t258 == 0) = true := beq_iff_eq.mpr c18
              have c18b1 : (t258 != 0) = false := bne_eq_false_iff_eq.mpr c18
              clear c18
              (first | rw [c18b0] | (simp only [i64_w, i32_w]; rw [c18b0]) | skip)
              by_cases c19 : t263 = 0
              · rw [if_pos c19] at H
                have c19b0 : (t263 == 0) = true := beq_iff_eq.mpr c19
                have c19b1 : (t263 != 0) = false := bne_eq_false_iff_eq.mpr c19
                clear c19
                by_cases c20 : (t256.length : Int) = (l0.length : Int)
                · rw [if_pos c20] at H
                  have c20b0 : ((t256.length : Int) == (l0.length : Int)) = true := beq_iff_eq.mpr c20
                  have c20b1 : ((t256.length : Int) != (l0.length : Int)) = false := bne_eq_false_iff_eq.mpr c20
                  have c20b2 : (t256.length == l0.length) = true := by first | simpa using c20 | (simp at c20 ⊢; omega)
                  clear c20
                  have H' := Aside0.mk H
                  clear H
                  obtain ⟨Ao21, co21, eo21⟩ := Kd.R_slice HO260.out
                  subst eo21
                  obtain ⟨Ao22, co22, eo22⟩ := Kd.R_slice HO265.out
                  subst eo22
                  go_wp2
                  go_meet
                  case rel => exact ⟨_, (((t261.length : Int) != (l0.length : Int))), (by first | rfl | (simp; done) | (simp [*]; done)), H', ⟨by have := HJ5.out; first | omega | exact Nat.le_refl _⟩, ⟨by (with_reducible repeat (first | apply Kd.R_alloc | apply Kd.R_drewN | apply Kd.R_drew)); exact Kd.R_mono HO260.out (fun _ hk => hk.2)⟩, ⟨by (with_reducible repeat (first | apply Kd.R_alloc | apply Kd.R_drewN | apply Kd.R_drew)); exact Kd.R_mono HO265.out (fun _ hk => hk.2)⟩, ⟨by repeat (first | (with_reducible first | exact HB.out | apply below_alloc | apply pw_below_drewN | apply below_drew1) | exact HB.out)⟩⟩
                · rw [if_neg c20] at H
                  have c20b0 : ((t256.length : Int) == (l0.length : Int)) = false := beq_eq_false_iff_ne.mpr c20
                  have c20b1 : ((t256.length : Int) != (l0.length : Int)) = true := bne_iff_ne.mpr c20
                  have c20b2 : (t256.length == l0.length) = false := by first | simpa using c20 | (simp at c20 ⊢; omega)
                  have H' := Aside0.mk H
                  clear H
                  obtain ⟨Ao23, co23, eo23⟩ := Kd.R_slice HO260.out
                  subst eo23
                  go_wp2
                  go_meet
                  case rel => exact ⟨_, (true), (by first | rfl | (simp; done) | (simp [*]; done)), H', ⟨by have := HJ5.out; first | omega | exact Nat.le_refl _⟩, ⟨by (with_reducible repeat (first | apply Kd.R_alloc | apply Kd.R_drewN | apply Kd.R_drew)); exact Kd.R_mono HO260.out (fun _ hk => hk.2)⟩, ⟨by (with_reducible repeat (first | apply Kd.R_alloc | apply Kd.R_drewN | apply Kd.R_drew)); exact Kd.R_mono HO265.out (fun _ hk => hk.2)⟩, ⟨by repeat (first | (with_reducible first | exact HB.out | apply below_alloc | apply pw_below_drewN | apply below_drew1) | exact HB.out)⟩⟩
              · rw [if_neg c19] at H
                have c19b0 : (t263 == 0) = false := beq_eq_false_iff_ne.mpr c19
                have c19b1 : (t263 != 0) = true := bne_iff_ne.mpr c19
                have H' := Aside0.mk H
                clear H
                go_wp2
                go_meet
                case rel => exact ⟨_, (true), (by first | rfl | (simp; done) | (simp [*]; done)), H', ⟨by have := HJ5.out; first | omega | exact Nat.le_refl _⟩, ⟨by (with_reducible repeat (first | apply Kd.R_alloc | apply Kd.R_drewN | apply Kd.R_drew)); exact Kd.R_mono HO260.out (fun _ hk => hk.2)⟩, ⟨by (with_reducible repeat (first | apply Kd.R_alloc | apply Kd.R_drewN | apply Kd.R_drew)); exact Kd.R_mono HO265.out (fun _ hk => hk.2)⟩, ⟨by repeat (first | (with_reducible first | exact HB.out | apply below_alloc | apply pw_below_drewN | apply below_drew1) | exact HB.out)⟩⟩
            · rw [if_neg c18] at H
              have c18b0 : (t258 == 0) = false := beq_eq_false_iff_ne.mpr c18
              have c18b1 : (t258 != 0) = true := bne_iff_ne.mpr c18
              (first | rw [c18b0] | (simp only [i64_w, i32_w]; rw [c18b0]) | skip)
              have H' := Aside0.mk H
              clear H
              go_wp2
              go_meet
              case rel => exact ⟨_, (true), (by first | rfl | (simp; done) | (simp [*]; done)), H', ⟨by have := HJ5.out; first | omega | exact Nat.le_refl _⟩, ⟨by (with_reducible repeat (first | apply Kd.R_alloc | apply Kd.R_drewN | apply Kd.R_drew)); exact Kd.R_mono HO260.out (fun _ hk => hk.2)⟩, ⟨by (with_reducible repeat (first | apply Kd.R_alloc | apply Kd.R_drewN | apply Kd.R_drew)); exact Kd.R_mono HO265.out (fun _ hk => hk.2)⟩, ⟨by repeat (first | (with_reducible first | exact HB.out | apply below_alloc | apply pw_below_drewN | apply below_drew1) | exact HB.out)⟩⟩
          case rest =>
            clear HC15
            try clear c1
            try clear c2
            try clear p2
            try clear c5
            try clear p6
            try clear c8
            try clear c9
            try clear c12
            try clear c13
            try clear c18
            try clear c18b0
            try clear c18b1
            try clear c19
            try clear c19b0
            try clear c19b1
            try clear c20
            try clear c20b0
            try clear c20b1
            try clear c20b2
            try clear c22
            try clear p2
            obtain ⟨kq, x62_14, rfl, HA, HJ14, HO_7, HO_10, HB⟩ := hcut
            cases kq with
            | zero => exact absurd HA.out (by simp [vinculumlaw27_GluePlaces.j1])
            | succ kj14 =>
              have H := HA.out
              clear HA
              simp only [vinculumlaw27_GluePlaces.j1] at H
              by_cases c24 : x62_14 = true
              · subst c24
                have H1 : (some false) = some r := by rw [if_pos rfl] at H; exact H
                clear H
                have H := H1
                clear H1
                obtain rfl := Option.some.inj H
                go_wp2
                go_ret
                exact ⟨by first | rfl | (simp [errW_none, errW_some] <;> rfl) | (simp [*, errW_none, errW_some] <;> rfl), by repeat (first | (with_reducible first | exact HB.out | apply below_alloc | apply pw_below_drewN | apply below_drew1) | exact HB.out)⟩
              · replace c24 := Bool.eq_false_iff.mpr c24
                subst c24
                have H1 : (vinculumlaw27_GluePlaces.l0 kj14 l0 t256 t261 0 0 0) = some r := by rw [if_neg (show ¬ (false = true) by decide)] at H; exact H
                clear H
                have H := H1
                clear H1
                have H' := Aside0.mk H
                clear H
                go_wp2
                go_loopg [13, 14, 15] kj14 (fun kq v13 v14 v15 w' => ∃ (x13_3 : Int) (x14_3 : Int) (x15_3 : Int), v13 = .int .i64 x13_3 ∧ v14 = .int .i64 x14_3 ∧ v15 = .int .i64 x15_3 ∧ Aside0 (vinculumlaw27_GluePlaces.l0 kq l0 t256 t261 x13_3 x14_3 x15_3 = some r) ∧ Aside0 (kq ≤ kj14) ∧ Aside0 (Kd.R (Kd.int .i64) 3 w' w.heap.size (fun k_ => some k_ ≠ (v264 : Value).ownBlock) v259 t256) ∧ Aside0 (Kd.R (Kd.int .i64) 3 w' w.heap.size (fun k_ => some k_ ≠ (v259 : Value).ownBlock) v264 t261) ∧ Aside0 (Below w.heap.size w w'))
                case atStart => exact ⟨(0), (0), (0), (by first | rfl | (simp; done) | (simp [*]; done)), (by first | rfl | (simp; done) | (simp [*]; done)), (by first | rfl | (simp; done) | (simp [*]; done)), H', ⟨Nat.le_refl _⟩, ⟨by (with_reducible repeat (first | apply Kd.R_alloc | apply Kd.R_drewN | apply Kd.R_drew)); exact HO_7.out⟩, ⟨by (with_reducible repeat (first | apply Kd.R_alloc | apply Kd.R_drewN | apply Kd.R_drew)); exact HO_10.out⟩, ⟨by repeat (first | (with_reducible first | exact HB.out | apply below_alloc | apply pw_below_drewN | apply below_drew1) | exact HB.out)⟩⟩
                case round =>
                  clear H'
                  try clear c1
                  try clear c2
                  try clear p2
                  try clear c5
                  try clear p6
                  try clear c8
                  try clear c9
                  try clear c12
                  try clear c13
                  try clear c18
                  try clear c18b0
                  try clear c18b1
                  try clear c19
                  try clear c19b0
                  try clear c19b1
                  try clear c20
                  try clear c20b0
                  try clear c20b1
                  try clear c20b2
                  try clear c22
                  try clear c24
                  try clear p2
                  try clear p6
                  obtain ⟨x13_3, x14_3, x15_3, rfl, rfl, rfl, HA, HK3, HO_7, HO_10, HB⟩ := hrel
                  cases gk with
                  | zero => exact absurd HA.out (by simp [vinculumlaw27_GluePlaces.l0])
                  | succ k3 =>
                    have H := HA.out
                    clear HA
                    simp only [vinculumlaw27_GluePlaces.l0] at H
                    by_cases c25 : x15_3 < (l0.length : Int)
                    · rw [if_pos c25] at H
                      have c25b0 : decide (x15_3 < (l0.length : Int)) = true := decide_eq_true c25
                      clear c25
                      by_cases c26 : 0 ≤ x15_3
                      · rw [if_pos c26] at H
                        have c26b0 : decide (0 ≤ x15_3) = true := decide_eq_true c26
                        clear c26
                        by_cases c27 : x15_3 < (t256.length : Int)
                        · rw [if_pos c27] at H
                          have c27b0 : decide (x15_3 < (t256.length : Int)) = true := decide_eq_true c27
                          clear c27
                          by_cases c28 : x15_3 < (t261.length : Int)
                          · rw [if_pos c28] at H
                            have c28b0 : decide (x15_3 < (t261.length : Int)) = true := decide_eq_true c28
                            clear c28
                            by_cases c29 : (wrap64 (x13_3 + (rd t256 x15_3))) > (wrap64 (x14_3 + (rd t261 x15_3)))
                            · rw [if_pos c29] at H
                              have c29b0 : decide ((wrap64 (x14_3 + (rd t261 x15_3))) < (wrap64 (x13_3 + (rd t256 x15_3)))) = true := decide_eq_true c29
                              clear c29
                              obtain rfl := Option.some.inj H
                              obtain ⟨Ao30, co30, eo30⟩ := Kd.R_slice HO_7.out
                              subst eo30
                              have p266 : 0 ≤ (x15_3 : Int) := of_decide_eq_true (by first | (with_reducible assumption) | assumption)
                              have q266 : x15_3 < (t256.length : Int) := of_decide_eq_true (by first | (with_reducible assumption) | assumption)
                              obtain ⟨ad266, e266, hx266_0⟩ := Kd.at_int (Kd.R_reads' HO_7.out).2.2 x15_3 p266 q266
                              cases e266
                              replace p266 := eq_true p266
                              replace q266 := eq_true q266
                              obtain ⟨Ao31, co31, eo31⟩ := Kd.R_slice HO_10.out
                              subst eo31
                              have p267 : 0 ≤ (x15_3 : Int) := of_decide_eq_true (by first | (with_reducible assumption) | assumption)
                              have q267 : x15_3 < (t261.length : Int) := of_decide_eq_true (by first | (with_reducible assumption) | assumption)
                              obtain ⟨ad267, e267, hx267_0⟩ := Kd.at_int (Kd.R_reads' HO_10.out).2.2 x15_3 p267 q267
                              cases e267
                              replace p267 := eq_true p267
                              replace q267 := eq_true q267
                              go_wp2
                              go_ret
                              exact ⟨by first | rfl | (simp [errW_none, errW_some] <;> rfl) | (simp [*, errW_none, errW_some] <;> rfl), by repeat (first | (with_reducible first | exact HB.out | apply below_alloc | apply pw_below_drewN | apply below_drew1) | exact HB.out)⟩
                            · rw [if_neg c29] at H
                              have c29b0 : decide ((wrap64 (x14_3 + (rd t261 x15_3))) < (wrap64 (x13_3 + (rd t256 x15_3)))) = false := decide_eq_false c29
                              clear c29
                              have H' := Aside0.mk H
                              clear H
                              obtain ⟨Ao32, co32, eo32⟩ := Kd.R_slice HO_7.out
                              subst eo32
                              have p266 : 0 ≤ (x15_3 : Int) := of_decide_eq_true (by first | (with_reducible assumption) | assumption)
                              have q266 : x15_3 < (t256.length : Int) := of_decide_eq_true (by first | (with_reducible assumption) | assumption)
                              obtain ⟨ad266, e266, hx266_0⟩ := Kd.at_int (Kd.R_reads' HO_7.out).2.2 x15_3 p266 q266
                              cases e266
                              replace p266 := eq_true p266
                              replace q266 := eq_true q266
                              obtain ⟨Ao33, co33, eo33⟩ := Kd.R_slice HO_10.out
                              subst eo33
                              have p267 : 0 ≤ (x15_3 : Int) := of_decide_eq_true (by first | (with_reducible assumption) | assumption)
                              have q267 : x15_3 < (t261.length : Int) := of_decide_eq_true (by first | (with_reducible assumption) | assumption)
                              obtain ⟨ad267, e267, hx267_0⟩ := Kd.at_int (Kd.R_reads' HO_10.out).2.2 x15_3 p267 q267
                              cases e267
                              replace p267 := eq_true p267
                              replace q267 := eq_true q267
                              go_wp2
                              go_roundg k3
                              case measure => have := HJ5.out; have := HJ14.out; have := HK3.out; omega
                              case rel => exact ⟨(wrap64 (x13_3 + (rd t256 x15_3))), (wrap64 (x14_3 + (rd t261 x15_3))), (wrap64 (x15_3 + 1)), (by first | rfl | (simp; done) | (simp [*]; done)), (by first | rfl | (simp; done) | (simp [*]; done)), (by first | rfl | (simp; done) | (simp [*]; done)), H', ⟨by have := HJ5.out; have := HJ14.out; have := HK3.out; omega⟩, ⟨by (with_reducible repeat (first | apply Kd.R_alloc | apply Kd.R_drewN | apply Kd.R_drew)); exact HO_7.out⟩, ⟨by (with_reducible repeat (first | apply Kd.R_alloc | apply Kd.R_drewN | apply Kd.R_drew)); exact HO_10.out⟩, ⟨by repeat (first | (with_reducible first | exact HB.out | apply below_alloc | apply pw_below_drewN | apply below_drew1) | exact HB.out)⟩⟩
                          · rw [if_neg c28] at H
                            exact absurd H (by simp)
                        · rw [if_neg c27] at H
                          exact absurd H (by simp)
                      · rw [if_neg c26] at H
                        exact absurd H (by simp)
                    · rw [if_neg c25] at H
                      have c25b0 : decide (x15_3 < (l0.length : Int)) = false := decide_eq_false c25
                      clear c25
                      obtain rfl := Option.some.inj H
                      go_wp2
                      go_ret
                      exact ⟨by first | rfl | (simp [errW_none, errW_some] <;> rfl) | (simp [*, errW_none, errW_some] <;> rfl), by repeat (first | (with_reducible first | exact HB.out | apply below_alloc | apply pw_below_drewN | apply below_drew1) | exact HB.out)⟩
  · replace c5 := Bool.eq_false_iff.mpr c5
    subst c5
    have H1 : (some false) = some r := by rw [if_neg (show ¬ (false = true) by decide)] at H; exact H
    clear H
    have H := H1
    clear H1
    obtain rfl := Option.some.inj H
    go_enter Try.func8, Try.ntmps8
    go_wp2_with (first | ((with_reducible refine gate_callee (f := 13) rfl ?_); refine goesL_ (some 16) rfl rfl Try.func13 (by kernel_rfl) rfl #[] rfl (by (try simp only [List.map_toArray, List.map_cons, List.map_nil]); first | done | rfl | (simp only [List.length_drop, List.length_take]; rfl)) ?_; (with_reducible refine (vinculumlaw27_awake.calls k  false _ A4.out).mono ?_); rintro e w34 ⟨rfl, hb⟩; refine ⟨_, rfl, ?_⟩; have n0_ := Aside0.mk (below_step (by repeat (first | (with_reducible first | exact HB.out | apply below_alloc | apply pw_below_drewN | apply below_drew1) | exact HB.out)) hb); clear HB; have HB := n0_; clear n0_; (try clear hb); (try clear hb2); (try clear hk); (try clear hi)))
    go_ret
    exact ⟨by first | rfl | (simp [errW_none, errW_some] <;> rfl) | (simp [*, errW_none, errW_some] <;> rfl), by repeat (first | (with_reducible first | exact HB.out | apply below_alloc | apply pw_below_drewN | apply below_drew1) | exact HB.out)⟩

end Go.Proofs.Ytojcnndkdopahaa.P
