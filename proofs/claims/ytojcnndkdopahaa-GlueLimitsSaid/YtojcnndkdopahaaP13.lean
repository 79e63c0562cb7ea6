/- Written by wip/tool/hprint.py (the kit's print.py with hand-proved contracts set in): contracts of the functions that the statements of this seat reach, without conditions beyond those named in each theorem. -/
import Derived.Test.YtojcnndkdopahaaP0
import Derived.Test.YtojcnndkdopahaaP7
import Derived.Test.YtojcnndkdopahaaP8
import Derived.Test.YtojcnndkdopahaaP9
import Derived.Test.YtojcnndkdopahaaP10
import Derived.Test.YtojcnndkdopahaaP12
namespace Go.Proofs.Ytojcnndkdopahaa.P
open Go.RowKit Go.Proofs.YtojcnndkdopahaaW.PrintWords Go.Proofs.YtojcnndkdopahaaW.PrintLast Go.Proofs.YtojcnndkdopahaaW.PrintMore
attribute [local go_sem] max2_int min2_int max_two min_two max_three min_three max_four min_four   -- for this text's walks alone
set_option linter.unusedVariables false
set_option linter.unusedSimpArgs false

/-! ### vinculumlaw27_GlueLimits: function 7 -/
mutual
def vinculumlaw27_GlueLimits.j0 : Nat → List (S36) → Int → List Int → Int → Bool → Option (Bool)
  | 0, _, _, _, _, _ => none
  | k + 1, x0, x1, x5, x6, x36 => if x36 = true then (some false) else ((vinculumref27_Natural.f k x0).bind fun t244 => ((vinculumref27_Order.f k x0).bind fun t245 => (vinculumlaw27_GlueLimits.l0 k x0 x5 x6 (wrap64 (x1 - t244)) t245 0)))
def vinculumlaw27_GlueLimits.l0 : Nat → List (S36) → List Int → Int → Int → Int → Int → Option (Bool)
  | 0, _, _, _, _, _, _ => none
  | k + 1, x0, x5, x6, x8, x9, x10 => if x10 < (x5.length : Int) then (if 0 ≤ x10 then (if x10 < (x0.length : Int) then ((vinculumref27_Shrink.f k x0).bind fun t249 => (if x8 ≥ 0 then ((vinculumref27_Stretch.f k x0 x9).bind fun t251 => (if ((rd_T36 x0 x10).f3) = x9 then (vinculumlaw27_GlueLimits.j2 k x0 x5 x6 x8 x9 x10 (wrap64 ((rd x5 x10) - ((rd_T36 x0 x10).f0))) ((rd_T36 x0 x10).f1) t251) else (vinculumlaw27_GlueLimits.j2 k x0 x5 x6 x8 x9 x10 (wrap64 ((rd x5 x10) - ((rd_T36 x0 x10).f0))) 0 t251))) else (vinculumlaw27_GlueLimits.j2 k x0 x5 x6 x8 x9 x10 (wrap64 ((rd x5 x10) - ((rd_T36 x0 x10).f0))) ((rd_T36 x0 x10).f2) t249))) else (none)) else (none)) else (some true)
def vinculumlaw27_GlueLimits.j2 : Nat → List (S36) → List Int → Int → Int → Int → Int → Int → Int → Int → Option (Bool)
  | 0, _, _, _, _, _, _, _, _, _ => none
  | k + 1, x0, x5, x6, x8, x9, x10, x11, x12, x13 => if 0 ≤ x10 then (if x10 < (x0.length : Int) then (if x11 < (wrap64 (-((rd_T36 x0 x10).f2))) then (vinculumlaw27_GlueLimits.j3 k x0 x5 x6 x8 x9 x10 x11 x12 x13 true) else (if x8 ≥ 0 then (if x11 < 0 then (vinculumlaw27_GlueLimits.j3 k x0 x5 x6 x8 x9 x10 x11 x12 x13 true) else (if x8 ≤ 0 then (vinculumlaw27_GlueLimits.j3 k x0 x5 x6 x8 x9 x10 x11 x12 x13 (decide (x11 > 0))) else (vinculumlaw27_GlueLimits.j3 k x0 x5 x6 x8 x9 x10 x11 x12 x13 false))) else (if x8 ≤ 0 then (vinculumlaw27_GlueLimits.j3 k x0 x5 x6 x8 x9 x10 x11 x12 x13 (decide (x11 > 0))) else (vinculumlaw27_GlueLimits.j3 k x0 x5 x6 x8 x9 x10 x11 x12 x13 false)))) else (none)) else (none)
def vinculumlaw27_GlueLimits.j3 : Nat → List (S36) → List Int → Int → Int → Int → Int → Int → Int → Int → Bool → Option (Bool)
  | 0, _, _, _, _, _, _, _, _, _, _ => none
  | k + 1, x0, x5, x6, x8, x9, x10, x11, x12, x13, x106 => if x106 = true then (some false) else (if x13 = 0 then (if x11 = 0 then (vinculumlaw27_GlueLimits.l0 k x0 x5 x6 x8 x9 (wrap64 (x10 + 1))) else (some false)) else (if (wrap64 ((wrap64 ((wrap64 (x8 - x6)) * x12)) - (wrap64 (x11 * x13)))) ≥ x13 then (some false) else (if (wrap64 ((wrap64 ((wrap64 (x8 - x6)) * x12)) - (wrap64 (x11 * x13)))) ≤ (wrap64 (-x13)) then (some false) else (vinculumlaw27_GlueLimits.l0 k x0 x5 x6 x8 x9 (wrap64 (x10 + 1))))))
end
def vinculumlaw27_GlueLimits.f (k : Nat) (l0 : List (S36)) (a1 : Int) : Option (Bool) := (vinculumlaw27_awake.f k).bind fun t237 => (if t237 = true then ((vinculumlaw27_right.f k l0 a1).bind fun t238 => (if t238 = true then ((glue_Set.f k l0 a1).bind fun bt239 => (if bt239.2.2 = 0 then (vinculumlaw27_GlueLimits.j0 k l0 a1 bt239.1 bt239.2.1 ((bt239.1.length : Int) != (l0.length : Int))) else (vinculumlaw27_GlueLimits.j0 k l0 a1 bt239.1 bt239.2.1 true))) else (some true))) else (some false))
theorem vinculumlaw27_GlueLimits.mono_l : ∀ k, (∀ y0 y1 y2 y3 y4, LeO (vinculumlaw27_GlueLimits.j0 k y0 y1 y2 y3 y4) (vinculumlaw27_GlueLimits.j0 (k + 1) y0 y1 y2 y3 y4)) ∧ (∀ y0 y1 y2 y3 y4 y5, LeO (vinculumlaw27_GlueLimits.l0 k y0 y1 y2 y3 y4 y5) (vinculumlaw27_GlueLimits.l0 (k + 1) y0 y1 y2 y3 y4 y5)) ∧ (∀ y0 y1 y2 y3 y4 y5 y6 y7 y8, LeO (vinculumlaw27_GlueLimits.j2 k y0 y1 y2 y3 y4 y5 y6 y7 y8) (vinculumlaw27_GlueLimits.j2 (k + 1) y0 y1 y2 y3 y4 y5 y6 y7 y8)) ∧ (∀ y0 y1 y2 y3 y4 y5 y6 y7 y8 y9, LeO (vinculumlaw27_GlueLimits.j3 k y0 y1 y2 y3 y4 y5 y6 y7 y8 y9) (vinculumlaw27_GlueLimits.j3 (k + 1) y0 y1 y2 y3 y4 y5 y6 y7 y8 y9))
  | 0 => ⟨fun _ _ _ _ _ r h => by simp [vinculumlaw27_GlueLimits.j0] at h, fun _ _ _ _ _ _ r h => by simp [vinculumlaw27_GlueLimits.l0] at h, fun _ _ _ _ _ _ _ _ _ r h => by simp [vinculumlaw27_GlueLimits.j2] at h, fun _ _ _ _ _ _ _ _ _ _ r h => by simp [vinculumlaw27_GlueLimits.j3] at h⟩
  | k + 1 => by
    obtain ⟨ih0, ih1, ih2, ih3⟩ := vinculumlaw27_GlueLimits.mono_l k
    refine ⟨?_, ?_, ?_, ?_⟩
    · intro y0 y1 y2 y3 y4
      unfold vinculumlaw27_GlueLimits.j0
      repeat' first
      | (with_reducible exact ih0 _ _ _ _ _)
      | (with_reducible exact ih1 _ _ _ _ _ _)
      | (with_reducible exact ih2 _ _ _ _ _ _ _ _ _)
      | (with_reducible exact ih3 _ _ _ _ _ _ _ _ _ _)
      | (with_reducible exact glue_Set.mono _ _ _)
      | (with_reducible exact vinculumlaw27_awake.mono _)
      | (with_reducible exact vinculumlaw27_right.mono _ _ _)
      | (with_reducible exact vinculumref27_Natural.mono _ _)
      | (with_reducible exact vinculumref27_Order.mono _ _)
      | (with_reducible exact vinculumref27_Shrink.mono _ _)
      | (with_reducible exact vinculumref27_Stretch.mono _ _ _)
      | (with_reducible exact LeO.refl _)
      | (with_reducible exact LeO.none _)
      | (with_reducible refine LeO.ite ?_ ?_)
      | (with_reducible refine LeO.bind ?_ (fun _ => ?_))
      | exact ih0 _ _ _ _ _
      | exact ih1 _ _ _ _ _ _
      | exact ih2 _ _ _ _ _ _ _ _ _
      | exact ih3 _ _ _ _ _ _ _ _ _ _
      | exact glue_Set.mono _ _ _
      | exact vinculumlaw27_awake.mono _
      | exact vinculumlaw27_right.mono _ _ _
      | exact vinculumref27_Natural.mono _ _
      | exact vinculumref27_Order.mono _ _
      | exact vinculumref27_Shrink.mono _ _
      | exact vinculumref27_Stretch.mono _ _ _
      | exact LeO.none _
      | refine LeO.ite ?_ ?_
      | refine LeO.bind ?_ (fun _ => ?_)
    · intro y0 y1 y2 y3 y4 y5
      unfold vinculumlaw27_GlueLimits.l0
      repeat' first
      | (with_reducible exact ih0 _ _ _ _ _)
      | (with_reducible exact ih1 _ _ _ _ _ _)
      | (with_reducible exact ih2 _ _ _ _ _ _ _ _ _)
      | (with_reducible exact ih3 _ _ _ _ _ _ _ _ _ _)
      | (with_reducible exact glue_Set.mono _ _ _)
      | (with_reducible exact vinculumlaw27_awake.mono _)
      | (with_reducible exact vinculumlaw27_right.mono _ _ _)
      | (with_reducible exact vinculumref27_Natural.mono _ _)
      | (with_reducible exact vinculumref27_Order.mono _ _)
      | (with_reducible exact vinculumref27_Shrink.mono _ _)
      | (with_reducible exact vinculumref27_Stretch.mono _ _ _)
      | (with_reducible exact LeO.refl _)
      | (with_reducible exact LeO.none _)
      | (with_reducible refine LeO.ite ?_ ?_)
      | (with_reducible refine LeO.bind ?_ (fun _ => ?_))
      | exact ih0 _ _ _ _ _
      | exact ih1 _ _ _ _ _ _
      | exact ih2 _ _ _ _ _ _ _ _ _
      | exact ih3 _ _ _ _ _ _ _ _ _ _
      | exact glue_Set.mono _ _ _
      | exact vinculumlaw27_awake.mono _
      | exact vinculumlaw27_right.mono _ _ _
      | exact vinculumref27_Natural.mono _ _
      | exact vinculumref27_Order.mono _ _
      | exact vinculumref27_Shrink.mono _ _
      | exact vinculumref27_Stretch.mono _ _ _
      | exact LeO.none _
      | refine LeO.ite ?_ ?_
      | refine LeO.bind ?_ (fun _ => ?_)
    · intro y0 y1 y2 y3 y4 y5 y6 y7 y8
      unfold vinculumlaw27_GlueLimits.j2
      repeat' first
      | (with_reducible exact ih0 _ _ _ _ _)
      | (with_reducible exact ih1 _ _ _ _ _ _)
      | (with_reducible exact ih2 _ _ _ _ _ _ _ _ _)
      | (with_reducible exact ih3 _ _ _ _ _ _ _ _ _ _)
      | (with_reducible exact glue_Set.mono _ _ _)
      | (with_reducible exact vinculumlaw27_awake.mono _)
      | (with_reducible exact vinculumlaw27_right.mono _ _ _)
      | (with_reducible exact vinculumref27_Natural.mono _ _)
      | (with_reducible exact vinculumref27_Order.mono _ _)
      | (with_reducible exact vinculumref27_Shrink.mono _ _)
      | (with_reducible exact vinculumref27_Stretch.mono _ _ _)
      | (with_reducible exact LeO.refl _)
      | (with_reducible exact LeO.none _)
      | (with_reducible refine LeO.ite ?_ ?_)
      | (with_reducible refine LeO.bind ?_ (fun _ => ?_))
      | exact ih0 _ _ _ _ _
      | exact ih1 _ _ _ _ _ _
      | exact ih2 _ _ _ _ _ _ _ _ _
      | exact ih3 _ _ _ _ _ _ _ _ _ _
      | exact glue_Set.mono _ _ _
      | exact vinculumlaw27_awake.mono _
      | exact vinculumlaw27_right.mono _ _ _
      | exact vinculumref27_Natural.mono _ _
      | exact vinculumref27_Order.mono _ _
      | exact vinculumref27_Shrink.mono _ _
      | exact vinculumref27_Stretch.mono _ _ _
      | exact LeO.none _
      | refine LeO.ite ?_ ?_
      | refine LeO.bind ?_ (fun _ => ?_)
    · intro y0 y1 y2 y3 y4 y5 y6 y7 y8 y9
      unfold vinculumlaw27_GlueLimits.j3
      repeat' first
      | (with_reducible exact ih0 _ _ _ _ _)
      | (with_reducible exact ih1 _ _ _ _ _ _)
      | (with_reducible exact ih2 _ _ _ _ _ _ _ _ _)
      | (with_reducible exact ih3 _ _ _ _ _ _ _ _ _ _)
      | (with_reducible exact glue_Set.mono _ _ _)
      | (with_reducible exact vinculumlaw27_awake.mono _)
      | (with_reducible exact vinculumlaw27_right.mono _ _ _)
      | (with_reducible exact vinculumref27_Natural.mono _ _)
      | (with_reducible exact vinculumref27_Order.mono _ _)
      | (with_reducible exact vinculumref27_Shrink.mono _ _)
      | (with_reducible exact vinculumref27_Stretch.mono _ _ _)
      | (with_reducible exact LeO.refl _)
      | (with_reducible exact LeO.none _)
      | (with_reducible refine LeO.ite ?_ ?_)
      | (with_reducible refine LeO.bind ?_ (fun _ => ?_))
      | exact ih0 _ _ _ _ _
      | exact ih1 _ _ _ _ _ _
      | exact ih2 _ _ _ _ _ _ _ _ _
      | exact ih3 _ _ _ _ _ _ _ _ _ _
      | exact glue_Set.mono _ _ _
      | exact vinculumlaw27_awake.mono _
      | exact vinculumlaw27_right.mono _ _ _
      | exact vinculumref27_Natural.mono _ _
      | exact vinculumref27_Order.mono _ _
      | exact vinculumref27_Shrink.mono _ _
      | exact vinculumref27_Stretch.mono _ _ _
      | exact LeO.none _
      | refine LeO.ite ?_ ?_
      | refine LeO.bind ?_ (fun _ => ?_)
theorem vinculumlaw27_GlueLimits.mono : ∀ a0 a1 k, LeO (vinculumlaw27_GlueLimits.f k a0 a1) (vinculumlaw27_GlueLimits.f (k + 1) a0 a1) := by
  intro a0 a1 k
  obtain ⟨ih0, ih1, ih2, ih3⟩ := vinculumlaw27_GlueLimits.mono_l k
  unfold vinculumlaw27_GlueLimits.f
  repeat' first
      | (with_reducible exact ih0 _ _ _ _ _)
      | (with_reducible exact ih1 _ _ _ _ _ _)
      | (with_reducible exact ih2 _ _ _ _ _ _ _ _ _)
      | (with_reducible exact ih3 _ _ _ _ _ _ _ _ _ _)
      | (with_reducible exact glue_Set.mono _ _ _)
      | (with_reducible exact vinculumlaw27_awake.mono _)
      | (with_reducible exact vinculumlaw27_right.mono _ _ _)
      | (with_reducible exact vinculumref27_Natural.mono _ _)
      | (with_reducible exact vinculumref27_Order.mono _ _)
      | (with_reducible exact vinculumref27_Shrink.mono _ _)
      | (with_reducible exact vinculumref27_Stretch.mono _ _ _)
      | (with_reducible exact LeO.refl _)
      | (with_reducible exact LeO.none _)
      | (with_reducible refine LeO.ite ?_ ?_)
      | (with_reducible refine LeO.bind ?_ (fun _ => ?_))
      | exact ih0 _ _ _ _ _
      | exact ih1 _ _ _ _ _ _
      | exact ih2 _ _ _ _ _ _ _ _ _
      | exact ih3 _ _ _ _ _ _ _ _ _ _
      | exact glue_Set.mono _ _ _
      | exact vinculumlaw27_awake.mono _
      | exact vinculumlaw27_right.mono _ _ _
      | exact vinculumref27_Natural.mono _ _
      | exact vinculumref27_Order.mono _ _
      | exact vinculumref27_Shrink.mono _ _
      | exact vinculumref27_Stretch.mono _ _ _
      | exact LeO.none _
      | refine LeO.ite ?_ ?_
      | refine LeO.bind ?_ (fun _ => ?_)
def vinculumlaw27_GlueLimits.T13 : Bool × List (List Nat × List Nat) := (true, [([], []), ([], []), ([0, 1], [0, 1]), ([2], [2]), ([], []), ([], []), ([4, 5], [4, 5]), ([6], [6]), ([7], [7]), ([3, 8], [3, 8]), ([9, 0, 1, 2, 3, 4, 5, 6, 7, 8, 9], [9])])
def vinculumlaw27_GlueLimits.B13 : List Nat := [0, 0, 3, 7, 0, 0, 48, 112, 240, 511, 1023]
theorem vinculumlaw27_GlueLimits.tab13 : rtab .any (opsOf Try.f7 13) = vinculumlaw27_GlueLimits.T13 := by kernel_rfl
theorem vinculumlaw27_GlueLimits.bits13 : waitsOk vinculumlaw27_GlueLimits.T13.2 vinculumlaw27_GlueLimits.B13 = true := by kernel_rfl
def vinculumlaw27_GlueLimits.T14 : Bool × List (List Nat × List Nat) := (true, [([], []), ([], []), ([0, 1], [0, 1]), ([2], [2]), ([3], [3]), ([], []), ([5], [5]), ([4, 6, 0, 1, 2, 3, 4], [4]), ([6, 7, 0, 1, 2, 3, 4, 5, 6, 7], [6])])
def vinculumlaw27_GlueLimits.B14 : List Nat := [0, 0, 3, 7, 15, 0, 32, 127, 255]
theorem vinculumlaw27_GlueLimits.tab14 : rtab .any (opsOf Try.f7 14) = vinculumlaw27_GlueLimits.T14 := by kernel_rfl
theorem vinculumlaw27_GlueLimits.bits14 : waitsOk vinculumlaw27_GlueLimits.T14.2 vinculumlaw27_GlueLimits.B14 = true := by kernel_rfl
def vinculumlaw27_GlueLimits.T16 : Bool × List (List Nat × List Nat) := (true, [([], []), ([], []), ([0, 1], [0, 1]), ([2], [2]), ([3], [3]), ([], []), ([], []), ([5, 6], [5, 6]), ([4, 7, 0, 1, 2, 3, 4], [4]), ([7, 8, 0, 1, 2, 3, 4, 5, 6, 7, 8], [7])])
def vinculumlaw27_GlueLimits.B16 : List Nat := [0, 0, 3, 7, 15, 0, 0, 96, 255, 511]
theorem vinculumlaw27_GlueLimits.tab16 : rtab .any (opsOf Try.f7 16) = vinculumlaw27_GlueLimits.T16 := by kernel_rfl
theorem vinculumlaw27_GlueLimits.bits16 : waitsOk vinculumlaw27_GlueLimits.T16.2 vinculumlaw27_GlueLimits.B16 = true := by kernel_rfl
set_option maxHeartbeats 8000000 in
set_option maxRecDepth 100000 in
theorem vinculumlaw27_GlueLimits.calls (k : Nat) (A0 : Option Addr) (c0 : Nat) (l0 : List (S36)) (a1 : Int) (r : Bool) (w : World) (hr0 : Kd.C k36 w A0 l0.length l0) (hc0 : l0.length ≤ c0) (h : vinculumlaw27_GlueLimits.f k l0 a1 = some r) :
    Calls Try.prog 7 #[.slice A0 l0.length c0, .int .i64 a1] w fun e w' => e = .returned (.bool r) ∧ Below w.heap.size w w' := by
  have HR0 := Aside0.mk hr0
  have HC0 := Aside0.mk hc0
  clear hr0 hc0
  have HB := Aside0.mk (Below.refl w.heap.size w)
  have H : ((vinculumlaw27_awake.f k).bind fun t237 => (if t237 = true then ((vinculumlaw27_right.f k l0 a1).bind fun t238 => (if t238 = true then ((glue_Set.f k l0 a1).bind fun bt239 => (if bt239.2.2 = 0 then (vinculumlaw27_GlueLimits.j0 k l0 a1 bt239.1 bt239.2.1 ((bt239.1.length : Int) != (l0.length : Int))) else (vinculumlaw27_GlueLimits.j0 k l0 a1 bt239.1 bt239.2.1 true))) else (some true))) else (some false))) = some r := h
  clear h
  replace H := Option.bind_eq_some_iff.mp H
  obtain ⟨t237, A30, H⟩ := H
  replace H : (if t237 = true then ((vinculumlaw27_right.f k l0 a1).bind fun t238 => (if t238 = true then ((glue_Set.f k l0 a1).bind fun bt239 => (if bt239.2.2 = 0 then (vinculumlaw27_GlueLimits.j0 k l0 a1 bt239.1 bt239.2.1 ((bt239.1.length : Int) != (l0.length : Int))) else (vinculumlaw27_GlueLimits.j0 k l0 a1 bt239.1 bt239.2.1 true))) else (some true))) else (some false)) = some r := H
  have A3 := Aside0.mk A30
  clear A30
  by_cases c4 : t237 = true
  · subst c4
    have H1 : ((vinculumlaw27_right.f k l0 a1).bind fun t238 => (if t238 = true then ((glue_Set.f k l0 a1).bind fun bt239 => (if bt239.2.2 = 0 then (vinculumlaw27_GlueLimits.j0 k l0 a1 bt239.1 bt239.2.1 ((bt239.1.length : Int) != (l0.length : Int))) else (vinculumlaw27_GlueLimits.j0 k l0 a1 bt239.1 bt239.2.1 true))) else (some true))) = some r := by rw [if_pos rfl] at H; exact H
    clear H
    have H := H1
    clear H1
    replace H := Option.bind_eq_some_iff.mp H
    obtain ⟨t238, A50, H⟩ := H
    replace H : (if t238 = true then ((glue_Set.f k l0 a1).bind fun bt239 => (if bt239.2.2 = 0 then (vinculumlaw27_GlueLimits.j0 k l0 a1 bt239.1 bt239.2.1 ((bt239.1.length : Int) != (l0.length : Int))) else (vinculumlaw27_GlueLimits.j0 k l0 a1 bt239.1 bt239.2.1 true))) else (some true)) = some r := H
    have A5 := Aside0.mk A50
    clear A50
    by_cases c6 : t238 = true
    · subst c6
      have H1 : ((glue_Set.f k l0 a1).bind fun bt239 => (if bt239.2.2 = 0 then (vinculumlaw27_GlueLimits.j0 k l0 a1 bt239.1 bt239.2.1 ((bt239.1.length : Int) != (l0.length : Int))) else (vinculumlaw27_GlueLimits.j0 k l0 a1 bt239.1 bt239.2.1 true))) = some r := by rw [if_pos rfl] at H; exact H
      clear H
      have H := H1
      clear H1
      replace H := Option.bind_eq_some_iff.mp H
      obtain ⟨⟨t239, t240, t241⟩, A70, H⟩ := H
      replace H : (if t241 = 0 then (vinculumlaw27_GlueLimits.j0 k l0 a1 t239 t240 ((t239.length : Int) != (l0.length : Int))) else (vinculumlaw27_GlueLimits.j0 k l0 a1 t239 t240 true)) = some r := H
      have A7 := Aside0.mk A70
      clear A70
      have HC8 := Aside0.mk H
      clear H
      go_enter Try.func7, Try.ntmps7
      go_upto_region 6 with (first | ((with_reducible refine gate_callee (f := 13) rfl ?_); refine goesL_ (some 15) rfl rfl Try.func13 (by kernel_rfl) rfl #[] rfl (by (try simp only [List.map_toArray, List.map_cons, List.map_nil]); first | done | rfl | (simp only [List.length_drop, List.length_take]; rfl)) ?_; (with_reducible refine (vinculumlaw27_awake.calls k  true _ A3.out).mono ?_); rintro e w9 ⟨rfl, hb⟩; refine ⟨_, rfl, ?_⟩; have n0_ := Aside0.mk (below_step (by repeat (first | (with_reducible first | exact HB.out | apply below_alloc | apply pw_below_drewN | apply below_drew1) | exact HB.out)) hb); clear HB; have HB := n0_; clear n0_; (try clear hb); (try clear hb2); (try clear hk); (try clear hi)) | ((with_reducible refine gate_callee (f := 27) rfl ?_); refine goesL_ (some 19) rfl rfl Try.func27 (by kernel_rfl) rfl #[.slice A0 l0.length c0, .int .i64 a1] rfl (by (try simp only [List.map_toArray, List.map_cons, List.map_nil]); first | done | rfl | (simp only [List.length_drop, List.length_take]; rfl)) ?_; (with_reducible refine (vinculumlaw27_right.calls k _ _ l0 a1 true _ ?side1 ?side2 A5.out).mono ?_); (case side1 => repeat (first | exact (Kd.C_below HR0.out HB.out) | (with_reducible refine Kd.C_alloc ?_ _) | (with_reducible refine Kd.C_drewN ?_ _) | (with_reducible refine Kd.C_drew ?_))); (case side2 => exact HC0.out); rintro e w10 ⟨rfl, hb⟩; refine ⟨_, rfl, ?_⟩; have n0_ := Aside0.mk (below_step (by repeat (first | (with_reducible first | exact HB.out | apply below_alloc | apply pw_below_drewN | apply below_drew1) | exact HB.out)) hb); clear HB; have HB := n0_; clear n0_; (try clear hb); (try clear hb2); (try clear hk); (try clear hi)) | ((with_reducible refine gate_callee (f := 22) rfl ?_); refine goesL_ (some 24) rfl rfl Try.func22 (by kernel_rfl) rfl #[.slice A0 l0.length c0, .int .i64 a1] rfl (by (try simp only [List.map_toArray, List.map_cons, List.map_nil]); first | done | rfl | (simp only [List.length_drop, List.length_take]; rfl)) ?_; (with_reducible refine (glue_Set.calls k _ _ l0 a1 t239 t240 t241 _ ?side1 ?side2 A7.out).mono ?_); (case side1 => repeat (first | exact (Kd.C_below HR0.out HB.out) | (with_reducible refine Kd.C_alloc ?_ _) | (with_reducible refine Kd.C_drewN ?_ _) | (with_reducible refine Kd.C_drew ?_))); (case side2 => exact HC0.out); rintro e w11 ⟨v242, rfl, ho0, hb⟩; refine ⟨_, rfl, ?_⟩; have n0_ := Aside0.mk (Kd.R_lower ho0 (below_size (by repeat (first | (with_reducible first | exact HB.out | apply below_alloc | apply pw_below_drewN | apply below_drew1) | exact HB.out)))); have n1_ := Aside0.mk (below_step (by repeat (first | (with_reducible first | exact HB.out | apply below_alloc | apply pw_below_drewN | apply below_drew1) | exact HB.out)) hb); clear HB; have HO243 := n0_; have HB := n1_; clear n0_ n1_; (try clear hb); (try clear hb2); (try clear hk); (try clear hi); (try clear ho0)))
      (try simp only [Act.put, List.setIfInBounds_toArray, List.set_cons_zero, List.set_cons_succ])
      go_cut [36] (fun v36 wc => ∃ (kq : Nat) (x36_7 : Bool), v36 = .bool x36_7 ∧ Aside0 (vinculumlaw27_GlueLimits.j0 kq l0 a1 t239 t240 x36_7 = some r) ∧ Aside0 (kq ≤ k) ∧ Aside0 (Kd.R (Kd.int .i64) 3 wc w.heap.size (fun _ => True) v242 t239) ∧ Aside0 (Below w.heap.size w wc))
      case first =>
        have H := HC8.out
        clear HC8
        by_cases c12 : t241 = 0
        · rw [if_pos c12] at H
          have c12b0 : (t241 == 0) = true := beq_iff_eq.mpr c12
          have c12b1 : (t241 != 0) = false := bne_eq_false_iff_eq.mpr c12
          clear c12
          (first | rw [c12b0] | (simp only [i64_w, i32_w]; rw [c12b0]) | skip)
          have H' := Aside0.mk H
          clear H
          obtain ⟨Ao13, co13, eo13⟩ := Kd.R_slice HO243.out
          subst eo13
          go_wp2
          go_meet
          case rel => exact ⟨_, (((t239.length : Int) != (l0.length : Int))), (by first | rfl | (simp; done) | (simp [*]; done)), H', ⟨by first | omega | exact Nat.le_refl _⟩, ⟨by (with_reducible repeat (first | apply Kd.R_alloc | apply Kd.R_drewN | apply Kd.R_drew)); exact HO243.out⟩, ⟨by repeat (first | (with_reducible first | exact HB.out | apply below_alloc | apply pw_below_drewN | apply below_drew1) | exact HB.out)⟩⟩
        · rw [if_neg c12] at H
          have c12b0 : (t241 == 0) = false := beq_eq_false_iff_ne.mpr c12
          have c12b1 : (t241 != 0) = true := bne_iff_ne.mpr c12
          (first | rw [c12b0] | (simp only [i64_w, i32_w]; rw [c12b0]) | skip)
          have H' := Aside0.mk H
          clear H
          go_wp2
          go_meet
          case rel => exact ⟨_, (true), (by first | rfl | (simp; done) | (simp [*]; done)), H', ⟨by first | omega | exact Nat.le_refl _⟩, ⟨by (with_reducible repeat (first | apply Kd.R_alloc | apply Kd.R_drewN | apply Kd.R_drew)); exact HO243.out⟩, ⟨by repeat (first | (with_reducible first | exact HB.out | apply below_alloc | apply pw_below_drewN | apply below_drew1) | exact HB.out)⟩⟩
      case rest =>
        clear HC8
        try clear c1
        try clear c2
        try clear p2
        try clear c4
        try clear c6
        try clear c7
        try clear c12
        try clear c12b0
        try clear c12b1
        try clear c13
        obtain ⟨kq, x36_7, rfl, HA, HJ7, HO_5, HB⟩ := hcut
        cases kq with
        | zero => exact absurd HA.out (by simp [vinculumlaw27_GlueLimits.j0])
        | succ kj7 =>
          have H := HA.out
          clear HA
          simp only [vinculumlaw27_GlueLimits.j0] at H
          by_cases c14 : x36_7 = true
          · subst c14
            have H1 : (some false) = some r := by rw [if_pos rfl] at H; exact H
            clear H
            have H := H1
            clear H1
            obtain rfl := Option.some.inj H
            go_wp2
            go_ret
            exact ⟨by first | rfl | (simp [errW_none, errW_some] <;> rfl) | (simp [*, errW_none, errW_some] <;> rfl), by repeat (first | (with_reducible first | exact HB.out | apply below_alloc | apply pw_below_drewN | apply below_drew1) | exact HB.out)⟩
          · replace c14 := Bool.eq_false_iff.mpr c14
            subst c14
            have H1 : ((vinculumref27_Natural.f kj7 l0).bind fun t244 => ((vinculumref27_Order.f kj7 l0).bind fun t245 => (vinculumlaw27_GlueLimits.l0 kj7 l0 t239 t240 (wrap64 (a1 - t244)) t245 0))) = some r := by rw [if_neg (show ¬ (false = true) by decide)] at H; exact H
            clear H
            have H := H1
            clear H1
            replace H := Option.bind_eq_some_iff.mp H
            obtain ⟨t244, A150, H⟩ := H
            replace H : ((vinculumref27_Order.f kj7 l0).bind fun t245 => (vinculumlaw27_GlueLimits.l0 kj7 l0 t239 t240 (wrap64 (a1 - t244)) t245 0)) = some r := H
            have A15 := Aside0.mk A150
            clear A150
            replace H := Option.bind_eq_some_iff.mp H
            obtain ⟨t245, A160, H⟩ := H
            replace H : (vinculumlaw27_GlueLimits.l0 kj7 l0 t239 t240 (wrap64 (a1 - t244)) t245 0) = some r := H
            have A16 := Aside0.mk A160
            clear A160
            have H' := Aside0.mk H
            clear H
            go_wp2_with (first | ((with_reducible refine gate_callee (f := 17) rfl ?_); refine goesL_ (some 39) rfl rfl Try.func17 (by kernel_rfl) rfl #[.slice A0 l0.length c0] rfl (by (try simp only [List.map_toArray, List.map_cons, List.map_nil]); first | done | rfl | (simp only [List.length_drop, List.length_take]; rfl)) ?_; (with_reducible refine (vinculumref27_Natural.calls kj7 _ _ l0 t244 _ ?side1 ?side2 A15.out).mono ?_); (case side1 => repeat (first | exact (Kd.C_below HR0.out HB.out) | (with_reducible refine Kd.C_alloc ?_ _) | (with_reducible refine Kd.C_drewN ?_ _) | (with_reducible refine Kd.C_drew ?_))); (case side2 => exact HC0.out); rintro e w17 ⟨rfl, hb⟩; refine ⟨_, rfl, ?_⟩; have n0_ := Aside0.mk (Kd.R_below (by (with_reducible repeat (first | apply Kd.R_alloc | apply Kd.R_drewN | apply Kd.R_drew)); exact HO_5.out) hb); have n1_ := Aside0.mk (below_step (by repeat (first | (with_reducible first | exact HB.out | apply below_alloc | apply pw_below_drewN | apply below_drew1) | exact HB.out)) hb); clear HO_5; clear HB; have HO_5 := n0_; have HB := n1_; clear n0_ n1_; (try clear hb); (try clear hb2); (try clear hk); (try clear hi)) | ((with_reducible refine gate_callee (f := 28) rfl ?_); refine goesL_ (some 42) rfl rfl Try.func28 (by kernel_rfl) rfl #[.slice A0 l0.length c0] rfl (by (try simp only [List.map_toArray, List.map_cons, List.map_nil]); first | done | rfl | (simp only [List.length_drop, List.length_take]; rfl)) ?_; (with_reducible refine (vinculumref27_Order.calls kj7 _ _ l0 t245 _ ?side1 ?side2 A16.out).mono ?_); (case side1 => repeat (first | exact (Kd.C_below HR0.out HB.out) | (with_reducible refine Kd.C_alloc ?_ _) | (with_reducible refine Kd.C_drewN ?_ _) | (with_reducible refine Kd.C_drew ?_))); (case side2 => exact HC0.out); rintro e w18 ⟨rfl, hb⟩; refine ⟨_, rfl, ?_⟩; have n0_ := Aside0.mk (Kd.R_below (by (with_reducible repeat (first | apply Kd.R_alloc | apply Kd.R_drewN | apply Kd.R_drew)); exact HO_5.out) hb); have n1_ := Aside0.mk (below_step (by repeat (first | (with_reducible first | exact HB.out | apply below_alloc | apply pw_below_drewN | apply below_drew1) | exact HB.out)) hb); clear HO_5; clear HB; have HO_5 := n0_; have HB := n1_; clear n0_ n1_; (try clear hb); (try clear hb2); (try clear hk); (try clear hi)))
            go_loopg [10] kj7 (fun kq v10 w' => ∃ (x10_2 : Int), v10 = .int .i64 x10_2 ∧ Aside0 (vinculumlaw27_GlueLimits.l0 kq l0 t239 t240 (wrap64 (a1 - t244)) t245 x10_2 = some r) ∧ Aside0 (kq ≤ kj7) ∧ Aside0 (Kd.R (Kd.int .i64) 3 w' w.heap.size (fun _ => True) v242 t239) ∧ Aside0 (Below w.heap.size w w'))
            case atStart => exact ⟨(0), (by first | rfl | (simp; done) | (simp [*]; done)), H', ⟨Nat.le_refl _⟩, ⟨by (with_reducible repeat (first | apply Kd.R_alloc | apply Kd.R_drewN | apply Kd.R_drew)); exact HO_5.out⟩, ⟨by repeat (first | (with_reducible first | exact HB.out | apply below_alloc | apply pw_below_drewN | apply below_drew1) | exact HB.out)⟩⟩
            case round =>
              clear H'
              try clear c1
              try clear c2
              try clear p2
              try clear c4
              try clear c6
              try clear p6
              try clear c7
              try clear c12
              try clear c12b0
              try clear c12b1
              try clear c13
              try clear c14
              try clear c17
              try clear p2
              obtain ⟨x10_2, rfl, HA, HK2, HO_5, HB⟩ := hrel
              cases gk with
              | zero => exact absurd HA.out (by simp [vinculumlaw27_GlueLimits.l0])
              | succ k2 =>
                have H := HA.out
                clear HA
                simp only [vinculumlaw27_GlueLimits.l0] at H
                by_cases c19 : x10_2 < (t239.length : Int)
                · rw [if_pos c19] at H
                  have c19b0 : decide (x10_2 < (t239.length : Int)) = true := decide_eq_true c19
                  clear c19
                  by_cases c20 : 0 ≤ x10_2
                  · rw [if_pos c20] at H
                    have c20b0 : decide (0 ≤ x10_2) = true := decide_eq_true c20
                    clear c20
                    by_cases c21 : x10_2 < (l0.length : Int)
                    · rw [if_pos c21] at H
                      have c21b0 : decide (x10_2 < (l0.length : Int)) = true := decide_eq_true c21
                      clear c21
                      replace H := Option.bind_eq_some_iff.mp H
                      obtain ⟨t249, A220, H⟩ := H
                      replace H : (if (wrap64 (a1 - t244)) ≥ 0 then ((vinculumref27_Stretch.f k2 l0 t245).bind fun t251 => (if ((rd_T36 l0 x10_2).f3) = t245 then (vinculumlaw27_GlueLimits.j2 k2 l0 t239 t240 (wrap64 (a1 - t244)) t245 x10_2 (wrap64 ((rd t239 x10_2) - ((rd_T36 l0 x10_2).f0))) ((rd_T36 l0 x10_2).f1) t251) else (vinculumlaw27_GlueLimits.j2 k2 l0 t239 t240 (wrap64 (a1 - t244)) t245 x10_2 (wrap64 ((rd t239 x10_2) - ((rd_T36 l0 x10_2).f0))) 0 t251))) else (vinculumlaw27_GlueLimits.j2 k2 l0 t239 t240 (wrap64 (a1 - t244)) t245 x10_2 (wrap64 ((rd t239 x10_2) - ((rd_T36 l0 x10_2).f0))) ((rd_T36 l0 x10_2).f2) t249)) = some r := H
                      have A22 := Aside0.mk A220
                      clear A220
                      have HC23 := Aside0.mk H
                      clear H
                      obtain ⟨Ao24, co24, eo24⟩ := Kd.R_slice HO_5.out
                      subst eo24
                      try go_wp2
                      have n0_ := Aside0.mk (Kd.R_drew HO_5.out)
                      have n1_ := Aside0.mk (below_drew1 HB.out)
                      clear HO_5
                      clear HB
                      have HO_5 := n0_
                      have HB := n1_
                      clear n0_ n1_
                      have p246 : 0 ≤ (x10_2 : Int) := of_decide_eq_true (by first | (with_reducible assumption) | assumption)
                      have q246 : x10_2 < (t239.length : Int) := of_decide_eq_true (by first | (with_reducible assumption) | assumption)
                      obtain ⟨ad246, e246, hx246_0⟩ := Kd.at_int (Kd.R_reads' HO_5.out).2.2 x10_2 p246 q246
                      cases e246
                      replace p246 := eq_true p246
                      replace q246 := eq_true q246
                      have p247 : 0 ≤ (x10_2 : Int) := of_decide_eq_true (by first | (with_reducible assumption) | assumption)
                      have q247 : x10_2 < (l0.length : Int) := of_decide_eq_true (by first | (with_reducible assumption) | assumption)
                      obtain ⟨ad247, e247, hx247_0, hx247_1, hx247_2, hx247_3⟩ := at_T36 HR0.out x10_2 p247 q247
                      have hw247_3 := hx247_3
                      have hw247_2 := hx247_2
                      have hw247_1 := hx247_1
                      have hw247_0 := hx247_0
                      cases e247
                      replace hx247_0 := (HB.out.cell (World.block_lt_of_cell? w _ hx247_0)).trans hx247_0
                      replace hx247_1 := (HB.out.cell (World.block_lt_of_cell? w _ hx247_1)).trans hx247_1
                      replace hx247_2 := (HB.out.cell (World.block_lt_of_cell? w _ hx247_2)).trans hx247_2
                      replace hx247_3 := (HB.out.cell (World.block_lt_of_cell? w _ hx247_3)).trans hx247_3
                      replace p247 := eq_true p247
                      replace q247 := eq_true q247
                      refine start_ (n := 11) (S := fun w' => w'.cell? (ad246.add (x10_2).toNat) = some (.int .i64 (rd t239 x10_2)) ∧ w'.cell? (ad247.add ((x10_2).toNat * 4)) = some (.int .i64 ((rd_T36 l0 x10_2).f0)) ∧ w'.cell? ⟨(ad247.add ((x10_2).toNat * 4)).block, (ad247.add ((x10_2).toNat * 4)).off + 1, none⟩ = some (.int .i64 ((rd_T36 l0 x10_2).f1)) ∧ w'.cell? ⟨(ad247.add ((x10_2).toNat * 4)).block, (ad247.add ((x10_2).toNat * 4)).off + 2, none⟩ = some (.int .i64 ((rd_T36 l0 x10_2).f2)) ∧ w'.cell? ⟨(ad247.add ((x10_2).toNat * 4)).block, (ad247.add ((x10_2).toNat * 4)).off + 3, none⟩ = some (.int .i64 ((rd_T36 l0 x10_2).f3))) (ds := []) #[false, false, false, false, false, false, false, false, false, false, false] (by kernel_rfl) rfl rfl ⟨hx246_0, ((HB.out.cell (World.block_lt_of_cell? w _ hw247_0)).trans hw247_0), ((HB.out.cell (World.block_lt_of_cell? w _ hw247_1)).trans hw247_1), ((HB.out.cell (World.block_lt_of_cell? w _ hw247_2)).trans hw247_2), ((HB.out.cell (World.block_lt_of_cell? w _ hw247_3)).trans hw247_3)⟩ (fun hHeld => ?_); refine with_tabW vinculumlaw27_GlueLimits.tab13 vinculumlaw27_GlueLimits.bits13 (fun HT_ HW_ => ?_)
                      generalize wr.drew = w25 at HO_5 HB hx246_0 hx247_0 hx247_1 hx247_2 hx247_3 hHeld ⊢
                      refine pure_ (i := 0) (N := some 49) (v := ?_) (a' := ?_) #[true, false, false, false, false, false, false, false, false, false, false] rfl rfl (any_of HT_.out (by kernel_rfl)) (fun _ _ _ h => h) (Or.inl ⟨by rfl, ?_⟩) ?_ ?_
                      rotate_left
                      · intro w'
                        go_simp
                        with_reducible rfl
                      rotate_left
                      · simp only [Act.put, List.setIfInBounds_toArray, List.set_cons_zero, List.set_cons_succ, i64_w, i32_w]
                        rfl
                      refine pure_ (i := 1) (N := some 50) (v := ?_) (a' := ?_) #[true, true, false, false, false, false, false, false, false, false, false] rfl rfl (any_of HT_.out (by kernel_rfl)) (fun _ _ _ h => h) (Or.inl ⟨by rfl, ?_⟩) ?_ ?_
                      rotate_left
                      · intro w'
                        go_simp
                        with_reducible rfl
                      rotate_left
                      · simp only [Act.put, List.setIfInBounds_toArray, List.set_cons_zero, List.set_cons_succ, i64_w, i32_w]
                        rfl
                      refine pure_ (i := 2) (N := some 51) (v := ?_) (a' := ?_) #[true, true, true, false, false, false, false, false, false, false, false] rfl rfl (any_of HT_.out (by kernel_rfl)) (fun _ _ _ h => h) (Or.inl ⟨by rfl, ?_⟩) ?_ ?_
                      rotate_left
                      · intro w'
                        go_simp
                        with_reducible rfl
                      rotate_left
                      · simp only [Act.put, List.setIfInBounds_toArray, List.set_cons_zero, List.set_cons_succ, i64_w, i32_w]
                        rfl
                      refine pure_ (i := 4) (N := some 53) (v := ?_) (a' := ?_) #[true, true, true, false, true, false, false, false, false, false, false] rfl rfl (any_of HT_.out (by kernel_rfl)) (fun _ _ _ h => h) (Or.inl ⟨by rfl, ?_⟩) ?_ ?_
                      rotate_left
                      · intro w'
                        go_simp
                        with_reducible rfl
                      rotate_left
                      · simp only [Act.put, List.setIfInBounds_toArray, List.set_cons_zero, List.set_cons_succ, i64_w, i32_w]
                        rfl
                      refine pure_ (i := 5) (N := some 54) (v := ?_) (a' := ?_) #[true, true, true, false, true, true, false, false, false, false, false] rfl rfl (any_of HT_.out (by kernel_rfl)) (fun _ _ _ h => h) (Or.inl ⟨by rfl, ?_⟩) ?_ ?_
                      rotate_left
                      · intro w'
                        go_simp
                        with_reducible rfl
                      rotate_left
                      · simp only [Act.put, List.setIfInBounds_toArray, List.set_cons_zero, List.set_cons_succ, i64_w, i32_w]
                        rfl
                      refine pure_ (i := 6) (N := some 55) (v := ?_) (a' := ?_) #[true, true, true, false, true, true, true, false, false, false, false] rfl rfl (any_of HT_.out (by kernel_rfl)) (fun _ _ _ h => h) (Or.inl ⟨by rfl, ?_⟩) ?_ ?_
                      rotate_left
                      · intro w'
                        go_simp
                        with_reducible rfl
                      rotate_left
                      · simp only [Act.put, List.setIfInBounds_toArray, List.set_cons_zero, List.set_cons_succ, i64_w, i32_w]
                        rfl
                      refine pure_ (i := 7) (N := some 56) (v := ?_) (a' := ?_) #[true, true, true, false, true, true, true, true, false, false, false] rfl rfl (any_of HT_.out (by kernel_rfl)) (fun _ _ _ h => h) (Or.inl ⟨by rfl, ?_⟩) ?_ ?_
                      rotate_left
                      · intro w'
                        go_simp
                        with_reducible rfl
                      rotate_left
                      · simp only [Act.put, List.setIfInBounds_toArray, List.set_cons_zero, List.set_cons_succ, i64_w, i32_w]
                        rfl
                      refine take_ (i := 3) (N := some 52) (v := ?_) (a' := ?_) #[true, true, true, true, true, true, true, true, false, false, false] rfl rfl (take_ofW HT_.out HW_.out (by kernel_rfl)) (fun _ _ _ h => h) (Or.inl ⟨by rfl, ?_⟩) hHeld ?_ ?_
                      rotate_left
                      · rintro w' ⟨s0, s1, s2, s3, s4⟩
                        go_simp
                        with_reducible rfl
                      rotate_left
                      · simp only [Act.put, List.setIfInBounds_toArray, List.set_cons_zero, List.set_cons_succ, i64_w, i32_w]
                        rfl
                      refine take_ (i := 8) (N := some 57) (v := ?_) (a' := ?_) #[true, true, true, true, true, true, true, true, true, false, false] rfl rfl (take_ofW HT_.out HW_.out (by kernel_rfl)) (fun _ _ _ h => h) (Or.inl ⟨by rfl, ?_⟩) hHeld ?_ ?_
                      rotate_left
                      · rintro w' ⟨s0, s1, s2, s3, s4⟩
                        go_simp
                        with_reducible rfl
                      rotate_left
                      · simp only [Act.put, List.setIfInBounds_toArray, List.set_cons_zero, List.set_cons_succ, i64_w, i32_w]
                        rfl
                      refine pure_ (i := 9) (N := some 58) (v := ?_) (a' := ?_) #[true, true, true, true, true, true, true, true, true, true, false] rfl rfl (any_of HT_.out (by kernel_rfl)) (fun _ _ _ h => h) (Or.inl ⟨by rfl, ?_⟩) ?_ ?_
                      rotate_left
                      · intro w'
                        go_simp
                        with_reducible rfl
                      rotate_left
                      · simp only [Act.put, List.setIfInBounds_toArray, List.set_cons_zero, List.set_cons_succ, i64_w, i32_w]
                        rfl
                      refine pure_ (i := 10) (N := some 11) (v := ?_) (a' := ?_) #[true, true, true, true, true, true, true, true, true, true, true] rfl rfl (any_of HT_.out (by kernel_rfl)) (fun _ _ _ h => h) (Or.inl ⟨by rfl, ?_⟩) ?_ ?_
                      rotate_left
                      · intro w'
                        go_simp
                        with_reducible rfl
                      rotate_left
                      · simp only [Act.put, List.setIfInBounds_toArray, List.set_cons_zero, List.set_cons_succ, i64_w, i32_w]
                        rfl
                      refine done_ (done_of HT_.out (by kernel_rfl)) ?_
                      try go_wp2
                      have n0_ := Aside0.mk (Kd.R_drew HO_5.out)
                      have n1_ := Aside0.mk (below_drew1 HB.out)
                      clear HO_5
                      clear HB
                      have HO_5 := n0_
                      have HB := n1_
                      clear n0_ n1_
                      have p248 : 0 ≤ (x10_2 : Int) := of_decide_eq_true (by first | (with_reducible assumption) | assumption)
                      have q248 : x10_2 < (l0.length : Int) := of_decide_eq_true (by first | (with_reducible assumption) | assumption)
                      obtain ⟨ad248, e248, hx248_0, hx248_1, hx248_2, hx248_3⟩ := at_T36 HR0.out x10_2 p248 q248
                      have hw248_3 := hx248_3
                      have hw248_2 := hx248_2
                      have hw248_1 := hx248_1
                      have hw248_0 := hx248_0
                      obtain rfl : ad247 = ad248 := (by injection e248)
                      replace hx248_0 := (HB.out.cell (World.block_lt_of_cell? w _ hx248_0)).trans hx248_0
                      replace hx248_1 := (HB.out.cell (World.block_lt_of_cell? w _ hx248_1)).trans hx248_1
                      replace hx248_2 := (HB.out.cell (World.block_lt_of_cell? w _ hx248_2)).trans hx248_2
                      replace hx248_3 := (HB.out.cell (World.block_lt_of_cell? w _ hx248_3)).trans hx248_3
                      replace p248 := eq_true p248
                      replace q248 := eq_true q248
                      refine start_ (n := 9) (S := fun w' => w'.cell? (ad247.add ((x10_2).toNat * 4)) = some (.int .i64 ((rd_T36 l0 x10_2).f0)) ∧ w'.cell? ⟨(ad247.add ((x10_2).toNat * 4)).block, (ad247.add ((x10_2).toNat * 4)).off + 1, none⟩ = some (.int .i64 ((rd_T36 l0 x10_2).f1)) ∧ w'.cell? ⟨(ad247.add ((x10_2).toNat * 4)).block, (ad247.add ((x10_2).toNat * 4)).off + 2, none⟩ = some (.int .i64 ((rd_T36 l0 x10_2).f2)) ∧ w'.cell? ⟨(ad247.add ((x10_2).toNat * 4)).block, (ad247.add ((x10_2).toNat * 4)).off + 3, none⟩ = some (.int .i64 ((rd_T36 l0 x10_2).f3))) (ds := []) #[false, false, false, false, false, false, false, false, false] (by kernel_rfl) rfl rfl ⟨((HB.out.cell (World.block_lt_of_cell? w _ hw248_0)).trans hw248_0), ((HB.out.cell (World.block_lt_of_cell? w _ hw248_1)).trans hw248_1), ((HB.out.cell (World.block_lt_of_cell? w _ hw248_2)).trans hw248_2), ((HB.out.cell (World.block_lt_of_cell? w _ hw248_3)).trans hw248_3)⟩ (fun hHeld => ?_); refine with_tabW vinculumlaw27_GlueLimits.tab14 vinculumlaw27_GlueLimits.bits14 (fun HT_ HW_ => ?_)
                      generalize w25.drew = w26 at HO_5 HB hx248_0 hx248_1 hx248_2 hx248_3 hHeld ⊢
                      refine pure_ (i := 0) (N := some 59) (v := ?_) (a' := ?_) #[true, false, false, false, false, false, false, false, false] rfl rfl (any_of HT_.out (by kernel_rfl)) (fun _ _ _ h => h) (Or.inl ⟨by rfl, ?_⟩) ?_ ?_
                      rotate_left
                      · intro w'
                        go_simp
                        with_reducible rfl
                      rotate_left
                      · simp only [Act.put, List.setIfInBounds_toArray, List.set_cons_zero, List.set_cons_succ, i64_w, i32_w]
                        rfl
                      refine pure_ (i := 1) (N := some 60) (v := ?_) (a' := ?_) #[true, true, false, false, false, false, false, false, false] rfl rfl (any_of HT_.out (by kernel_rfl)) (fun _ _ _ h => h) (Or.inl ⟨by rfl, ?_⟩) ?_ ?_
                      rotate_left
                      · intro w'
                        go_simp
                        with_reducible rfl
                      rotate_left
                      · simp only [Act.put, List.setIfInBounds_toArray, List.set_cons_zero, List.set_cons_succ, i64_w, i32_w]
                        rfl
                      refine pure_ (i := 2) (N := some 61) (v := ?_) (a' := ?_) #[true, true, true, false, false, false, false, false, false] rfl rfl (any_of HT_.out (by kernel_rfl)) (fun _ _ _ h => h) (Or.inl ⟨by rfl, ?_⟩) ?_ ?_
                      rotate_left
                      · intro w'
                        go_simp
                        with_reducible rfl
                      rotate_left
                      · simp only [Act.put, List.setIfInBounds_toArray, List.set_cons_zero, List.set_cons_succ, i64_w, i32_w]
                        rfl
                      refine pure_ (i := 3) (N := some 62) (v := ?_) (a' := ?_) #[true, true, true, true, false, false, false, false, false] rfl rfl (any_of HT_.out (by kernel_rfl)) (fun _ _ _ h => h) (Or.inl ⟨by rfl, ?_⟩) ?_ ?_
                      rotate_left
                      · intro w'
                        go_simp
                        with_reducible rfl
                      rotate_left
                      · simp only [Act.put, List.setIfInBounds_toArray, List.set_cons_zero, List.set_cons_succ, i64_w, i32_w]
                        rfl
                      refine pure_ (i := 5) (N := some 64) (v := ?_) (a' := ?_) #[true, true, true, true, false, true, false, false, false] rfl rfl (any_of HT_.out (by kernel_rfl)) (fun _ _ _ h => h) (Or.inl ⟨by rfl, ?_⟩) ?_ ?_
                      rotate_left
                      · intro w'
                        go_simp
                        with_reducible rfl
                      rotate_left
                      · simp only [Act.put, List.setIfInBounds_toArray, List.set_cons_zero, List.set_cons_succ, i64_w, i32_w]
                        rfl
                      refine take_ (i := 4) (N := some 63) (v := ?_) (a' := ?_) #[true, true, true, true, true, true, false, false, false] rfl rfl (take_ofW HT_.out HW_.out (by kernel_rfl)) (fun _ _ _ h => h) (Or.inl ⟨by rfl, ?_⟩) hHeld ?_ ?_
                      rotate_left
                      · rintro w' ⟨s0, s1, s2, s3⟩
                        go_simp
                        with_reducible rfl
                      rotate_left
                      · simp only [Act.put, List.setIfInBounds_toArray, List.set_cons_zero, List.set_cons_succ, i64_w, i32_w]
                        rfl
                      refine one_ (i := 6) (N := some 65) #[true, true, true, true, true, true, true, false, false] rfl rfl (one_of HT_.out (by kernel_rfl)) (by decide) (fun K hK => ?_)
                      refine goes_ Try.func21 (by kernel_rfl) rfl #[.slice (some ad247) l0.length c0] (by rfl) rfl rfl (by (try simp only [List.map_toArray, List.map_cons, List.map_nil]); first | done | rfl | (simp only [List.length_drop, List.length_take]; rfl)) ?_
                      with_reducible refine (vinculumref27_Shrink.calls k2 _ _ l0 t249 _ ?side1 ?side2 A22.out).mono ?_
                      (case side1 => repeat (first | exact (Kd.C_below HR0.out HB.out) | (with_reducible refine Kd.C_alloc ?_ _) | (with_reducible refine Kd.C_drewN ?_ _) | (with_reducible refine Kd.C_drew ?_)))
                      (case side2 => exact HC0.out)
                      rintro e w27 ⟨rfl, hb⟩
                      refine ⟨_, rfl, ?_⟩
                      have n0_ := Aside0.mk (Kd.R_below (by (with_reducible repeat (first | apply Kd.R_alloc | apply Kd.R_drewN | apply Kd.R_drew)); exact HO_5.out) hb)
                      have n1_ := Aside0.mk (below_step (by repeat (first | (with_reducible first | exact HB.out | apply below_alloc | apply pw_below_drewN | apply below_drew1) | exact HB.out)) hb)
                      clear HO_5
                      clear HB
                      have HO_5 := n0_
                      have HB := n1_
                      clear n0_ n1_
                      (try clear hb)
                      (try clear hb2)
                      (try clear hk)
                      (try clear hi)
                      refine hK.out _ _ ⟨((HB.out.cell (World.block_lt_of_cell? w _ hw248_0)).trans hw248_0), ((HB.out.cell (World.block_lt_of_cell? w _ hw248_1)).trans hw248_1), ((HB.out.cell (World.block_lt_of_cell? w _ hw248_2)).trans hw248_2), ((HB.out.cell (World.block_lt_of_cell? w _ hw248_3)).trans hw248_3)⟩ (fun hHeld => ?_)
                      clear hK K
                      refine norm_ (a' := ?_) ?_ ?_
                      rotate_left
                      · show Act.put _ (some 65) _ = _
                        simp only [Act.put, List.setIfInBounds_toArray, List.set_cons_zero, List.set_cons_succ, i64_w, i32_w]
                        rfl
                      refine pure_ (i := 7) (N := some 12) (v := ?_) (a' := ?_) #[true, true, true, true, true, true, true, true, false] rfl rfl (any_of HT_.out (by kernel_rfl)) (fun _ _ _ h => h) (Or.inl ⟨by rfl, ?_⟩) ?_ ?_
                      rotate_left
                      · intro w'
                        go_simp
                        with_reducible rfl
                      rotate_left
                      · simp only [Act.put, List.setIfInBounds_toArray, List.set_cons_zero, List.set_cons_succ, i64_w, i32_w]
                        rfl
                      refine pure_ (i := 8) (N := some 13) (v := ?_) (a' := ?_) #[true, true, true, true, true, true, true, true, true] rfl rfl (any_of HT_.out (by kernel_rfl)) (fun _ _ _ h => h) (Or.inl ⟨by rfl, ?_⟩) ?_ ?_
                      rotate_left
                      · intro w'
                        go_simp
                        with_reducible rfl
                      rotate_left
                      · simp only [Act.put, List.setIfInBounds_toArray, List.set_cons_zero, List.set_cons_succ, i64_w, i32_w]
                        rfl
                      refine done_ (done_of HT_.out (by kernel_rfl)) ?_
                      go_upto_if 67 with (fail)
                      go_cut [12, 13] (fun v12 v13 wc => ∃ (kq : Nat) (x12_22 : Int) (x13_22 : Int), v12 = .int .i64 x12_22 ∧ v13 = .int .i64 x13_22 ∧ Aside0 (vinculumlaw27_GlueLimits.j2 kq l0 t239 t240 (wrap64 (a1 - t244)) t245 x10_2 (wrap64 ((rd t239 x10_2) - ((rd_T36 l0 x10_2).f0))) x12_22 x13_22 = some r) ∧ Aside0 (kq ≤ k2) ∧ Aside0 (Kd.R (Kd.int .i64) 3 wc w.heap.size (fun _ => True) (.slice (some ad246) t239.length co24) t239) ∧ Aside0 (Below w.heap.size w wc))
                      case first =>
                        have H := HC23.out
                        clear HC23
                        by_cases c28 : (wrap64 (a1 - t244)) ≥ 0
                        · rw [if_pos c28] at H
                          have c28b0 : decide (0 ≤ (wrap64 (a1 - t244))) = true := decide_eq_true c28
                          clear c28
                          (first | rw [c28b0] | (simp only [i64_w, i32_w]; rw [c28b0]) | skip)
                          replace H := Option.bind_eq_some_iff.mp H
                          obtain ⟨t251, A290, H⟩ := H
                          replace H : (if ((rd_T36 l0 x10_2).f3) = t245 then (vinculumlaw27_GlueLimits.j2 k2 l0 t239 t240 (wrap64 (a1 - t244)) t245 x10_2 (wrap64 ((rd t239 x10_2) - ((rd_T36 l0 x10_2).f0))) ((rd_T36 l0 x10_2).f1) t251) else (vinculumlaw27_GlueLimits.j2 k2 l0 t239 t240 (wrap64 (a1 - t244)) t245 x10_2 (wrap64 ((rd t239 x10_2) - ((rd_T36 l0 x10_2).f0))) 0 t251)) = some r := H
                          have A29 := Aside0.mk A290
                          clear A290
                          by_cases c30 : ((rd_T36 l0 x10_2).f3) = t245
                          · rw [if_pos c30] at H
                            have c30b0 : (((rd_T36 l0 x10_2).f3) == t245) = true := beq_iff_eq.mpr c30
                            have c30b1 : (((rd_T36 l0 x10_2).f3) != t245) = false := bne_eq_false_iff_eq.mpr c30
                            clear c30
                            have H' := Aside0.mk H
                            clear H
                            try go_wp2
                            have n0_ := Aside0.mk (Kd.R_drew HO_5.out)
                            have n1_ := Aside0.mk (below_drew1 HB.out)
                            clear HO_5
                            clear HB
                            have HO_5 := n0_
                            have HB := n1_
                            clear n0_ n1_
                            have p250 : 0 ≤ (x10_2 : Int) := of_decide_eq_true (by first | (with_reducible assumption) | assumption)
                            have q250 : x10_2 < (l0.length : Int) := of_decide_eq_true (by first | (with_reducible assumption) | assumption)
                            obtain ⟨ad250, e250, hx250_0, hx250_1, hx250_2, hx250_3⟩ := at_T36 HR0.out x10_2 p250 q250
                            have hw250_3 := hx250_3
                            have hw250_2 := hx250_2
                            have hw250_1 := hx250_1
                            have hw250_0 := hx250_0
                            obtain rfl : ad247 = ad250 := (by injection e250)
                            replace hx250_0 := (HB.out.cell (World.block_lt_of_cell? w _ hx250_0)).trans hx250_0
                            replace hx250_1 := (HB.out.cell (World.block_lt_of_cell? w _ hx250_1)).trans hx250_1
                            replace hx250_2 := (HB.out.cell (World.block_lt_of_cell? w _ hx250_2)).trans hx250_2
                            replace hx250_3 := (HB.out.cell (World.block_lt_of_cell? w _ hx250_3)).trans hx250_3
                            replace p250 := eq_true p250
                            replace q250 := eq_true q250
                            refine start_ (n := 10) (S := fun w' => w'.cell? (ad247.add ((x10_2).toNat * 4)) = some (.int .i64 ((rd_T36 l0 x10_2).f0)) ∧ w'.cell? ⟨(ad247.add ((x10_2).toNat * 4)).block, (ad247.add ((x10_2).toNat * 4)).off + 1, none⟩ = some (.int .i64 ((rd_T36 l0 x10_2).f1)) ∧ w'.cell? ⟨(ad247.add ((x10_2).toNat * 4)).block, (ad247.add ((x10_2).toNat * 4)).off + 2, none⟩ = some (.int .i64 ((rd_T36 l0 x10_2).f2)) ∧ w'.cell? ⟨(ad247.add ((x10_2).toNat * 4)).block, (ad247.add ((x10_2).toNat * 4)).off + 3, none⟩ = some (.int .i64 ((rd_T36 l0 x10_2).f3))) (ds := []) #[false, false, false, false, false, false, false, false, false, false] (by kernel_rfl) rfl rfl ⟨((HB.out.cell (World.block_lt_of_cell? w _ hw250_0)).trans hw250_0), ((HB.out.cell (World.block_lt_of_cell? w _ hw250_1)).trans hw250_1), ((HB.out.cell (World.block_lt_of_cell? w _ hw250_2)).trans hw250_2), ((HB.out.cell (World.block_lt_of_cell? w _ hw250_3)).trans hw250_3)⟩ (fun hHeld => ?_); refine with_tabW vinculumlaw27_GlueLimits.tab16 vinculumlaw27_GlueLimits.bits16 (fun HT_ HW_ => ?_)
                            generalize w27.drew = w31 at HO_5 HB hx250_0 hx250_1 hx250_2 hx250_3 hHeld ⊢
                            refine pure_ (i := 0) (N := some 68) (v := ?_) (a' := ?_) #[true, false, false, false, false, false, false, false, false, false] rfl rfl (any_of HT_.out (by kernel_rfl)) (fun _ _ _ h => h) (Or.inl ⟨by rfl, ?_⟩) ?_ ?_
                            rotate_left
                            · intro w'
                              go_simp
                              with_reducible rfl
                            rotate_left
                            · simp only [Act.put, List.setIfInBounds_toArray, List.set_cons_zero, List.set_cons_succ, i64_w, i32_w]
                              rfl
                            refine pure_ (i := 1) (N := some 69) (v := ?_) (a' := ?_) #[true, true, false, false, false, false, false, false, false, false] rfl rfl (any_of HT_.out (by kernel_rfl)) (fun _ _ _ h => h) (Or.inl ⟨by rfl, ?_⟩) ?_ ?_
                            rotate_left
                            · intro w'
                              go_simp
                              with_reducible rfl
                            rotate_left
                            · simp only [Act.put, List.setIfInBounds_toArray, List.set_cons_zero, List.set_cons_succ, i64_w, i32_w]
                              rfl
                            refine pure_ (i := 2) (N := some 70) (v := ?_) (a' := ?_) #[true, true, true, false, false, false, false, false, false, false] rfl rfl (any_of HT_.out (by kernel_rfl)) (fun _ _ _ h => h) (Or.inl ⟨by rfl, ?_⟩) ?_ ?_
                            rotate_left
                            · intro w'
                              go_simp
                              with_reducible rfl
                            rotate_left
                            · simp only [Act.put, List.setIfInBounds_toArray, List.set_cons_zero, List.set_cons_succ, i64_w, i32_w]
                              rfl
                            refine pure_ (i := 3) (N := some 71) (v := ?_) (a' := ?_) #[true, true, true, true, false, false, false, false, false, false] rfl rfl (any_of HT_.out (by kernel_rfl)) (fun _ _ _ h => h) (Or.inl ⟨by rfl, ?_⟩) ?_ ?_
                            rotate_left
                            · intro w'
                              go_simp
                              with_reducible rfl
                            rotate_left
                            · simp only [Act.put, List.setIfInBounds_toArray, List.set_cons_zero, List.set_cons_succ, i64_w, i32_w]
                              rfl
                            refine pure_ (i := 5) (N := some 73) (v := ?_) (a' := ?_) #[true, true, true, true, false, true, false, false, false, false] rfl rfl (any_of HT_.out (by kernel_rfl)) (fun _ _ _ h => h) (Or.inl ⟨by rfl, ?_⟩) ?_ ?_
                            rotate_left
                            · intro w'
                              go_simp
                              with_reducible rfl
                            rotate_left
                            · simp only [Act.put, List.setIfInBounds_toArray, List.set_cons_zero, List.set_cons_succ, i64_w, i32_w]
                              rfl
                            refine pure_ (i := 6) (N := some 74) (v := ?_) (a' := ?_) #[true, true, true, true, false, true, true, false, false, false] rfl rfl (any_of HT_.out (by kernel_rfl)) (fun _ _ _ h => h) (Or.inl ⟨by rfl, ?_⟩) ?_ ?_
                            rotate_left
                            · intro w'
                              go_simp
                              with_reducible rfl
                            rotate_left
                            · simp only [Act.put, List.setIfInBounds_toArray, List.set_cons_zero, List.set_cons_succ, i64_w, i32_w]
                              rfl
                            refine take_ (i := 4) (N := some 72) (v := ?_) (a' := ?_) #[true, true, true, true, true, true, true, false, false, false] rfl rfl (take_ofW HT_.out HW_.out (by kernel_rfl)) (fun _ _ _ h => h) (Or.inl ⟨by rfl, ?_⟩) hHeld ?_ ?_
                            rotate_left
                            · rintro w' ⟨s0, s1, s2, s3⟩
                              go_simp
                              with_reducible rfl
                            rotate_left
                            · simp only [Act.put, List.setIfInBounds_toArray, List.set_cons_zero, List.set_cons_succ, i64_w, i32_w]
                              rfl
                            refine one_ (i := 7) (N := some 75) #[true, true, true, true, true, true, true, true, false, false] rfl rfl (one_of HT_.out (by kernel_rfl)) (by decide) (fun K hK => ?_)
                            refine goes_ Try.func19 (by kernel_rfl) rfl #[.slice (some ad247) l0.length c0, .int .i64 t245] (by rfl) rfl rfl (by (try simp only [List.map_toArray, List.map_cons, List.map_nil]); first | done | rfl | (simp only [List.length_drop, List.length_take]; rfl)) ?_
                            with_reducible refine (vinculumref27_Stretch.calls k2 _ _ l0 t245 t251 _ ?side1 ?side2 A29.out).mono ?_
                            (case side1 => repeat (first | exact (Kd.C_below HR0.out HB.out) | (with_reducible refine Kd.C_alloc ?_ _) | (with_reducible refine Kd.C_drewN ?_ _) | (with_reducible refine Kd.C_drew ?_)))
                            (case side2 => exact HC0.out)
                            rintro e w32 ⟨rfl, hb⟩
                            refine ⟨_, rfl, ?_⟩
                            have n0_ := Aside0.mk (Kd.R_below (by (with_reducible repeat (first | apply Kd.R_alloc | apply Kd.R_drewN | apply Kd.R_drew)); exact HO_5.out) hb)
                            have n1_ := Aside0.mk (below_step (by repeat (first | (with_reducible first | exact HB.out | apply below_alloc | apply pw_below_drewN | apply below_drew1) | exact HB.out)) hb)
                            clear HO_5
                            clear HB
                            have HO_5 := n0_
                            have HB := n1_
                            clear n0_ n1_
                            (try clear hb)
                            (try clear hb2)
                            (try clear hk)
                            (try clear hi)
                            refine hK.out _ _ ⟨((HB.out.cell (World.block_lt_of_cell? w _ hw250_0)).trans hw250_0), ((HB.out.cell (World.block_lt_of_cell? w _ hw250_1)).trans hw250_1), ((HB.out.cell (World.block_lt_of_cell? w _ hw250_2)).trans hw250_2), ((HB.out.cell (World.block_lt_of_cell? w _ hw250_3)).trans hw250_3)⟩ (fun hHeld => ?_)
                            clear hK K
                            refine norm_ (a' := ?_) ?_ ?_
                            rotate_left
                            · show Act.put _ (some 75) _ = _
                              simp only [Act.put, List.setIfInBounds_toArray, List.set_cons_zero, List.set_cons_succ, i64_w, i32_w]
                              rfl
                            refine pure_ (i := 8) (N := some 12) (v := ?_) (a' := ?_) #[true, true, true, true, true, true, true, true, true, false] rfl rfl (any_of HT_.out (by kernel_rfl)) (fun _ _ _ h => h) (Or.inl ⟨by rfl, ?_⟩) ?_ ?_
                            rotate_left
                            · intro w'
                              go_simp
                              with_reducible rfl
                            rotate_left
                            · simp only [Act.put, List.setIfInBounds_toArray, List.set_cons_zero, List.set_cons_succ, i64_w, i32_w]
                              rfl
                            refine pure_ (i := 9) (N := some 13) (v := ?_) (a' := ?_) #[true, true, true, true, true, true, true, true, true, true] rfl rfl (any_of HT_.out (by kernel_rfl)) (fun _ _ _ h => h) (Or.inl ⟨by rfl, ?_⟩) ?_ ?_
                            rotate_left
                            · intro w'
                              go_simp
                              with_reducible rfl
                            rotate_left
                            · simp only [Act.put, List.setIfInBounds_toArray, List.set_cons_zero, List.set_cons_succ, i64_w, i32_w]
                              rfl
                            refine done_ (done_of HT_.out (by kernel_rfl)) ?_
                            have p252 : 0 ≤ (x10_2 : Int) := of_decide_eq_true (by first | (with_reducible assumption) | assumption)
                            have q252 : x10_2 < (l0.length : Int) := of_decide_eq_true (by first | (with_reducible assumption) | assumption)
                            obtain ⟨ad252, e252, hx252_0, hx252_1, hx252_2, hx252_3⟩ := at_T36 HR0.out x10_2 p252 q252
                            obtain rfl : ad247 = ad252 := (by injection e252)
                            replace hx252_0 := (HB.out.cell (World.block_lt_of_cell? w _ hx252_0)).trans hx252_0
                            replace hx252_1 := (HB.out.cell (World.block_lt_of_cell? w _ hx252_1)).trans hx252_1
                            replace hx252_2 := (HB.out.cell (World.block_lt_of_cell? w _ hx252_2)).trans hx252_2
                            replace hx252_3 := (HB.out.cell (World.block_lt_of_cell? w _ hx252_3)).trans hx252_3
                            replace p252 := eq_true p252
                            replace q252 := eq_true q252
                            try go_wp2
                            go_meet
                            case rel => exact ⟨_, ((rd_T36 l0 x10_2).f1), (t251), (by first | rfl | (simp; done) | (simp [*]; done)), (by first | rfl | (simp; done) | (simp [*]; done)), H', ⟨by have := HJ7.out; have := HK2.out; first | omega | exact Nat.le_refl _⟩, ⟨by (with_reducible repeat (first | apply Kd.R_alloc | apply Kd.R_drewN | apply Kd.R_drew)); exact HO_5.out⟩, ⟨by repeat (first | (with_reducible first | exact HB.out | apply below_alloc | apply pw_below_drewN | apply below_drew1) | exact HB.out)⟩⟩
                          · rw [if_neg c30] at H
                            have c30b0 : (((rd_T36 l0 x10_2).f3) == t245) = false := beq_eq_false_iff_ne.mpr c30
                            have c30b1 : (((rd_T36 l0 x10_2).f3) != t245) = true := bne_iff_ne.mpr c30
                            have H' := Aside0.mk H
                            clear H
                            try go_wp2
                            have n0_ := Aside0.mk (Kd.R_drew HO_5.out)
                            have n1_ := Aside0.mk (below_drew1 HB.out)
                            clear HO_5
                            clear HB
                            have HO_5 := n0_
                            have HB := n1_
                            clear n0_ n1_
                            have p250 : 0 ≤ (x10_2 : Int) := of_decide_eq_true (by first | (with_reducible assumption) | assumption)
                            have q250 : x10_2 < (l0.length : Int) := of_decide_eq_true (by first | (with_reducible assumption) | assumption)
                            obtain ⟨ad250, e250, hx250_0, hx250_1, hx250_2, hx250_3⟩ := at_T36 HR0.out x10_2 p250 q250
                            have hw250_3 := hx250_3
                            have hw250_2 := hx250_2
                            have hw250_1 := hx250_1
                            have hw250_0 := hx250_0
                            obtain rfl : ad247 = ad250 := (by injection e250)
                            replace hx250_0 := (HB.out.cell (World.block_lt_of_cell? w _ hx250_0)).trans hx250_0
                            replace hx250_1 := (HB.out.cell (World.block_lt_of_cell? w _ hx250_1)).trans hx250_1
                            replace hx250_2 := (HB.out.cell (World.block_lt_of_cell? w _ hx250_2)).trans hx250_2
                            replace hx250_3 := (HB.out.cell (World.block_lt_of_cell? w _ hx250_3)).trans hx250_3
                            replace p250 := eq_true p250
                            replace q250 := eq_true q250
                            refine start_ (n := 10) (S := fun w' => w'.cell? (ad247.add ((x10_2).toNat * 4)) = some (.int .i64 ((rd_T36 l0 x10_2).f0)) ∧ w'.cell? ⟨(ad247.add ((x10_2).toNat * 4)).block, (ad247.add ((x10_2).toNat * 4)).off + 1, none⟩ = some (.int .i64 ((rd_T36 l0 x10_2).f1)) ∧ w'.cell? ⟨(ad247.add ((x10_2).toNat * 4)).block, (ad247.add ((x10_2).toNat * 4)).off + 2, none⟩ = some (.int .i64 ((rd_T36 l0 x10_2).f2)) ∧ w'.cell? ⟨(ad247.add ((x10_2).toNat * 4)).block, (ad247.add ((x10_2).toNat * 4)).off + 3, none⟩ = some (.int .i64 ((rd_T36 l0 x10_2).f3))) (ds := []) #[false, false, false, false, false, false, false, false, false, false] (by kernel_rfl) rfl rfl ⟨((HB.out.cell (World.block_lt_of_cell? w _ hw250_0)).trans hw250_0), ((HB.out.cell (World.block_lt_of_cell? w _ hw250_1)).trans hw250_1), ((HB.out.cell (World.block_lt_of_cell? w _ hw250_2)).trans hw250_2), ((HB.out.cell (World.block_lt_of_cell? w _ hw250_3)).trans hw250_3)⟩ (fun hHeld => ?_); refine with_tabW vinculumlaw27_GlueLimits.tab16 vinculumlaw27_GlueLimits.bits16 (fun HT_ HW_ => ?_)
                            generalize w27.drew = w33 at HO_5 HB hx250_0 hx250_1 hx250_2 hx250_3 hHeld ⊢
                            refine pure_ (i := 0) (N := some 68) (v := ?_) (a' := ?_) #[true, false, false, false, false, false, false, false, false, false] rfl rfl (any_of HT_.out (by kernel_rfl)) (fun _ _ _ h => h) (Or.inl ⟨by rfl, ?_⟩) ?_ ?_
                            rotate_left
                            · intro w'
                              go_simp
                              with_reducible rfl
                            rotate_left
                            · simp only [Act.put, List.setIfInBounds_toArray, List.set_cons_zero, List.set_cons_succ, i64_w, i32_w]
                              rfl
                            refine pure_ (i := 1) (N := some 69) (v := ?_) (a' := ?_) #[true, true, false, false, false, false, false, false, false, false] rfl rfl (any_of HT_.out (by kernel_rfl)) (fun _ _ _ h => h) (Or.inl ⟨by rfl, ?_⟩) ?_ ?_
                            rotate_left
                            · intro w'
                              go_simp
                              with_reducible rfl
                            rotate_left
                            · simp only [Act.put, List.setIfInBounds_toArray, List.set_cons_zero, List.set_cons_succ, i64_w, i32_w]
                              rfl
                            refine pure_ (i := 2) (N := some 70) (v := ?_) (a' := ?_) #[true, true, true, false, false, false, false, false, false, false] rfl rfl (any_of HT_.out (by kernel_rfl)) (fun _ _ _ h => h) (Or.inl ⟨by rfl, ?_⟩) ?_ ?_
                            rotate_left
                            · intro w'
                              go_simp
                              with_reducible rfl
                            rotate_left
                            · simp only [Act.put, List.setIfInBounds_toArray, List.set_cons_zero, List.set_cons_succ, i64_w, i32_w]
                              rfl
                            refine pure_ (i := 3) (N := some 71) (v := ?_) (a' := ?_) #[true, true, true, true, false, false, false, false, false, false] rfl rfl (any_of HT_.out (by kernel_rfl)) (fun _ _ _ h => h) (Or.inl ⟨by rfl, ?_⟩) ?_ ?_
                            rotate_left
                            · intro w'
                              go_simp
                              with_reducible rfl
                            rotate_left
                            · simp only [Act.put, List.setIfInBounds_toArray, List.set_cons_zero, List.set_cons_succ, i64_w, i32_w]
                              rfl
                            refine pure_ (i := 5) (N := some 73) (v := ?_) (a' := ?_) #[true, true, true, true, false, true, false, false, false, false] rfl rfl (any_of HT_.out (by kernel_rfl)) (fun _ _ _ h => h) (Or.inl ⟨by rfl, ?_⟩) ?_ ?_
                            rotate_left
                            · intro w'
                              go_simp
                              with_reducible rfl
                            rotate_left
                            · simp only [Act.put, List.setIfInBounds_toArray, List.set_cons_zero, List.set_cons_succ, i64_w, i32_w]
                              rfl
                            refine pure_ (i := 6) (N := some 74) (v := ?_) (a' := ?_) #[true, true, true, true, false, true, true, false, false, false] rfl rfl (any_of HT_.out (by kernel_rfl)) (fun _ _ _ h => h) (Or.inl ⟨by rfl, ?_⟩) ?_ ?_
                            rotate_left
                            · intro w'
                              go_simp
                              with_reducible rfl
                            rotate_left
                            · simp only [Act.put, List.setIfInBounds_toArray, List.set_cons_zero, List.set_cons_succ, i64_w, i32_w]
                              rfl
                            refine take_ (i := 4) (N := some 72) (v := ?_) (a' := ?_) #[true, true, true, true, true, true, true, false, false, false] rfl rfl (take_ofW HT_.out HW_.out (by kernel_rfl)) (fun _ _ _ h => h) (Or.inl ⟨by rfl, ?_⟩) hHeld ?_ ?_
                            rotate_left
                            · rintro w' ⟨s0, s1, s2, s3⟩
                              go_simp
                              with_reducible rfl
                            rotate_left
                            · simp only [Act.put, List.setIfInBounds_toArray, List.set_cons_zero, List.set_cons_succ, i64_w, i32_w]
                              rfl
                            refine one_ (i := 7) (N := some 75) #[true, true, true, true, true, true, true, true, false, false] rfl rfl (one_of HT_.out (by kernel_rfl)) (by decide) (fun K hK => ?_)
                            refine goes_ Try.func19 (by kernel_rfl) rfl #[.slice (some ad247) l0.length c0, .int .i64 t245] (by rfl) rfl rfl (by (try simp only [List.map_toArray, List.map_cons, List.map_nil]); first | done | rfl | (simp only [List.length_drop, List.length_take]; rfl)) ?_
                            with_reducible refine (vinculumref27_Stretch.calls k2 _ _ l0 t245 t251 _ ?side1 ?side2 A29.out).mono ?_
                            (case side1 => repeat (first | exact (Kd.C_below HR0.out HB.out) | (with_reducible refine Kd.C_alloc ?_ _) | (with_reducible refine Kd.C_drewN ?_ _) | (with_reducible refine Kd.C_drew ?_)))
                            (case side2 => exact HC0.out)
                            rintro e w34 ⟨rfl, hb⟩
                            refine ⟨_, rfl, ?_⟩
                            have n0_ := Aside0.mk (Kd.R_below (by (with_reducible repeat (first | apply Kd.R_alloc | apply Kd.R_drewN | apply Kd.R_drew)); exact HO_5.out) hb)
                            have n1_ := Aside0.mk (below_step (by repeat (first | (with_reducible first | exact HB.out | apply below_alloc | apply pw_below_drewN | apply below_drew1) | exact HB.out)) hb)
                            clear HO_5
                            clear HB
                            have HO_5 := n0_
                            have HB := n1_
                            clear n0_ n1_
                            (try clear hb)
                            (try clear hb2)
                            (try clear hk)
                            (try clear hi)
                            refine hK.out _ _ ⟨((HB.out.cell (World.block_lt_of_cell? w _ hw250_0)).trans hw250_0), ((HB.out.cell (World.block_lt_of_cell? w _ hw250_1)).trans hw250_1), ((HB.out.cell (World.block_lt_of_cell? w _ hw250_2)).trans hw250_2), ((HB.out.cell (World.block_lt_of_cell? w _ hw250_3)).trans hw250_3)⟩ (fun hHeld => ?_)
                            clear hK K
                            refine norm_ (a' := ?_) ?_ ?_
                            rotate_left
                            · show Act.put _ (some 75) _ = _
                              simp only [Act.put, List.setIfInBounds_toArray, List.set_cons_zero, List.set_cons_succ, i64_w, i32_w]
                              rfl
                            refine pure_ (i := 8) (N := some 12) (v := ?_) (a' := ?_) #[true, true, true, true, true, true, true, true, true, false] rfl rfl (any_of HT_.out (by kernel_rfl)) (fun _ _ _ h => h) (Or.inl ⟨by rfl, ?_⟩) ?_ ?_
                            rotate_left
                            · intro w'
                              go_simp
                              with_reducible rfl
                            rotate_left
                            · simp only [Act.put, List.setIfInBounds_toArray, List.set_cons_zero, List.set_cons_succ, i64_w, i32_w]
                              rfl
                            refine pure_ (i := 9) (N := some 13) (v := ?_) (a' := ?_) #[true, true, true, true, true, true, true, true, true, true] rfl rfl (any_of HT_.out (by kernel_rfl)) (fun _ _ _ h => h) (Or.inl ⟨by rfl, ?_⟩) ?_ ?_
                            rotate_left
                            · intro w'
                              go_simp
                              with_reducible rfl
                            rotate_left
                            · simp only [Act.put, List.setIfInBounds_toArray, List.set_cons_zero, List.set_cons_succ, i64_w, i32_w]
                              rfl
                            refine done_ (done_of HT_.out (by kernel_rfl)) ?_
                            have p252 : 0 ≤ (x10_2 : Int) := of_decide_eq_true (by first | (with_reducible assumption) | assumption)
                            have q252 : x10_2 < (l0.length : Int) := of_decide_eq_true (by first | (with_reducible assumption) | assumption)
                            obtain ⟨ad252, e252, hx252_0, hx252_1, hx252_2, hx252_3⟩ := at_T36 HR0.out x10_2 p252 q252
                            obtain rfl : ad247 = ad252 := (by injection e252)
                            replace hx252_0 := (HB.out.cell (World.block_lt_of_cell? w _ hx252_0)).trans hx252_0
                            replace hx252_1 := (HB.out.cell (World.block_lt_of_cell? w _ hx252_1)).trans hx252_1
                            replace hx252_2 := (HB.out.cell (World.block_lt_of_cell? w _ hx252_2)).trans hx252_2
                            replace hx252_3 := (HB.out.cell (World.block_lt_of_cell? w _ hx252_3)).trans hx252_3
                            replace p252 := eq_true p252
                            replace q252 := eq_true q252
                            try go_wp2
                            go_meet
                            case rel => exact ⟨_, (0), (t251), (by first | rfl | (simp; done) | (simp [*]; done)), (by first | rfl | (simp; done) | (simp [*]; done)), H', ⟨by have := HJ7.out; have := HK2.out; first | omega | exact Nat.le_refl _⟩, ⟨by (with_reducible repeat (first | apply Kd.R_alloc | apply Kd.R_drewN | apply Kd.R_drew)); exact HO_5.out⟩, ⟨by repeat (first | (with_reducible first | exact HB.out | apply below_alloc | apply pw_below_drewN | apply below_drew1) | exact HB.out)⟩⟩
                        · rw [if_neg c28] at H
                          have c28b0 : decide (0 ≤ (wrap64 (a1 - t244))) = false := decide_eq_false c28
                          clear c28
                          (first | rw [c28b0] | (simp only [i64_w, i32_w]; rw [c28b0]) | skip)
                          have H' := Aside0.mk H
                          clear H
                          go_wp2
                          go_meet
                          case rel => exact ⟨_, ((rd_T36 l0 x10_2).f2), (t249), (by first | rfl | (simp; done) | (simp [*]; done)), (by first | rfl | (simp; done) | (simp [*]; done)), H', ⟨by have := HJ7.out; have := HK2.out; first | omega | exact Nat.le_refl _⟩, ⟨by (with_reducible repeat (first | apply Kd.R_alloc | apply Kd.R_drewN | apply Kd.R_drew)); exact HO_5.out⟩, ⟨by repeat (first | (with_reducible first | exact HB.out | apply below_alloc | apply pw_below_drewN | apply below_drew1) | exact HB.out)⟩⟩
                      case rest =>
                        clear HC23
                        try clear c1
                        try clear c2
                        try clear p2
                        try clear q2
                        try clear hx2
                        try clear c3
                        try clear c4
                        try clear c6
                        try clear p6
                        try clear c7
                        try clear c12
                        try clear c12b0
                        try clear c12b1
                        try clear c13
                        try clear c14
                        try clear c17
                        try clear c19
                        try clear c19b0
                        try clear c20
                        try clear c20b0
                        try clear c21
                        try clear c21b0
                        try clear p24
                        try clear q24
                        try clear hx24
                        try clear p25
                        try clear q25
                        try clear hx25
                        try clear c28
                        try clear c28b0
                        try clear c30
                        try clear c30b0
                        try clear c30b1
                        try clear hx246_0
                        try clear hx247_0
                        try clear hx247_1
                        try clear hx247_2
                        try clear hx247_3
                        try clear hx248_0
                        try clear hx248_1
                        try clear hx248_2
                        try clear hx248_3
                        try clear hx250_0
                        try clear hx250_1
                        try clear hx250_2
                        try clear hx250_3
                        try clear hx252_0
                        try clear hx252_1
                        try clear hx252_2
                        try clear hx252_3
                        try clear p2
                        try clear p246
                        try clear p247
                        try clear p248
                        try clear p250
                        try clear p252
                        try clear p6
                        try clear q246
                        try clear q247
                        try clear q248
                        try clear q250
                        try clear q252
                        obtain ⟨kq, x12_22, x13_22, rfl, rfl, HA, HJ22, HO_5, HB⟩ := hcut
                        cases kq with
                        | zero => exact absurd HA.out (by simp [vinculumlaw27_GlueLimits.j2])
                        | succ kj22 =>
                          have H := HA.out
                          clear HA
                          simp only [vinculumlaw27_GlueLimits.j2] at H
                          have HC35 := Aside0.mk H
                          clear H
                          go_upto_region 19 with (fail)
                          go_cut [106] (fun v106 wc => ∃ (kq : Nat) (x106_34 : Bool), v106 = .bool x106_34 ∧ Aside0 (vinculumlaw27_GlueLimits.j3 kq l0 t239 t240 (wrap64 (a1 - t244)) t245 x10_2 (wrap64 ((rd t239 x10_2) - ((rd_T36 l0 x10_2).f0))) x12_22 x13_22 x106_34 = some r) ∧ Aside0 (kq ≤ kj22) ∧ Aside0 (Kd.R (Kd.int .i64) 3 wc w.heap.size (fun _ => True) (.slice (some ad246) t239.length co24) t239) ∧ Aside0 (Below w.heap.size w wc))
                          case first =>
                            have H := HC35.out
                            clear HC35
                            by_cases c36 : 0 ≤ x10_2
                            · rw [if_pos c36] at H
                              have c36b0 : decide (0 ≤ x10_2) = true := decide_eq_true c36
                              clear c36
                              (first | rw [c36b0] | (simp only [i64_w, i32_w]; rw [c36b0]) | skip)
                              by_cases c37 : x10_2 < (l0.length : Int)
                              · rw [if_pos c37] at H
                                have c37b0 : decide (x10_2 < (l0.length : Int)) = true := decide_eq_true c37
                                clear c37
                                by_cases c38 : (wrap64 ((rd t239 x10_2) - ((rd_T36 l0 x10_2).f0))) < (wrap64 (-((rd_T36 l0 x10_2).f2)))
                                · rw [if_pos c38] at H
                                  have c38b0 : decide ((wrap64 ((rd t239 x10_2) - ((rd_T36 l0 x10_2).f0))) < (wrap64 (-((rd_T36 l0 x10_2).f2)))) = true := decide_eq_true c38
                                  clear c38
                                  have H' := Aside0.mk H
                                  clear H
                                  have p253 : 0 ≤ (x10_2 : Int) := of_decide_eq_true (by first | (with_reducible assumption) | assumption)
                                  have q253 : x10_2 < (l0.length : Int) := of_decide_eq_true (by first | (with_reducible assumption) | assumption)
                                  obtain ⟨ad253, e253, hx253_0, hx253_1, hx253_2, hx253_3⟩ := at_T36 HR0.out x10_2 p253 q253
                                  obtain rfl : ad247 = ad253 := (by injection e253)
                                  replace hx253_0 := (HB.out.cell (World.block_lt_of_cell? w _ hx253_0)).trans hx253_0
                                  replace hx253_1 := (HB.out.cell (World.block_lt_of_cell? w _ hx253_1)).trans hx253_1
                                  replace hx253_2 := (HB.out.cell (World.block_lt_of_cell? w _ hx253_2)).trans hx253_2
                                  replace hx253_3 := (HB.out.cell (World.block_lt_of_cell? w _ hx253_3)).trans hx253_3
                                  replace p253 := eq_true p253
                                  replace q253 := eq_true q253
                                  go_wp2
                                  go_meet
                                  case rel => exact ⟨_, (true), (by first | rfl | (simp; done) | (simp [*]; done)), H', ⟨by have := HJ7.out; have := HK2.out; have := HJ22.out; first | omega | exact Nat.le_refl _⟩, ⟨by (with_reducible repeat (first | apply Kd.R_alloc | apply Kd.R_drewN | apply Kd.R_drew)); exact HO_5.out⟩, ⟨by repeat (first | (with_reducible first | exact HB.out | apply below_alloc | apply pw_below_drewN | apply below_drew1) | exact HB.out)⟩⟩
                                · rw [if_neg c38] at H
                                  have c38b0 : decide ((wrap64 ((rd t239 x10_2) - ((rd_T36 l0 x10_2).f0))) < (wrap64 (-((rd_T36 l0 x10_2).f2)))) = false := decide_eq_false c38
                                  clear c38
                                  by_cases c39 : (wrap64 (a1 - t244)) ≥ 0
                                  · rw [if_pos c39] at H
                                    have c39b0 : decide (0 ≤ (wrap64 (a1 - t244))) = true := decide_eq_true c39
                                    clear c39
                                    by_cases c40 : (wrap64 ((rd t239 x10_2) - ((rd_T36 l0 x10_2).f0))) < 0
                                    · rw [if_pos c40] at H
                                      have c40b0 : decide ((wrap64 ((rd t239 x10_2) - ((rd_T36 l0 x10_2).f0))) < 0) = true := decide_eq_true c40
                                      clear c40
                                      have H' := Aside0.mk H
                                      clear H
                                      have p253 : 0 ≤ (x10_2 : Int) := of_decide_eq_true (by first | (with_reducible assumption) | assumption)
                                      have q253 : x10_2 < (l0.length : Int) := of_decide_eq_true (by first | (with_reducible assumption) | assumption)
                                      obtain ⟨ad253, e253, hx253_0, hx253_1, hx253_2, hx253_3⟩ := at_T36 HR0.out x10_2 p253 q253
                                      obtain rfl : ad247 = ad253 := (by injection e253)
                                      replace hx253_0 := (HB.out.cell (World.block_lt_of_cell? w _ hx253_0)).trans hx253_0
                                      replace hx253_1 := (HB.out.cell (World.block_lt_of_cell? w _ hx253_1)).trans hx253_1
                                      replace hx253_2 := (HB.out.cell (World.block_lt_of_cell? w _ hx253_2)).trans hx253_2
                                      replace hx253_3 := (HB.out.cell (World.block_lt_of_cell? w _ hx253_3)).trans hx253_3
                                      replace p253 := eq_true p253
                                      replace q253 := eq_true q253
                                      go_wp2
                                      go_meet
                                      case rel => exact ⟨_, (true), (by first | rfl | (simp; done) | (simp [*]; done)), H', ⟨by have := HJ7.out; have := HK2.out; have := HJ22.out; first | omega | exact Nat.le_refl _⟩, ⟨by (with_reducible repeat (first | apply Kd.R_alloc | apply Kd.R_drewN | apply Kd.R_drew)); exact HO_5.out⟩, ⟨by repeat (first | (with_reducible first | exact HB.out | apply below_alloc | apply pw_below_drewN | apply below_drew1) | exact HB.out)⟩⟩
                                    · rw [if_neg c40] at H
                                      have c40b0 : decide ((wrap64 ((rd t239 x10_2) - ((rd_T36 l0 x10_2).f0))) < 0) = false := decide_eq_false c40
                                      clear c40
                                      by_cases c41 : (wrap64 (a1 - t244)) ≤ 0
                                      · rw [if_pos c41] at H
                                        have c41b0 : decide ((wrap64 (a1 - t244)) ≤ 0) = true := decide_eq_true c41
                                        clear c41
                                        have H' := Aside0.mk H
                                        clear H
                                        have p253 : 0 ≤ (x10_2 : Int) := of_decide_eq_true (by first | (with_reducible assumption) | assumption)
                                        have q253 : x10_2 < (l0.length : Int) := of_decide_eq_true (by first | (with_reducible assumption) | assumption)
                                        obtain ⟨ad253, e253, hx253_0, hx253_1, hx253_2, hx253_3⟩ := at_T36 HR0.out x10_2 p253 q253
                                        obtain rfl : ad247 = ad253 := (by injection e253)
                                        replace hx253_0 := (HB.out.cell (World.block_lt_of_cell? w _ hx253_0)).trans hx253_0
                                        replace hx253_1 := (HB.out.cell (World.block_lt_of_cell? w _ hx253_1)).trans hx253_1
                                        replace hx253_2 := (HB.out.cell (World.block_lt_of_cell? w _ hx253_2)).trans hx253_2
                                        replace hx253_3 := (HB.out.cell (World.block_lt_of_cell? w _ hx253_3)).trans hx253_3
                                        replace p253 := eq_true p253
                                        replace q253 := eq_true q253
                                        go_wp2
                                        go_meet
                                        case rel => exact ⟨_, (decide ((wrap64 ((rd t239 x10_2) - ((rd_T36 l0 x10_2).f0))) > 0)), (by first | rfl | (simp; done) | (simp [*]; done)), H', ⟨by have := HJ7.out; have := HK2.out; have := HJ22.out; first | omega | exact Nat.le_refl _⟩, ⟨by (with_reducible repeat (first | apply Kd.R_alloc | apply Kd.R_drewN | apply Kd.R_drew)); exact HO_5.out⟩, ⟨by repeat (first | (with_reducible first | exact HB.out | apply below_alloc | apply pw_below_drewN | apply below_drew1) | exact HB.out)⟩⟩
                                      · rw [if_neg c41] at H
                                        have c41b0 : decide ((wrap64 (a1 - t244)) ≤ 0) = false := decide_eq_false c41
                                        clear c41
                                        have H' := Aside0.mk H
                                        clear H
                                        have p253 : 0 ≤ (x10_2 : Int) := of_decide_eq_true (by first | (with_reducible assumption) | assumption)
                                        have q253 : x10_2 < (l0.length : Int) := of_decide_eq_true (by first | (with_reducible assumption) | assumption)
                                        obtain ⟨ad253, e253, hx253_0, hx253_1, hx253_2, hx253_3⟩ := at_T36 HR0.out x10_2 p253 q253
                                        obtain rfl : ad247 = ad253 := (by injection e253)
                                        replace hx253_0 := (HB.out.cell (World.block_lt_of_cell? w _ hx253_0)).trans hx253_0
                                        replace hx253_1 := (HB.out.cell (World.block_lt_of_cell? w _ hx253_1)).trans hx253_1
                                        replace hx253_2 := (HB.out.cell (World.block_lt_of_cell? w _ hx253_2)).trans hx253_2
                                        replace hx253_3 := (HB.out.cell (World.block_lt_of_cell? w _ hx253_3)).trans hx253_3
                                        replace p253 := eq_true p253
                                        replace q253 := eq_true q253
                                        go_wp2
                                        go_meet
                                        case rel => exact ⟨_, (false), (by first | rfl | (simp; done) | (simp [*]; done)), H', ⟨by have := HJ7.out; have := HK2.out; have := HJ22.out; first | omega | exact Nat.le_refl _⟩, ⟨by (with_reducible repeat (first | apply Kd.R_alloc | apply Kd.R_drewN | apply Kd.R_drew)); exact HO_5.out⟩, ⟨by repeat (first | (with_reducible first | exact HB.out | apply below_alloc | apply pw_below_drewN | apply below_drew1) | exact HB.out)⟩⟩
                                  · rw [if_neg c39] at H
                                    have c39b0 : decide (0 ≤ (wrap64 (a1 - t244))) = false := decide_eq_false c39
                                    clear c39
                                    by_cases c42 : (wrap64 (a1 - t244)) ≤ 0
                                    · rw [if_pos c42] at H
                                      have c42b0 : decide ((wrap64 (a1 - t244)) ≤ 0) = true := decide_eq_true c42
                                      clear c42
                                      have H' := Aside0.mk H
                                      clear H
                                      have p253 : 0 ≤ (x10_2 : Int) := of_decide_eq_true (by first | (with_reducible assumption) | assumption)
                                      have q253 : x10_2 < (l0.length : Int) := of_decide_eq_true (by first | (with_reducible assumption) | assumption)
                                      obtain ⟨ad253, e253, hx253_0, hx253_1, hx253_2, hx253_3⟩ := at_T36 HR0.out x10_2 p253 q253
                                      obtain rfl : ad247 = ad253 := (by injection e253)
                                      replace hx253_0 := (HB.out.cell (World.block_lt_of_cell? w _ hx253_0)).trans hx253_0
                                      replace hx253_1 := (HB.out.cell (World.block_lt_of_cell? w _ hx253_1)).trans hx253_1
                                      replace hx253_2 := (HB.out.cell (World.block_lt_of_cell? w _ hx253_2)).trans hx253_2
                                      replace hx253_3 := (HB.out.cell (World.block_lt_of_cell? w _ hx253_3)).trans hx253_3
                                      replace p253 := eq_true p253
                                      replace q253 := eq_true q253
                                      go_wp2
                                      go_meet
                                      case rel => exact ⟨_, (decide ((wrap64 ((rd t239 x10_2) - ((rd_T36 l0 x10_2).f0))) > 0)), (by first | rfl | (simp; done) | (simp [*]; done)), H', ⟨by have := HJ7.out; have := HK2.out; have := HJ22.out; first | omega | exact Nat.le_refl _⟩, ⟨by (with_reducible repeat (first | apply Kd.R_alloc | apply Kd.R_drewN | apply Kd.R_drew)); exact HO_5.out⟩, ⟨by repeat (first | (with_reducible first | exact HB.out | apply below_alloc | apply pw_below_drewN | apply below_drew1) | exact HB.out)⟩⟩
                                    · rw [if_neg c42] at H
                                      have c42b0 : decide ((wrap64 (a1 - t244)) ≤ 0) = false := decide_eq_false c42
                                      clear c42
                                      have H' := Aside0.mk H
                                      clear H
                                      have p253 : 0 ≤ (x10_2 : Int) := of_decide_eq_true (by first | (with_reducible assumption) | assumption)
                                      have q253 : x10_2 < (l0.length : Int) := of_decide_eq_true (by first | (with_reducible assumption) | assumption)
                                      obtain ⟨ad253, e253, hx253_0, hx253_1, hx253_2, hx253_3⟩ := at_T36 HR0.out x10_2 p253 q253
                                      obtain rfl : ad247 = ad253 := (by injection e253)
                                      replace hx253_0 := (HB.out.cell (World.block_lt_of_cell? w _ hx253_0)).trans hx253_0
                                      replace hx253_1 := (HB.out.cell (World.block_lt_of_cell? w _ hx253_1)).trans hx253_1
                                      replace hx253_2 := (HB.out.cell (World.block_lt_of_cell? w _ hx253_2)).trans hx253_2
                                      replace hx253_3 := (HB.out.cell (World.block_lt_of_cell? w _ hx253_3)).trans hx253_3
                                      replace p253 := eq_true p253
                                      replace q253 := eq_true q253
                                      go_wp2
                                      go_meet
                                      case rel => exact ⟨_, (false), (by first | rfl | (simp; done) | (simp [*]; done)), H', ⟨by have := HJ7.out; have := HK2.out; have := HJ22.out; first | omega | exact Nat.le_refl _⟩, ⟨by (with_reducible repeat (first | apply Kd.R_alloc | apply Kd.R_drewN | apply Kd.R_drew)); exact HO_5.out⟩, ⟨by repeat (first | (with_reducible first | exact HB.out | apply below_alloc | apply pw_below_drewN | apply below_drew1) | exact HB.out)⟩⟩
                              · rw [if_neg c37] at H
                                exact absurd H (by simp)
                            · rw [if_neg c36] at H
                              exact absurd H (by simp)
                          case rest =>
                            clear HC35
                            try clear c1
                            try clear c2
                            try clear p2
                            try clear q2
                            try clear hx2
                            try clear c3
                            try clear c4
                            try clear c6
                            try clear p6
                            try clear c7
                            try clear c12
                            try clear c12b0
                            try clear c12b1
                            try clear c13
                            try clear c14
                            try clear c17
                            try clear c19
                            try clear c19b0
                            try clear c20
                            try clear c20b0
                            try clear c21
                            try clear c21b0
                            try clear p24
                            try clear q24
                            try clear hx24
                            try clear p25
                            try clear q25
                            try clear hx25
                            try clear c28
                            try clear c28b0
                            try clear c30
                            try clear c30b0
                            try clear c30b1
                            try clear c36
                            try clear c36b0
                            try clear c37
                            try clear c37b0
                            try clear c38
                            try clear c38b0
                            try clear c39
                            try clear c39b0
                            try clear c40
                            try clear c40b0
                            try clear c41
                            try clear c41b0
                            try clear c42
                            try clear c42b0
                            try clear hx246_0
                            try clear hx247_0
                            try clear hx247_1
                            try clear hx247_2
                            try clear hx247_3
                            try clear hx248_0
                            try clear hx248_1
                            try clear hx248_2
                            try clear hx248_3
                            try clear hx250_0
                            try clear hx250_1
                            try clear hx250_2
                            try clear hx250_3
                            try clear hx252_0
                            try clear hx252_1
                            try clear hx252_2
                            try clear hx252_3
                            try clear hx253_0
                            try clear hx253_1
                            try clear hx253_2
                            try clear hx253_3
                            try clear p2
                            try clear p24
                            try clear p246
                            try clear p247
                            try clear p248
                            try clear p25
                            try clear p250
                            try clear p252
                            try clear p253
                            try clear p6
                            try clear q2
                            try clear q24
                            try clear q246
                            try clear q247
                            try clear q248
                            try clear q25
                            try clear q250
                            try clear q252
                            try clear q253
                            obtain ⟨kq, x106_34, rfl, HA, HJ34, HO_5, HB⟩ := hcut
                            cases kq with
                            | zero => exact absurd HA.out (by simp [vinculumlaw27_GlueLimits.j3])
                            | succ kj34 =>
                              have H := HA.out
                              clear HA
                              simp only [vinculumlaw27_GlueLimits.j3] at H
                              by_cases c43 : x106_34 = true
                              · subst c43
                                have H1 : (some false) = some r := by rw [if_pos rfl] at H; exact H
                                clear H
                                have H := H1
                                clear H1
                                obtain rfl := Option.some.inj H
                                go_wp2
                                go_ret
                                exact ⟨by first | rfl | (simp [errW_none, errW_some] <;> rfl) | (simp [*, errW_none, errW_some] <;> rfl), by repeat (first | (with_reducible first | exact HB.out | apply below_alloc | apply pw_below_drewN | apply below_drew1) | exact HB.out)⟩
                              · replace c43 := Bool.eq_false_iff.mpr c43
                                subst c43
                                have H1 : (if x13_22 = 0 then (if (wrap64 ((rd t239 x10_2) - ((rd_T36 l0 x10_2).f0))) = 0 then (vinculumlaw27_GlueLimits.l0 kj34 l0 t239 t240 (wrap64 (a1 - t244)) t245 (wrap64 (x10_2 + 1))) else (some false)) else (if (wrap64 ((wrap64 ((wrap64 ((wrap64 (a1 - t244)) - t240)) * x12_22)) - (wrap64 ((wrap64 ((rd t239 x10_2) - ((rd_T36 l0 x10_2).f0))) * x13_22)))) ≥ x13_22 then (some false) else (if (wrap64 ((wrap64 ((wrap64 ((wrap64 (a1 - t244)) - t240)) * x12_22)) - (wrap64 ((wrap64 ((rd t239 x10_2) - ((rd_T36 l0 x10_2).f0))) * x13_22)))) ≤ (wrap64 (-x13_22)) then (some false) else (vinculumlaw27_GlueLimits.l0 kj34 l0 t239 t240 (wrap64 (a1 - t244)) t245 (wrap64 (x10_2 + 1)))))) = some r := by rw [if_neg (show ¬ (false = true) by decide)] at H; exact H
                                clear H
                                have H := H1
                                clear H1
                                by_cases c44 : x13_22 = 0
                                · rw [if_pos c44] at H
                                  have c44b0 : (x13_22 == 0) = true := beq_iff_eq.mpr c44
                                  have c44b1 : (x13_22 != 0) = false := bne_eq_false_iff_eq.mpr c44
                                  clear c44
                                  by_cases c45 : (wrap64 ((rd t239 x10_2) - ((rd_T36 l0 x10_2).f0))) = 0
                                  · rw [if_pos c45] at H
                                    have c45b0 : ((wrap64 ((rd t239 x10_2) - ((rd_T36 l0 x10_2).f0))) == 0) = true := beq_iff_eq.mpr c45
                                    have c45b1 : ((wrap64 ((rd t239 x10_2) - ((rd_T36 l0 x10_2).f0))) != 0) = false := bne_eq_false_iff_eq.mpr c45
                                    clear c45
                                    have H' := Aside0.mk H
                                    clear H
                                    go_wp2
                                    go_roundg kj34
                                    case measure => have := HJ7.out; have := HK2.out; have := HJ22.out; have := HJ34.out; omega
                                    case rel => exact ⟨(wrap64 (x10_2 + 1)), (by first | rfl | (simp; done) | (simp [*]; done)), H', ⟨by have := HJ7.out; have := HK2.out; have := HJ22.out; have := HJ34.out; omega⟩, ⟨by (with_reducible repeat (first | apply Kd.R_alloc | apply Kd.R_drewN | apply Kd.R_drew)); exact HO_5.out⟩, ⟨by repeat (first | (with_reducible first | exact HB.out | apply below_alloc | apply pw_below_drewN | apply below_drew1) | exact HB.out)⟩⟩
                                  · rw [if_neg c45] at H
                                    have c45b0 : ((wrap64 ((rd t239 x10_2) - ((rd_T36 l0 x10_2).f0))) == 0) = false := beq_eq_false_iff_ne.mpr c45
                                    have c45b1 : ((wrap64 ((rd t239 x10_2) - ((rd_T36 l0 x10_2).f0))) != 0) = true := bne_iff_ne.mpr c45
                                    obtain rfl := Option.some.inj H
                                    go_wp2
                                    go_ret
                                    exact ⟨by first | rfl | (simp [errW_none, errW_some] <;> rfl) | (simp [*, errW_none, errW_some] <;> rfl), by repeat (first | (with_reducible first | exact HB.out | apply below_alloc | apply pw_below_drewN | apply below_drew1) | exact HB.out)⟩
                                · rw [if_neg c44] at H
                                  have c44b0 : (x13_22 == 0) = false := beq_eq_false_iff_ne.mpr c44
                                  have c44b1 : (x13_22 != 0) = true := bne_iff_ne.mpr c44
                                  by_cases c46 : (wrap64 ((wrap64 ((wrap64 ((wrap64 (a1 - t244)) - t240)) * x12_22)) - (wrap64 ((wrap64 ((rd t239 x10_2) - ((rd_T36 l0 x10_2).f0))) * x13_22)))) ≥ x13_22
                                  · rw [if_pos c46] at H
                                    have c46b0 : decide (x13_22 ≤ (wrap64 ((wrap64 ((wrap64 ((wrap64 (a1 - t244)) - t240)) * x12_22)) - (wrap64 ((wrap64 ((rd t239 x10_2) - ((rd_T36 l0 x10_2).f0))) * x13_22))))) = true := decide_eq_true c46
                                    clear c46
                                    obtain rfl := Option.some.inj H
                                    go_wp2
                                    go_ret
                                    exact ⟨by first | rfl | (simp [errW_none, errW_some] <;> rfl) | (simp [*, errW_none, errW_some] <;> rfl), by repeat (first | (with_reducible first | exact HB.out | apply below_alloc | apply pw_below_drewN | apply below_drew1) | exact HB.out)⟩
                                  · rw [if_neg c46] at H
                                    have c46b0 : decide (x13_22 ≤ (wrap64 ((wrap64 ((wrap64 ((wrap64 (a1 - t244)) - t240)) * x12_22)) - (wrap64 ((wrap64 ((rd t239 x10_2) - ((rd_T36 l0 x10_2).f0))) * x13_22))))) = false := decide_eq_false c46
                                    clear c46
                                    by_cases c47 : (wrap64 ((wrap64 ((wrap64 ((wrap64 (a1 - t244)) - t240)) * x12_22)) - (wrap64 ((wrap64 ((rd t239 x10_2) - ((rd_T36 l0 x10_2).f0))) * x13_22)))) ≤ (wrap64 (-x13_22))
                                    · rw [if_pos c47] at H
                                      have c47b0 : decide ((wrap64 ((wrap64 ((wrap64 ((wrap64 (a1 - t244)) - t240)) * x12_22)) - (wrap64 ((wrap64 ((rd t239 x10_2) - ((rd_T36 l0 x10_2).f0))) * x13_22)))) ≤ (wrap64 (-x13_22))) = true := decide_eq_true c47
                                      clear c47
                                      obtain rfl := Option.some.inj H
                                      go_wp2
                                      go_ret
                                      exact ⟨by first | rfl | (simp [errW_none, errW_some] <;> rfl) | (simp [*, errW_none, errW_some] <;> rfl), by repeat (first | (with_reducible first | exact HB.out | apply below_alloc | apply pw_below_drewN | apply below_drew1) | exact HB.out)⟩
                                    · rw [if_neg c47] at H
                                      have c47b0 : decide ((wrap64 ((wrap64 ((wrap64 ((wrap64 (a1 - t244)) - t240)) * x12_22)) - (wrap64 ((wrap64 ((rd t239 x10_2) - ((rd_T36 l0 x10_2).f0))) * x13_22)))) ≤ (wrap64 (-x13_22))) = false := decide_eq_false c47
                                      clear c47
                                      have H' := Aside0.mk H
                                      clear H
                                      go_wp2
                                      go_roundg kj34
                                      case measure => have := HJ7.out; have := HK2.out; have := HJ22.out; have := HJ34.out; omega
                                      case rel => exact ⟨(wrap64 (x10_2 + 1)), (by first | rfl | (simp; done) | (simp [*]; done)), H', ⟨by have := HJ7.out; have := HK2.out; have := HJ22.out; have := HJ34.out; omega⟩, ⟨by (with_reducible repeat (first | apply Kd.R_alloc | apply Kd.R_drewN | apply Kd.R_drew)); exact HO_5.out⟩, ⟨by repeat (first | (with_reducible first | exact HB.out | apply below_alloc | apply pw_below_drewN | apply below_drew1) | exact HB.out)⟩⟩
                    · rw [if_neg c21] at H
                      exact absurd H (by simp)
                  · rw [if_neg c20] at H
                    exact absurd H (by simp)
                · rw [if_neg c19] at H
                  have c19b0 : decide (x10_2 < (t239.length : Int)) = false := decide_eq_false c19
                  clear c19
                  obtain rfl := Option.some.inj H
                  obtain ⟨Ao48, co48, eo48⟩ := Kd.R_slice HO_5.out
                  subst eo48
                  go_wp2
                  go_ret
                  exact ⟨by first | rfl | (simp [errW_none, errW_some] <;> rfl) | (simp [*, errW_none, errW_some] <;> rfl), by repeat (first | (with_reducible first | exact HB.out | apply below_alloc | apply pw_below_drewN | apply below_drew1) | exact HB.out)⟩
    · replace c6 := Bool.eq_false_iff.mpr c6
      subst c6
      have H1 : (some true) = some r := by rw [if_neg (show ¬ (false = true) by decide)] at H; exact H
      clear H
      have H := H1
      clear H1
      obtain rfl := Option.some.inj H
      go_enter Try.func7, Try.ntmps7
      go_wp2_with (first | ((with_reducible refine gate_callee (f := 13) rfl ?_); refine goesL_ (some 15) rfl rfl Try.func13 (by kernel_rfl) rfl #[] rfl (by (try simp only [List.map_toArray, List.map_cons, List.map_nil]); first | done | rfl | (simp only [List.length_drop, List.length_take]; rfl)) ?_; (with_reducible refine (vinculumlaw27_awake.calls k  true _ A3.out).mono ?_); rintro e w49 ⟨rfl, hb⟩; refine ⟨_, rfl, ?_⟩; have n0_ := Aside0.mk (below_step (by repeat (first | (with_reducible first | exact HB.out | apply below_alloc | apply pw_below_drewN | apply below_drew1) | exact HB.out)) hb); clear HB; have HB := n0_; clear n0_; (try clear hb); (try clear hb2); (try clear hk); (try clear hi)) | ((with_reducible refine gate_callee (f := 27) rfl ?_); refine goesL_ (some 19) rfl rfl Try.func27 (by kernel_rfl) rfl #[.slice A0 l0.length c0, .int .i64 a1] rfl (by (try simp only [List.map_toArray, List.map_cons, List.map_nil]); first | done | rfl | (simp only [List.length_drop, List.length_take]; rfl)) ?_; (with_reducible refine (vinculumlaw27_right.calls k _ _ l0 a1 false _ ?side1 ?side2 A5.out).mono ?_); (case side1 => repeat (first | exact (Kd.C_below HR0.out HB.out) | (with_reducible refine Kd.C_alloc ?_ _) | (with_reducible refine Kd.C_drewN ?_ _) | (with_reducible refine Kd.C_drew ?_))); (case side2 => exact HC0.out); rintro e w50 ⟨rfl, hb⟩; refine ⟨_, rfl, ?_⟩; have n0_ := Aside0.mk (below_step (by repeat (first | (with_reducible first | exact HB.out | apply below_alloc | apply pw_below_drewN | apply below_drew1) | exact HB.out)) hb); clear HB; have HB := n0_; clear n0_; (try clear hb); (try clear hb2); (try clear hk); (try clear hi)))
      go_ret
      exact ⟨by first | rfl | (simp [errW_none, errW_some] <;> rfl) | (simp [*, errW_none, errW_some] <;> rfl), by repeat (first | (with_reducible first | exact HB.out | apply below_alloc | apply pw_below_drewN | apply below_drew1) | exact HB.out)⟩
  · replace c4 := Bool.eq_false_iff.mpr c4
    subst c4
    have H1 : (some false) = some r := by rw [if_neg (show ¬ (false = true) by decide)] at H; exact H
    clear H
    have H := H1
    clear H1
    obtain rfl := Option.some.inj H
    go_enter Try.func7, Try.ntmps7
    go_wp2_with (first | ((with_reducible refine gate_callee (f := 13) rfl ?_); refine goesL_ (some 15) rfl rfl Try.func13 (by kernel_rfl) rfl #[] rfl (by (try simp only [List.map_toArray, List.map_cons, List.map_nil]); first | done | rfl | (simp only [List.length_drop, List.length_take]; rfl)) ?_; (with_reducible refine (vinculumlaw27_awake.calls k  false _ A3.out).mono ?_); rintro e w51 ⟨rfl, hb⟩; refine ⟨_, rfl, ?_⟩; have n0_ := Aside0.mk (below_step (by repeat (first | (with_reducible first | exact HB.out | apply below_alloc | apply pw_below_drewN | apply below_drew1) | exact HB.out)) hb); clear HB; have HB := n0_; clear n0_; (try clear hb); (try clear hb2); (try clear hk); (try clear hi)))
    go_ret
    exact ⟨by first | rfl | (simp [errW_none, errW_some] <;> rfl) | (simp [*, errW_none, errW_some] <;> rfl), by repeat (first | (with_reducible first | exact HB.out | apply below_alloc | apply pw_below_drewN | apply below_drew1) | exact HB.out)⟩

end Go.Proofs.Ytojcnndkdopahaa.P
