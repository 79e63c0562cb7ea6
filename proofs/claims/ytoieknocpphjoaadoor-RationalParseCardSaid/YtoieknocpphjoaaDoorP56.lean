--m
/- Written by wip/tool/hprint.py (the kit's print.py with hand-proved contracts set in): contracts of the functions that the statements of this seat reach, without conditions beyond those named in each theorem. -/
import Derived.Test.YtoieknocpphjoaaDoorP0
import Derived.Test.YtoieknocpphjoaaDoorP4
import Derived.Test.YtoieknocpphjoaaDoorP13
import Derived.Test.YtoieknocpphjoaaDoorP55
namespace Go.Proofs.YtoieknocpphjoaaDoor.P
open Go.RowKit Go.Proofs.YtoieknocpphjoaaDoorW.PrintWords Go.Proofs.YtoieknocpphjoaaDoorW.PrintLast Go.Proofs.YtoieknocpphjoaaDoorW.PrintMore
attribute [local go_sem] zay zaz zaA zaB zaC zaD zaE zaF   -- for this text's walks alone
set_option linter.unusedVariables false
set_option linter.unusedSimpArgs false

/-! ### vinculumref02_reduced: function 58 -/
mutual
def vinculumref02_reduced.j1 : Nat → Int → Int → List Int → Option (Int × Int × Int)
 | 0, _, _, _ => none
 | k + 1, x6, x7, x8 => vinculumref02_reduced.l1 k x6 x7 x8
def vinculumref02_reduced.j3 : Nat → Int → Int → List Int → Option (Int × Int × Int)
 | 0, _, _, _ => none
 | k + 1, x6, x7, x8 => vinculumref02_reduced.l2 k x6 x7 x8
def vinculumref02_reduced.j5 : Nat → Int → Int → List Int → Option (Int × Int × Int)
 | 0, _, _, _ => none
 | k + 1, x6, x7, x8 => if (x8.length : Int) > 10 then (some (0, 0, 2)) else (vinculumref02_reduced.l3 k x6 x7 x8 0 1 0)
def vinculumref02_reduced.l3 : Nat → Int → Int → List Int → Int → Int → Int → Option (Int × Int × Int)
 | 0, _, _, _, _, _, _ => none
 | k + 1, x6, x7, x8, x9, x10, x11 => if x11 < (x8.length : Int) then (if 0 ≤ x11 then (vinculumref02_reduced.l3 k x6 x7 x8 (wrap64 ((wrap64 (10 * x9)) + (((rd x8 x11) - 48) % 256))) x10 (wrap64 (x11 + 1))) else (none)) else (vinculumref02_reduced.l4 k x6 x7 x9 x10 0)
def vinculumref02_reduced.l4 : Nat → Int → Int → Int → Int → Int → Option (Int × Int × Int)
 | 0, _, _, _, _, _ => none
 | k + 1, x6, x7, x9, x10, x12 => if x12 < x6 then (if (wrap64 (x10 * 2)) > 2147483647 then (some (0, 0, 2)) else (vinculumref02_reduced.l4 k x6 x7 x9 (wrap64 (x10 * 2)) (wrap64 (x12 + 1)))) else (vinculumref02_reduced.l5 k x7 x9 x10 0)
def vinculumref02_reduced.l5 : Nat → Int → Int → Int → Int → Option (Int × Int × Int)
 | 0, _, _, _, _ => none
 | k + 1, x7, x9, x10, x13 => if x13 < x7 then (if (wrap64 (x10 * 5)) > 2147483647 then (some (0, 0, 2)) else (vinculumref02_reduced.l5 k x7 x9 (wrap64 (x10 * 5)) (wrap64 (x13 + 1)))) else ((vinculumref02_Make.f k x9 x10).bind fun bt512 => (some (bt512.1, bt512.2.1, bt512.2.2)))
def vinculumref02_reduced.l2 : Nat → Int → Int → List Int → Option (Int × Int × Int)
 | 0, _, _, _ => none
 | k + 1, x6, x7, x8 => if (x8.length : Int) > 1 then (if 0 < (x8.length : Int) then (if (rd x8 0) = 48 then (if 1 ≤ (x8.length : Int) then (vinculumref02_reduced.l2 k x6 x7 (x8.drop 1)) else (none)) else (vinculumref02_reduced.j5 k x6 x7 x8)) else (none)) else (vinculumref02_reduced.j5 k x6 x7 x8)
def vinculumref02_reduced.l1 : Nat → Int → Int → List Int → Option (Int × Int × Int)
 | 0, _, _, _ => none
 | k + 1, x6, x7, x8 => if x7 > 0 then (if 0 ≤ (wrap64 ((x8.length : Int) - 1)) then (if (wrap64 ((x8.length : Int) - 1)) < (x8.length : Int) then (if ((((rd x8 (wrap64 ((x8.length : Int) - 1))) - 48) % 256) % 5) = 0 then ((vinculumref02_divided.f k x8 5).bind fun t502 => (vinculumref02_reduced.l1 k x6 (wrap64 (x7 - 1)) t502)) else (vinculumref02_reduced.j3 k x6 x7 x8)) else (none)) else (none)) else (vinculumref02_reduced.j3 k x6 x7 x8)
def vinculumref02_reduced.l0 : Nat → Int → Int → List Int → Option (Int × Int × Int)
 | 0, _, _, _ => none
 | k + 1, x6, x7, x8 => if x6 > 0 then (if 0 ≤ (wrap64 ((x8.length : Int) - 1)) then (if (wrap64 ((x8.length : Int) - 1)) < (x8.length : Int) then (if ((((rd x8 (wrap64 ((x8.length : Int) - 1))) - 48) % 256) % 2) = 0 then ((vinculumref02_divided.f k x8 2).bind fun t498 => (vinculumref02_reduced.l0 k (wrap64 (x6 - 1)) x7 t498)) else (vinculumref02_reduced.j1 k x6 x7 x8)) else (none)) else (none)) else (vinculumref02_reduced.j1 k x6 x7 x8)
end
def vinculumref02_reduced.f (k : Nat) (a0 : ByteArray) (a1 : Int) : Option (Int × Int × Int) := if a0.size ≤ 9223372036854775807 then (vinculumref02_reduced.l0 k a1 a1 (zax a0)) else (none)
theorem vinculumref02_reduced.mono_l : ∀ k, (∀ y0 y1 y2, LeO (vinculumref02_reduced.j1 k y0 y1 y2) (vinculumref02_reduced.j1 (k + 1) y0 y1 y2)) ∧ (∀ y0 y1 y2, LeO (vinculumref02_reduced.j3 k y0 y1 y2) (vinculumref02_reduced.j3 (k + 1) y0 y1 y2)) ∧ (∀ y0 y1 y2, LeO (vinculumref02_reduced.j5 k y0 y1 y2) (vinculumref02_reduced.j5 (k + 1) y0 y1 y2)) ∧ (∀ y0 y1 y2 y3 y4 y5, LeO (vinculumref02_reduced.l3 k y0 y1 y2 y3 y4 y5) (vinculumref02_reduced.l3 (k + 1) y0 y1 y2 y3 y4 y5)) ∧ (∀ y0 y1 y2 y3 y4, LeO (vinculumref02_reduced.l4 k y0 y1 y2 y3 y4) (vinculumref02_reduced.l4 (k + 1) y0 y1 y2 y3 y4)) ∧ (∀ y0 y1 y2 y3, LeO (vinculumref02_reduced.l5 k y0 y1 y2 y3) (vinculumref02_reduced.l5 (k + 1) y0 y1 y2 y3)) ∧ (∀ y0 y1 y2, LeO (vinculumref02_reduced.l2 k y0 y1 y2) (vinculumref02_reduced.l2 (k + 1) y0 y1 y2)) ∧ (∀ y0 y1 y2, LeO (vinculumref02_reduced.l1 k y0 y1 y2) (vinculumref02_reduced.l1 (k + 1) y0 y1 y2)) ∧ (∀ y0 y1 y2, LeO (vinculumref02_reduced.l0 k y0 y1 y2) (vinculumref02_reduced.l0 (k + 1) y0 y1 y2))
 | 0 => ⟨fun _ _ _ r h => by simp [vinculumref02_reduced.j1] at h, fun _ _ _ r h => by simp [vinculumref02_reduced.j3] at h, fun _ _ _ r h => by simp [vinculumref02_reduced.j5] at h, fun _ _ _ _ _ _ r h => by simp [vinculumref02_reduced.l3] at h, fun _ _ _ _ _ r h => by simp [vinculumref02_reduced.l4] at h, fun _ _ _ _ r h => by simp [vinculumref02_reduced.l5] at h, fun _ _ _ r h => by simp [vinculumref02_reduced.l2] at h, fun _ _ _ r h => by simp [vinculumref02_reduced.l1] at h, fun _ _ _ r h => by simp [vinculumref02_reduced.l0] at h⟩
 | k + 1 => by
  obtain ⟨ih0, ih1, ih2, ih3, ih4, ih5, ih6, ih7, ih8⟩ := vinculumref02_reduced.mono_l k
  refine ⟨?_, ?_, ?_, ?_, ?_, ?_, ?_, ?_, ?_⟩
  ·intro y0 y1 y2
   unfold vinculumref02_reduced.j1
   repeat' first
   | (with_reducible exact ih0 _ _ _)
   | (with_reducible exact ih1 _ _ _)
   | (with_reducible exact ih2 _ _ _)
   | (with_reducible exact ih3 _ _ _ _ _ _)
   | (with_reducible exact ih4 _ _ _ _ _)
   | (with_reducible exact ih5 _ _ _ _)
   | (with_reducible exact ih6 _ _ _)
   | (with_reducible exact ih7 _ _ _)
   | (with_reducible exact ih8 _ _ _)
   | (with_reducible exact vinculumref02_Make.mono _ _ _)
   | (with_reducible exact vinculumref02_divided.mono _ _ _)
   | (with_reducible exact LeO.refl _)
   | (with_reducible exact LeO.none _)
   | (with_reducible refine LeO.ite ?_ ?_)
   | (with_reducible refine LeO.bind ?_ (fun _ => ?_))
   | exact ih0 _ _ _
   | exact ih1 _ _ _
   | exact ih2 _ _ _
   | exact ih3 _ _ _ _ _ _
   | exact ih4 _ _ _ _ _
   | exact ih5 _ _ _ _
   | exact ih6 _ _ _
   | exact ih7 _ _ _
   | exact ih8 _ _ _
   | exact vinculumref02_Make.mono _ _ _
   | exact vinculumref02_divided.mono _ _ _
   | exact LeO.none _
   | refine LeO.ite ?_ ?_
   | refine LeO.bind ?_ (fun _ => ?_)
  ·intro y0 y1 y2
   unfold vinculumref02_reduced.j3
   repeat' first
   | (with_reducible exact ih0 _ _ _)
   | (with_reducible exact ih1 _ _ _)
   | (with_reducible exact ih2 _ _ _)
   | (with_reducible exact ih3 _ _ _ _ _ _)
   | (with_reducible exact ih4 _ _ _ _ _)
   | (with_reducible exact ih5 _ _ _ _)
   | (with_reducible exact ih6 _ _ _)
   | (with_reducible exact ih7 _ _ _)
   | (with_reducible exact ih8 _ _ _)
   | (with_reducible exact vinculumref02_Make.mono _ _ _)
   | (with_reducible exact vinculumref02_divided.mono _ _ _)
   | (with_reducible exact LeO.refl _)
   | (with_reducible exact LeO.none _)
   | (with_reducible refine LeO.ite ?_ ?_)
   | (with_reducible refine LeO.bind ?_ (fun _ => ?_))
   | exact ih0 _ _ _
   | exact ih1 _ _ _
   | exact ih2 _ _ _
   | exact ih3 _ _ _ _ _ _
   | exact ih4 _ _ _ _ _
   | exact ih5 _ _ _ _
   | exact ih6 _ _ _
   | exact ih7 _ _ _
   | exact ih8 _ _ _
   | exact vinculumref02_Make.mono _ _ _
   | exact vinculumref02_divided.mono _ _ _
   | exact LeO.none _
   | refine LeO.ite ?_ ?_
   | refine LeO.bind ?_ (fun _ => ?_)
  ·intro y0 y1 y2
   unfold vinculumref02_reduced.j5
   repeat' first
   | (with_reducible exact ih0 _ _ _)
   | (with_reducible exact ih1 _ _ _)
   | (with_reducible exact ih2 _ _ _)
   | (with_reducible exact ih3 _ _ _ _ _ _)
   | (with_reducible exact ih4 _ _ _ _ _)
   | (with_reducible exact ih5 _ _ _ _)
   | (with_reducible exact ih6 _ _ _)
   | (with_reducible exact ih7 _ _ _)
   | (with_reducible exact ih8 _ _ _)
   | (with_reducible exact vinculumref02_Make.mono _ _ _)
   | (with_reducible exact vinculumref02_divided.mono _ _ _)
   | (with_reducible exact LeO.refl _)
   | (with_reducible exact LeO.none _)
   | (with_reducible refine LeO.ite ?_ ?_)
   | (with_reducible refine LeO.bind ?_ (fun _ => ?_))
   | exact ih0 _ _ _
   | exact ih1 _ _ _
   | exact ih2 _ _ _
   | exact ih3 _ _ _ _ _ _
   | exact ih4 _ _ _ _ _
   | exact ih5 _ _ _ _
   | exact ih6 _ _ _
   | exact ih7 _ _ _
   | exact ih8 _ _ _
   | exact vinculumref02_Make.mono _ _ _
   | exact vinculumref02_divided.mono _ _ _
   | exact LeO.none _
   | refine LeO.ite ?_ ?_
   | refine LeO.bind ?_ (fun _ => ?_)
  ·intro y0 y1 y2 y3 y4 y5
   unfold vinculumref02_reduced.l3
   repeat' first
   | (with_reducible exact ih0 _ _ _)
   | (with_reducible exact ih1 _ _ _)
   | (with_reducible exact ih2 _ _ _)
   | (with_reducible exact ih3 _ _ _ _ _ _)
   | (with_reducible exact ih4 _ _ _ _ _)
   | (with_reducible exact ih5 _ _ _ _)
   | (with_reducible exact ih6 _ _ _)
   | (with_reducible exact ih7 _ _ _)
   | (with_reducible exact ih8 _ _ _)
   | (with_reducible exact vinculumref02_Make.mono _ _ _)
   | (with_reducible exact vinculumref02_divided.mono _ _ _)
   | (with_reducible exact LeO.refl _)
   | (with_reducible exact LeO.none _)
   | (with_reducible refine LeO.ite ?_ ?_)
   | (with_reducible refine LeO.bind ?_ (fun _ => ?_))
   | exact ih0 _ _ _
   | exact ih1 _ _ _
   | exact ih2 _ _ _
   | exact ih3 _ _ _ _ _ _
   | exact ih4 _ _ _ _ _
   | exact ih5 _ _ _ _
   | exact ih6 _ _ _
   | exact ih7 _ _ _
   | exact ih8 _ _ _
   | exact vinculumref02_Make.mono _ _ _
   | exact vinculumref02_divided.mono _ _ _
   | exact LeO.none _
   | refine LeO.ite ?_ ?_
   | refine LeO.bind ?_ (fun _ => ?_)
  ·intro y0 y1 y2 y3 y4
   unfold vinculumref02_reduced.l4
   repeat' first
   | (with_reducible exact ih0 _ _ _)
   | (with_reducible exact ih1 _ _ _)
   | (with_reducible exact ih2 _ _ _)
   | (with_reducible exact ih3 _ _ _ _ _ _)
   | (with_reducible exact ih4 _ _ _ _ _)
   | (with_reducible exact ih5 _ _ _ _)
   | (with_reducible exact ih6 _ _ _)
   | (with_reducible exact ih7 _ _ _)
   | (with_reducible exact ih8 _ _ _)
   | (with_reducible exact vinculumref02_Make.mono _ _ _)
   | (with_reducible exact vinculumref02_divided.mono _ _ _)
   | (with_reducible exact LeO.refl _)
   | (with_reducible exact LeO.none _)
   | (with_reducible refine LeO.ite ?_ ?_)
   | (with_reducible refine LeO.bind ?_ (fun _ => ?_))
   | exact ih0 _ _ _
   | exact ih1 _ _ _
   | exact ih2 _ _ _
   | exact ih3 _ _ _ _ _ _
   | exact ih4 _ _ _ _ _
   | exact ih5 _ _ _ _
   | exact ih6 _ _ _
   | exact ih7 _ _ _
   | exact ih8 _ _ _
   | exact vinculumref02_Make.mono _ _ _
   | exact vinculumref02_divided.mono _ _ _
   | exact LeO.none _
   | refine LeO.ite ?_ ?_
   | refine LeO.bind ?_ (fun _ => ?_)
  ·intro y0 y1 y2 y3
   unfold vinculumref02_reduced.l5
   repeat' first
   | (with_reducible exact ih0 _ _ _)
   | (with_reducible exact ih1 _ _ _)
   | (with_reducible exact ih2 _ _ _)
   | (with_reducible exact ih3 _ _ _ _ _ _)
   | (with_reducible exact ih4 _ _ _ _ _)
   | (with_reducible exact ih5 _ _ _ _)
   | (with_reducible exact ih6 _ _ _)
   | (with_reducible exact ih7 _ _ _)
   | (with_reducible exact ih8 _ _ _)
   | (with_reducible exact vinculumref02_Make.mono _ _ _)
   | (with_reducible exact vinculumref02_divided.mono _ _ _)
   | (with_reducible exact LeO.refl _)
   | (with_reducible exact LeO.none _)
   | (with_reducible refine LeO.ite ?_ ?_)
   | (with_reducible refine LeO.bind ?_ (fun _ => ?_))
   | exact ih0 _ _ _
   | exact ih1 _ _ _
   | exact ih2 _ _ _
   | exact ih3 _ _ _ _ _ _
   | exact ih4 _ _ _ _ _
   | exact ih5 _ _ _ _
   | exact ih6 _ _ _
   | exact ih7 _ _ _
   | exact ih8 _ _ _
   | exact vinculumref02_Make.mono _ _ _
   | exact vinculumref02_divided.mono _ _ _
   | exact LeO.none _
   | refine LeO.ite ?_ ?_
   | refine LeO.bind ?_ (fun _ => ?_)
  ·intro y0 y1 y2
   unfold vinculumref02_reduced.l2
   repeat' first
   | (with_reducible exact ih0 _ _ _)
   | (with_reducible exact ih1 _ _ _)
   | (with_reducible exact ih2 _ _ _)
   | (with_reducible exact ih3 _ _ _ _ _ _)
   | (with_reducible exact ih4 _ _ _ _ _)
   | (with_reducible exact ih5 _ _ _ _)
   | (with_reducible exact ih6 _ _ _)
   | (with_reducible exact ih7 _ _ _)
   | (with_reducible exact ih8 _ _ _)
   | (with_reducible exact vinculumref02_Make.mono _ _ _)
   | (with_reducible exact vinculumref02_divided.mono _ _ _)
   | (with_reducible exact LeO.refl _)
   | (with_reducible exact LeO.none _)
   | (with_reducible refine LeO.ite ?_ ?_)
   | (with_reducible refine LeO.bind ?_ (fun _ => ?_))
   | exact ih0 _ _ _
   | exact ih1 _ _ _
   | exact ih2 _ _ _
   | exact ih3 _ _ _ _ _ _
   | exact ih4 _ _ _ _ _
   | exact ih5 _ _ _ _
   | exact ih6 _ _ _
   | exact ih7 _ _ _
   | exact ih8 _ _ _
   | exact vinculumref02_Make.mono _ _ _
   | exact vinculumref02_divided.mono _ _ _
   | exact LeO.none _
   | refine LeO.ite ?_ ?_
   | refine LeO.bind ?_ (fun _ => ?_)
  ·intro y0 y1 y2
   unfold vinculumref02_reduced.l1
   repeat' first
   | (with_reducible exact ih0 _ _ _)
   | (with_reducible exact ih1 _ _ _)
   | (with_reducible exact ih2 _ _ _)
   | (with_reducible exact ih3 _ _ _ _ _ _)
   | (with_reducible exact ih4 _ _ _ _ _)
   | (with_reducible exact ih5 _ _ _ _)
   | (with_reducible exact ih6 _ _ _)
   | (with_reducible exact ih7 _ _ _)
   | (with_reducible exact ih8 _ _ _)
   | (with_reducible exact vinculumref02_Make.mono _ _ _)
   | (with_reducible exact vinculumref02_divided.mono _ _ _)
   | (with_reducible exact LeO.refl _)
   | (with_reducible exact LeO.none _)
   | (with_reducible refine LeO.ite ?_ ?_)
   | (with_reducible refine LeO.bind ?_ (fun _ => ?_))
   | exact ih0 _ _ _
   | exact ih1 _ _ _
   | exact ih2 _ _ _
   | exact ih3 _ _ _ _ _ _
   | exact ih4 _ _ _ _ _
   | exact ih5 _ _ _ _
   | exact ih6 _ _ _
   | exact ih7 _ _ _
   | exact ih8 _ _ _
   | exact vinculumref02_Make.mono _ _ _
   | exact vinculumref02_divided.mono _ _ _
   | exact LeO.none _
   | refine LeO.ite ?_ ?_
   | refine LeO.bind ?_ (fun _ => ?_)
  ·intro y0 y1 y2
   unfold vinculumref02_reduced.l0
   repeat' first
   | (with_reducible exact ih0 _ _ _)
   | (with_reducible exact ih1 _ _ _)
   | (with_reducible exact ih2 _ _ _)
   | (with_reducible exact ih3 _ _ _ _ _ _)
   | (with_reducible exact ih4 _ _ _ _ _)
   | (with_reducible exact ih5 _ _ _ _)
   | (with_reducible exact ih6 _ _ _)
   | (with_reducible exact ih7 _ _ _)
   | (with_reducible exact ih8 _ _ _)
   | (with_reducible exact vinculumref02_Make.mono _ _ _)
   | (with_reducible exact vinculumref02_divided.mono _ _ _)
   | (with_reducible exact LeO.refl _)
   | (with_reducible exact LeO.none _)
   | (with_reducible refine LeO.ite ?_ ?_)
   | (with_reducible refine LeO.bind ?_ (fun _ => ?_))
   | exact ih0 _ _ _
   | exact ih1 _ _ _
   | exact ih2 _ _ _
   | exact ih3 _ _ _ _ _ _
   | exact ih4 _ _ _ _ _
   | exact ih5 _ _ _ _
   | exact ih6 _ _ _
   | exact ih7 _ _ _
   | exact ih8 _ _ _
   | exact vinculumref02_Make.mono _ _ _
   | exact vinculumref02_divided.mono _ _ _
   | exact LeO.none _
   | refine LeO.ite ?_ ?_
   | refine LeO.bind ?_ (fun _ => ?_)
theorem vinculumref02_reduced.mono : ∀ a0 a1 k, LeO (vinculumref02_reduced.f k a0 a1) (vinculumref02_reduced.f (k + 1) a0 a1) := by
 intro a0 a1 k
 obtain ⟨ih0, ih1, ih2, ih3, ih4, ih5, ih6, ih7, ih8⟩ := vinculumref02_reduced.mono_l k
 unfold vinculumref02_reduced.f
 repeat' first
   | (with_reducible exact ih0 _ _ _)
   | (with_reducible exact ih1 _ _ _)
   | (with_reducible exact ih2 _ _ _)
   | (with_reducible exact ih3 _ _ _ _ _ _)
   | (with_reducible exact ih4 _ _ _ _ _)
   | (with_reducible exact ih5 _ _ _ _)
   | (with_reducible exact ih6 _ _ _)
   | (with_reducible exact ih7 _ _ _)
   | (with_reducible exact ih8 _ _ _)
   | (with_reducible exact vinculumref02_Make.mono _ _ _)
   | (with_reducible exact vinculumref02_divided.mono _ _ _)
   | (with_reducible exact LeO.refl _)
   | (with_reducible exact LeO.none _)
   | (with_reducible refine LeO.ite ?_ ?_)
   | (with_reducible refine LeO.bind ?_ (fun _ => ?_))
   | exact ih0 _ _ _
   | exact ih1 _ _ _
   | exact ih2 _ _ _
   | exact ih3 _ _ _ _ _ _
   | exact ih4 _ _ _ _ _
   | exact ih5 _ _ _ _
   | exact ih6 _ _ _
   | exact ih7 _ _ _
   | exact ih8 _ _ _
   | exact vinculumref02_Make.mono _ _ _
   | exact vinculumref02_divided.mono _ _ _
   | exact LeO.none _
   | refine LeO.ite ?_ ?_
   | refine LeO.bind ?_ (fun _ => ?_)
set_option maxHeartbeats 8000000 in
set_option maxRecDepth 100000 in
theorem vinculumref02_reduced.calls (k : Nat) (a0 : ByteArray) (a1 : Int) (r1 : Int) (r2 : Int) (r3 : Int) (w : World) (h : vinculumref02_reduced.f k a0 a1 = some (r1, r2, r3)) :
  Calls Tryd.prog 58 #[.string a0, .int .i64 a1] w fun e w' => e = .returned (.tuple #[.agg #[.int .i64 r1, .int .i64 r2], .int .i64 r3]) ∧ Below w.heap.size w w' := by
 have hu28 := Tryd.underlying28
 have HB := zaa.mk (Below.refl w.heap.size w)
 have H : (if a0.size ≤ 9223372036854775807 then (vinculumref02_reduced.l0 k a1 a1 (zax a0)) else (none)) = some (r1, r2, r3) := h
 clear h
 by_cases c3 : a0.size ≤ 9223372036854775807
 ·rw [if_pos c3] at H
  have c3b0 := eq_true c3
  have c3b1 : decide (a0.size ≤ 9223372036854775807) = true := decide_eq_true c3
  try have c3b2 : (9223372036854775807 < a0.size) = False := eq_false (Nat.not_lt.2 c3)
  clear c3
  obtain ⟨y494, hy494⟩ : ∃ y_ : List Int, y_ = (zax a0) := ⟨_, rfl⟩
  replace H : (vinculumref02_reduced.l0 k a1 a1 y494) = some (r1, r2, r3) := by first | (rw [hy494]; with_reducible exact H) | (have H2_ := (Option.bind_some _ _).symm.trans H; rw [hy494]; with_reducible exact H2_) | (have H2_ := (Option.bind_some _ _).symm.trans H; with_reducible exact H2_) | with_reducible exact H | (rw [hy494]; exact H) | exact H
  have Ny494 := zaa.mk hy494
  clear hy494
  have HC4 := zaa.mk H
  clear H
  go_enter Tryd.func58, Tryd.ntmps58
  go_upto_block 0 with (first | ((with_reducible refine zaq (N := 4) rfl ?_); (try (refine gate_guard (by rfl) ?_; dsimp only)); refine zar ?hg (N := 4) ?hd (cs := #[.int .i64 0, .int .i64 0]) (t := 28) ?hr ?_; (case hd => rfl); (case hg => rfl); (case hr => first | (go_simp; done) | (go_simp; rfl)); intro gb493 hg w5 hbox hb; have n0_ := zaa.mk (zao (by repeat (first | (with_reducible first | exact HB.o | apply zaf | apply zah | apply zag) | exact HB.o)) hb); have n1_ := zaa.mk (hbox); have n2_ := zaa.mk ((by rw [hg]; exact (zan (by repeat (first | (with_reducible first | exact HB.o | apply zaf | apply zah | apply zag) | exact HB.o))) : w.heap.size ≤ gb493)); have n3_ := zaa.mk ((by rw [hg]; exact (zan (by repeat (first | (with_reducible first | exact HB.o | apply zaf | apply zah | apply zag) | exact HB.o))) : w.heap.size ≤ gb493)); clear HB; have HB := n0_; have BK493 := n1_; have GW493 := n2_; have GE493 := n3_; clear n0_ n1_ n2_ n3_; clear hb hbox hg) | ((with_reducible refine zaq (N := 17) rfl ?_); (try (refine gate_guard (by rfl) ?_; dsimp only)); refine v_bytes _ 5 rfl (N := 17) rfl 9 76 _ rfl a0 ?hx Tryd.underlying9 Tryd.underlying76 Tryd.underlying5 (ok := fun k_ => w5.heap.size ≤ k_) (Nat.le_refl _) (of_decide_eq_true (by first | (with_reducible assumption) | assumption)) (Below.refl _ _) (Nat.le_refl _) ?_; (case hx => first | rfl | (go_simp; done) | (go_simp; rfl)); intro v495 w6 ho7 hb hg_ hnew_; clear hg_ hnew_; (first | rw [← Ny494.out] at ho7 | (simp only [Int.reduceToNat] at ho7; rw [← Ny494.out] at ho7)); have n0_ := zaa.mk (Kd.V_lower (Kd.V_mono (ok' := fun k_ => k_ ≠ gb493) ho7 (fun k_ hk_ => (Kd.freshB (g := gb493) (o := .cells #[.int .i64 0, .int .i64 0] 28 (0, 0)) (by (with_reducible repeat (first | refine zad ?_ _ | refine zab ?_ | refine zac ?_ _)); exact BK493.o) k_ hk_))) (zan (by repeat (first | (with_reducible first | exact HB.o | apply zaf | apply zah | apply zag | refine zae ?_ GE493.o) | exact HB.o)))); have n1_ := zaa.mk (zaj (by (with_reducible repeat (first | refine zad ?_ _ | refine zab ?_ | refine zac ?_ _)); exact BK493.o) hb); have n2_ := zaa.mk (zao (by repeat (first | (with_reducible first | exact HB.o | apply zaf | apply zah | apply zag | refine zae ?_ GE493.o) | exact HB.o)) hb); clear BK493; clear HB; have HO496 := n0_; have BK493 := n1_; have HB := n2_; clear n0_ n1_ n2_; clear hb ho7))
  (try simp only [Act.put, List.setIfInBounds_toArray, List.set_cons_zero, List.set_cons_succ])
  go_cut [6, 8] (fun v6 v8 wc => ∃ (kq : Nat) (x6_3 : Int) (x8_3 : List Int), v6 = .int .i64 x6_3 ∧ zaa (vinculumref02_reduced.j1 kq x6_3 a1 x8_3 = some (r1, r2, r3)) ∧ zaa (kq ≤ k) ∧ zaa (Kd.V (Kd.int .u8) 5 wc w.heap.size (fun k_ => k_ ≠ gb493) v8 x8_3) ∧ zaa (wc.heap[gb493]? = some (.cells #[.int .i64 0, .int .i64 0] 28 (0, 0))) ∧ zaa (Below w.heap.size w wc))
  case first =>
   have H := HC4.out
   clear HC4
   have H' := zaa.mk H
   clear H
   go_wp2
   go_loopg [6, 8] k (fun kq v6 v8 w' => ∃ (x6_1 : Int) (x8_1 : List Int), v6 = .int .i64 x6_1 ∧ zaa (vinculumref02_reduced.l0 kq x6_1 a1 x8_1 = some (r1, r2, r3)) ∧ zaa (kq ≤ k) ∧ zaa (Kd.V (Kd.int .u8) 5 w' w.heap.size (fun k_ => k_ ≠ gb493) v8 x8_1) ∧ zaa (w'.heap[gb493]? = some (.cells #[.int .i64 0, .int .i64 0] 28 (0, 0))) ∧ zaa (Below w.heap.size w w'))
   case atStart => exact ⟨(a1), (y494), (by first | rfl | (simp; done) | (simp [*]; done)), H', ⟨Nat.le_refl _⟩, ⟨by (with_reducible repeat (first | apply Kd.V_alloc | apply Kd.V_drewN | apply Kd.V_drew)); exact HO496.o⟩, ⟨by (with_reducible repeat (first | refine zad ?_ _ | refine zab ?_ | refine zac ?_ _)); exact BK493.o⟩, ⟨by repeat (first | (with_reducible first | exact HB.o | apply zaf | apply zah | apply zag | refine zae ?_ GE493.o) | exact HB.o)⟩⟩
   case round =>
    clear H'
    try clear p2
    try clear c3
    try clear c3b0
    try clear c3b1
    try clear c3b2
    try clear c5
    obtain ⟨x6_1, x8_1, rfl, HA, HK1, HO_8, BK493, HB⟩ := hrel
    cases gk with
    | zero => exact absurd HA.o (by simp [vinculumref02_reduced.l0])
    | succ k1 =>
     have H := HA.o
     clear HA
     simp only [vinculumref02_reduced.l0] at H
     by_cases c8 : x6_1 > 0
     ·rw [if_pos c8] at H
      have c8b0 : decide (0 < x6_1) = true := decide_eq_true c8
      clear c8
      (first | rw [c8b0] | (simp only [i64_w, i32_w]; rw [c8b0]) | skip)
      obtain ⟨ji9, hji9⟩ : ∃ j_ : Int, (wrap64 ((x8_1.length : Int) - 1)) = j_ := ⟨_, rfl⟩
      replace H : (if 0 ≤ (ji9) then (if (ji9) < (x8_1.length : Int) then (if ((((rd x8_1 (ji9)) - 48) % 256) % 2) = 0 then ((vinculumref02_divided.f k1 x8_1 2).bind fun t498 => (vinculumref02_reduced.l0 k1 (wrap64 (x6_1 - 1)) a1 t498)) else (vinculumref02_reduced.j1 k1 x6_1 a1 x8_1)) else (none)) else (none)) = some (r1, r2, r3) := by first | (rw [hji9] at H; exact H) | (simp only [hji9] at H ⊢; exact H)
      have hji9w : (IntKind.i64.wrap ((x8_1.length : Int) - 1)) = ji9 := (i64_w _).trans hji9
      by_cases c10 : 0 ≤ (ji9)
      ·rw [if_pos c10] at H
       have c10b0 : decide (0 ≤ (ji9)) = true := decide_eq_true c10
       clear c10
       by_cases c11 : (ji9) < (x8_1.length : Int)
       ·rw [if_pos c11] at H
        have c11b0 : decide ((ji9) < (x8_1.length : Int)) = true := decide_eq_true c11
        clear c11
        by_cases c12 : ((((rd x8_1 (ji9)) - 48) % 256) % 2) = 0
        ·rw [if_pos c12] at H
         have c12b0 : (((((rd x8_1 (ji9)) - 48) % 256) % 2) == 0) = true := beq_iff_eq.mpr c12
         have c12b1 : (((((rd x8_1 (ji9)) - 48) % 256) % 2) != 0) = false := bne_eq_false_iff_eq.mpr c12
         clear c12
         replace H := Option.bind_eq_some_iff.mp H
         obtain ⟨t498, A130, H⟩ := H
         replace H : (vinculumref02_reduced.l0 k1 (wrap64 (x6_1 - 1)) a1 t498) = some (r1, r2, r3) := H
         have A13 := zaa.mk A130
         clear A130
         have H' := zaa.mk H
         clear H
         obtain ⟨Ao14, co14, eo14⟩ := Kd.V_slice HO_8.o
         subst eo14
         have p497 : 0 ≤ ((ji9) : Int) := of_decide_eq_true (by first | (with_reducible assumption) | assumption)
         have q497 : (ji9) < (x8_1.length : Int) := of_decide_eq_true (by first | (with_reducible assumption) | assumption)
         obtain ⟨ad497, e497, hx497_0⟩ := Kd.at_int (Kd.V_reads' HO_8.o).2.2 (ji9) p497 q497
         cases e497
         replace p497 := eq_true p497
         replace q497 := eq_true q497
         go_wp2_with (first | ((with_reducible refine zas (f := 65) rfl ?_); refine zat (some 32) rfl rfl Tryd.func65 (by kernel_rfl) rfl #[.slice (some ad497) x8_1.length co14, .int .i64 2] rfl (by (try simp only [List.map_toArray, List.map_cons, List.map_nil]); first | done | rfl | (simp only [List.length_drop, List.length_take]; rfl)) ?_; (with_reducible refine (vinculumref02_divided.calls k1 _ _ x8_1 2 t498 _ ?side1 ?side2 A13.o).mono ?_); (case side1 => repeat (first | exact (Kd.V_reads' HO_8.o).2.2 | (with_reducible first | refine Kd.C_alloc ?_ _ | refine Kd.C_drewN ?_ _ | refine Kd.C_drew ?_))); (case side2 => exact (Kd.V_reads' HO_8.o).2.1); rintro e w15 ⟨v499, rfl, ho0, hb⟩; refine ⟨_, rfl, ?_⟩; have n0_ := zaa.mk (Kd.V_elder' (by (with_reducible repeat (first | apply Kd.V_alloc | apply Kd.V_drewN | apply Kd.V_drew)); exact HO_8.o) (Kd.R_base ho0) hb); have n1_ := zaa.mk (Kd.R_lower ho0 (zan (by repeat (first | (with_reducible first | exact HB.o | apply zaf | apply zah | apply zag | refine zae ?_ GE493.o) | exact HB.o)))); have n2_ := zaa.mk (zaj (by (with_reducible repeat (first | refine zad ?_ _ | refine zab ?_ | refine zac ?_ _)); exact BK493.o) hb); have n3_ := zaa.mk (zao (by repeat (first | (with_reducible first | exact HB.o | apply zaf | apply zah | apply zag | refine zae ?_ GE493.o) | exact HB.o)) hb); clear HO_8; clear BK493; clear HB; have HO_8 := n0_; have HO500 := n1_; have BK493 := n2_; have HB := n3_; clear n0_ n1_ n2_ n3_; (try clear hb); (try clear hb2); (try clear hk); (try clear hi); (try clear ho0)))
         go_roundg k1
         case measure => have := HK1.o; omega
         case rel => exact ⟨(wrap64 (x6_1 - 1)), (t498), (by first | rfl | (simp; done) | (simp [*]; done)), H', ⟨by have := HK1.o; omega⟩, ⟨Kd.R_V (by (with_reducible repeat (first | apply Kd.R_alloc | apply Kd.R_drewN | apply Kd.R_drew)); exact Kd.R_mono (Kd.R_types HO500.o BK493.o (by decide)) (fun _ hk => hk.2))⟩, ⟨by (with_reducible repeat (first | refine zad ?_ _ | refine zab ?_ | refine zac ?_ _)); exact BK493.o⟩, ⟨by repeat (first | (with_reducible first | exact HB.o | apply zaf | apply zah | apply zag | refine zae ?_ GE493.o) | exact HB.o)⟩⟩
        ·rw [if_neg c12] at H
         have c12b0 : (((((rd x8_1 (ji9)) - 48) % 256) % 2) == 0) = false := beq_eq_false_iff_ne.mpr c12
         have c12b1 : (((((rd x8_1 (ji9)) - 48) % 256) % 2) != 0) = true := bne_iff_ne.mpr c12
         have H' := zaa.mk H
         clear H
         obtain ⟨Ao16, co16, eo16⟩ := Kd.V_slice HO_8.o
         subst eo16
         have p497 : 0 ≤ ((ji9) : Int) := of_decide_eq_true (by first | (with_reducible assumption) | assumption)
         have q497 : (ji9) < (x8_1.length : Int) := of_decide_eq_true (by first | (with_reducible assumption) | assumption)
         obtain ⟨ad497, e497, hx497_0⟩ := Kd.at_int (Kd.V_reads' HO_8.o).2.2 (ji9) p497 q497
         cases e497
         replace p497 := eq_true p497
         replace q497 := eq_true q497
         go_wp2
         go_meet
         case rel => exact ⟨_, (x6_1), (x8_1), (by first | rfl | (simp; done) | (simp [*]; done)), H', ⟨by have := HK1.o; first | omega | exact Nat.le_refl _⟩, ⟨by (with_reducible repeat (first | apply Kd.V_alloc | apply Kd.V_drewN | apply Kd.V_drew)); exact HO_8.o⟩, ⟨by (with_reducible repeat (first | refine zad ?_ _ | refine zab ?_ | refine zac ?_ _)); exact BK493.o⟩, ⟨by repeat (first | (with_reducible first | exact HB.o | apply zaf | apply zah | apply zag | refine zae ?_ GE493.o) | exact HB.o)⟩⟩
       ·rw [if_neg c11] at H
        exact absurd H (by simp)
      ·rw [if_neg c10] at H
       exact absurd H (by simp)
     ·rw [if_neg c8] at H
      have c8b0 : decide (0 < x6_1) = false := decide_eq_false c8
      clear c8
      (first | rw [c8b0] | (simp only [i64_w, i32_w]; rw [c8b0]) | skip)
      have H' := zaa.mk H
      clear H
      go_wp2
      go_meet
      case rel => exact ⟨_, (x6_1), (x8_1), (by first | rfl | (simp; done) | (simp [*]; done)), H', ⟨by have := HK1.o; first | omega | exact Nat.le_refl _⟩, ⟨by (with_reducible repeat (first | apply Kd.V_alloc | apply Kd.V_drewN | apply Kd.V_drew)); exact HO_8.o⟩, ⟨by (with_reducible repeat (first | refine zad ?_ _ | refine zab ?_ | refine zac ?_ _)); exact BK493.o⟩, ⟨by repeat (first | (with_reducible first | exact HB.o | apply zaf | apply zah | apply zag | refine zae ?_ GE493.o) | exact HB.o)⟩⟩
  case rest =>
   clear HC4
   try clear c1
   try clear p2
   try clear c3
   try clear c3b0
   try clear c3b1
   try clear c3b2
   try clear p4
   try clear q4
   try clear hx4
   try clear c5
   try clear c6
   try clear p6
   try clear c8
   try clear c8b0
   try clear c10
   try clear c10b0
   try clear c11
   try clear c11b0
   try clear c12
   try clear c12b0
   try clear c12b1
   try clear hx497_0
   try clear p2
   try clear p497
   try clear q497
   obtain ⟨kq, x6_3, x8_3, rfl, HA, HJ3, HO_8, BK493, HB⟩ := hcut
   cases kq with
   | zero => exact absurd HA.o (by simp [vinculumref02_reduced.j1])
   | succ kj3 =>
    have H := HA.o
    clear HA
    simp only [vinculumref02_reduced.j1] at H
    have HC17 := zaa.mk H
    clear H
    go_upto_block 2 with (fail)
    go_cut [7, 8] (fun v7 v8 wc => ∃ (kq : Nat) (x7_16 : Int) (x8_16 : List Int), v7 = .int .i64 x7_16 ∧ zaa (vinculumref02_reduced.j3 kq x6_3 x7_16 x8_16 = some (r1, r2, r3)) ∧ zaa (kq ≤ kj3) ∧ zaa (Kd.V (Kd.int .u8) 5 wc w.heap.size (fun k_ => k_ ≠ gb493) v8 x8_16) ∧ zaa (wc.heap[gb493]? = some (.cells #[.int .i64 0, .int .i64 0] 28 (0, 0))) ∧ zaa (Below w.heap.size w wc))
    case first =>
     have H := HC17.out
     clear HC17
     have H' := zaa.mk H
     clear H
     go_wp2
     go_loopg [7, 8] kj3 (fun kq v7 v8 w' => ∃ (x7_2 : Int) (x8_2 : List Int), v7 = .int .i64 x7_2 ∧ zaa (vinculumref02_reduced.l1 kq x6_3 x7_2 x8_2 = some (r1, r2, r3)) ∧ zaa (kq ≤ kj3) ∧ zaa (Kd.V (Kd.int .u8) 5 w' w.heap.size (fun k_ => k_ ≠ gb493) v8 x8_2) ∧ zaa (w'.heap[gb493]? = some (.cells #[.int .i64 0, .int .i64 0] 28 (0, 0))) ∧ zaa (Below w.heap.size w w'))
     case atStart => exact ⟨(a1), (x8_3), (by first | rfl | (simp; done) | (simp [*]; done)), H', ⟨Nat.le_refl _⟩, ⟨by (with_reducible repeat (first | apply Kd.V_alloc | apply Kd.V_drewN | apply Kd.V_drew)); exact HO_8.o⟩, ⟨by (with_reducible repeat (first | refine zad ?_ _ | refine zab ?_ | refine zac ?_ _)); exact BK493.o⟩, ⟨by repeat (first | (with_reducible first | exact HB.o | apply zaf | apply zah | apply zag | refine zae ?_ GE493.o) | exact HB.o)⟩⟩
     case round =>
      clear H'
      try clear c1
      try clear p2
      try clear c3
      try clear c3b0
      try clear c3b1
      try clear c3b2
      try clear p4
      try clear q4
      try clear hx4
      try clear c5
      try clear c6
      try clear p6
      try clear c8
      try clear c8b0
      try clear c10
      try clear c10b0
      try clear c11
      try clear c11b0
      try clear c12
      try clear c12b0
      try clear c12b1
      try clear hx497_0
      try clear p2
      try clear p4
      try clear p497
      try clear p6
      try clear q4
      try clear q497
      obtain ⟨x7_2, x8_2, rfl, HA, HK2, HO_8, BK493, HB⟩ := hrel
      cases gk with
      | zero => exact absurd HA.o (by simp [vinculumref02_reduced.l1])
      | succ k2 =>
       have H := HA.o
       clear HA
       simp only [vinculumref02_reduced.l1] at H
       by_cases c18 : x7_2 > 0
       ·rw [if_pos c18] at H
        have c18b0 : decide (0 < x7_2) = true := decide_eq_true c18
        clear c18
        (first | rw [c18b0] | (simp only [i64_w, i32_w]; rw [c18b0]) | skip)
        obtain ⟨ji19, hji19⟩ : ∃ j_ : Int, (wrap64 ((x8_2.length : Int) - 1)) = j_ := ⟨_, rfl⟩
        replace H : (if 0 ≤ (ji19) then (if (ji19) < (x8_2.length : Int) then (if ((((rd x8_2 (ji19)) - 48) % 256) % 5) = 0 then ((vinculumref02_divided.f k2 x8_2 5).bind fun t502 => (vinculumref02_reduced.l1 k2 x6_3 (wrap64 (x7_2 - 1)) t502)) else (vinculumref02_reduced.j3 k2 x6_3 x7_2 x8_2)) else (none)) else (none)) = some (r1, r2, r3) := by first | (rw [hji19] at H; exact H) | (simp only [hji19] at H ⊢; exact H)
        have hji19w : (IntKind.i64.wrap ((x8_2.length : Int) - 1)) = ji19 := (i64_w _).trans hji19
        by_cases c20 : 0 ≤ (ji19)
        ·rw [if_pos c20] at H
         have c20b0 : decide (0 ≤ (ji19)) = true := decide_eq_true c20
         clear c20
         by_cases c21 : (ji19) < (x8_2.length : Int)
         ·rw [if_pos c21] at H
          have c21b0 : decide ((ji19) < (x8_2.length : Int)) = true := decide_eq_true c21
          clear c21
          by_cases c22 : ((((rd x8_2 (ji19)) - 48) % 256) % 5) = 0
          ·rw [if_pos c22] at H
           have c22b0 : (((((rd x8_2 (ji19)) - 48) % 256) % 5) == 0) = true := beq_iff_eq.mpr c22
           have c22b1 : (((((rd x8_2 (ji19)) - 48) % 256) % 5) != 0) = false := bne_eq_false_iff_eq.mpr c22
           clear c22
           replace H := Option.bind_eq_some_iff.mp H
           obtain ⟨t502, A230, H⟩ := H
           replace H : (vinculumref02_reduced.l1 k2 x6_3 (wrap64 (x7_2 - 1)) t502) = some (r1, r2, r3) := H
           have A23 := zaa.mk A230
           clear A230
           have H' := zaa.mk H
           clear H
           obtain ⟨Ao24, co24, eo24⟩ := Kd.V_slice HO_8.o
           subst eo24
           have p501 : 0 ≤ ((ji19) : Int) := of_decide_eq_true (by first | (with_reducible assumption) | assumption)
           have q501 : (ji19) < (x8_2.length : Int) := of_decide_eq_true (by first | (with_reducible assumption) | assumption)
           obtain ⟨ad501, e501, hx501_0⟩ := Kd.at_int (Kd.V_reads' HO_8.o).2.2 (ji19) p501 q501
           cases e501
           replace p501 := eq_true p501
           replace q501 := eq_true q501
           go_wp2_with (first | ((with_reducible refine zas (f := 65) rfl ?_); refine zat (some 49) rfl rfl Tryd.func65 (by kernel_rfl) rfl #[.slice (some ad501) x8_2.length co24, .int .i64 5] rfl (by (try simp only [List.map_toArray, List.map_cons, List.map_nil]); first | done | rfl | (simp only [List.length_drop, List.length_take]; rfl)) ?_; (with_reducible refine (vinculumref02_divided.calls k2 _ _ x8_2 5 t502 _ ?side1 ?side2 A23.o).mono ?_); (case side1 => repeat (first | exact (Kd.V_reads' HO_8.o).2.2 | (with_reducible first | refine Kd.C_alloc ?_ _ | refine Kd.C_drewN ?_ _ | refine Kd.C_drew ?_))); (case side2 => exact (Kd.V_reads' HO_8.o).2.1); rintro e w25 ⟨v503, rfl, ho0, hb⟩; refine ⟨_, rfl, ?_⟩; have n0_ := zaa.mk (Kd.V_elder' (by (with_reducible repeat (first | apply Kd.V_alloc | apply Kd.V_drewN | apply Kd.V_drew)); exact HO_8.o) (Kd.R_base ho0) hb); have n1_ := zaa.mk (Kd.R_lower ho0 (zan (by repeat (first | (with_reducible first | exact HB.o | apply zaf | apply zah | apply zag | refine zae ?_ GE493.o) | exact HB.o)))); have n2_ := zaa.mk (zaj (by (with_reducible repeat (first | refine zad ?_ _ | refine zab ?_ | refine zac ?_ _)); exact BK493.o) hb); have n3_ := zaa.mk (zao (by repeat (first | (with_reducible first | exact HB.o | apply zaf | apply zah | apply zag | refine zae ?_ GE493.o) | exact HB.o)) hb); clear HO_8; clear BK493; clear HB; have HO_8 := n0_; have HO504 := n1_; have BK493 := n2_; have HB := n3_; clear n0_ n1_ n2_ n3_; (try clear hb); (try clear hb2); (try clear hk); (try clear hi); (try clear ho0)))
           go_roundg k2
           case measure => have := HJ3.out; have := HK2.o; omega
           case rel => exact ⟨(wrap64 (x7_2 - 1)), (t502), (by first | rfl | (simp; done) | (simp [*]; done)), H', ⟨by have := HJ3.out; have := HK2.o; omega⟩, ⟨Kd.R_V (by (with_reducible repeat (first | apply Kd.R_alloc | apply Kd.R_drewN | apply Kd.R_drew)); exact Kd.R_mono (Kd.R_types HO504.o BK493.o (by decide)) (fun _ hk => hk.2))⟩, ⟨by (with_reducible repeat (first | refine zad ?_ _ | refine zab ?_ | refine zac ?_ _)); exact BK493.o⟩, ⟨by repeat (first | (with_reducible first | exact HB.o | apply zaf | apply zah | apply zag | refine zae ?_ GE493.o) | exact HB.o)⟩⟩
          ·rw [if_neg c22] at H
           have c22b0 : (((((rd x8_2 (ji19)) - 48) % 256) % 5) == 0) = false := beq_eq_false_iff_ne.mpr c22
           have c22b1 : (((((rd x8_2 (ji19)) - 48) % 256) % 5) != 0) = true := bne_iff_ne.mpr c22
           have H' := zaa.mk H
           clear H
           obtain ⟨Ao26, co26, eo26⟩ := Kd.V_slice HO_8.o
           subst eo26
           have p501 : 0 ≤ ((ji19) : Int) := of_decide_eq_true (by first | (with_reducible assumption) | assumption)
           have q501 : (ji19) < (x8_2.length : Int) := of_decide_eq_true (by first | (with_reducible assumption) | assumption)
           obtain ⟨ad501, e501, hx501_0⟩ := Kd.at_int (Kd.V_reads' HO_8.o).2.2 (ji19) p501 q501
           cases e501
           replace p501 := eq_true p501
           replace q501 := eq_true q501
           go_wp2
           go_meet
           case rel => exact ⟨_, (x7_2), (x8_2), (by first | rfl | (simp; done) | (simp [*]; done)), H', ⟨by have := HJ3.out; have := HK2.o; first | omega | exact Nat.le_refl _⟩, ⟨by (with_reducible repeat (first | apply Kd.V_alloc | apply Kd.V_drewN | apply Kd.V_drew)); exact HO_8.o⟩, ⟨by (with_reducible repeat (first | refine zad ?_ _ | refine zab ?_ | refine zac ?_ _)); exact BK493.o⟩, ⟨by repeat (first | (with_reducible first | exact HB.o | apply zaf | apply zah | apply zag | refine zae ?_ GE493.o) | exact HB.o)⟩⟩
         ·rw [if_neg c21] at H
          exact absurd H (by simp)
        ·rw [if_neg c20] at H
         exact absurd H (by simp)
       ·rw [if_neg c18] at H
        have c18b0 : decide (0 < x7_2) = false := decide_eq_false c18
        clear c18
        (first | rw [c18b0] | (simp only [i64_w, i32_w]; rw [c18b0]) | skip)
        have H' := zaa.mk H
        clear H
        go_wp2
        go_meet
        case rel => exact ⟨_, (x7_2), (x8_2), (by first | rfl | (simp; done) | (simp [*]; done)), H', ⟨by have := HJ3.out; have := HK2.o; first | omega | exact Nat.le_refl _⟩, ⟨by (with_reducible repeat (first | apply Kd.V_alloc | apply Kd.V_drewN | apply Kd.V_drew)); exact HO_8.o⟩, ⟨by (with_reducible repeat (first | refine zad ?_ _ | refine zab ?_ | refine zac ?_ _)); exact BK493.o⟩, ⟨by repeat (first | (with_reducible first | exact HB.o | apply zaf | apply zah | apply zag | refine zae ?_ GE493.o) | exact HB.o)⟩⟩
    case rest =>
     clear HC17
     try clear c1
     try clear c2
     try clear p2
     try clear c3
     try clear c3b0
     try clear c3b1
     try clear c3b2
     try clear p4
     try clear q4
     try clear hx4
     try clear c5
     try clear p5
     try clear q5
     try clear hx5
     try clear c6
     try clear p6
     try clear c8
     try clear c8b0
     try clear c10
     try clear c10b0
     try clear c11
     try clear c11b0
     try clear c12
     try clear c12b0
     try clear c12b1
     try clear c18
     try clear c18b0
     try clear c20
     try clear c20b0
     try clear c21
     try clear c21b0
     try clear c22
     try clear c22b0
     try clear c22b1
     try clear hx497_0
     try clear hx501_0
     try clear p2
     try clear p4
     try clear p497
     try clear p501
     try clear p6
     try clear q4
     try clear q497
     try clear q501
     obtain ⟨kq, x7_16, x8_16, rfl, HA, HJ16, HO_8, BK493, HB⟩ := hcut
     cases kq with
     | zero => exact absurd HA.o (by simp [vinculumref02_reduced.j3])
     | succ kj16 =>
      have H := HA.o
      clear HA
      simp only [vinculumref02_reduced.j3] at H
      have HC27 := zaa.mk H
      clear H
      go_upto_block 4 with (fail)
      go_cut [8] (fun v8 wc => ∃ (kq : Nat) (x8_26 : List Int), zaa (vinculumref02_reduced.j5 kq x6_3 x7_16 x8_26 = some (r1, r2, r3)) ∧ zaa (kq ≤ kj16) ∧ zaa (Kd.V (Kd.int .u8) 5 wc w.heap.size (fun k_ => k_ ≠ gb493) v8 x8_26) ∧ zaa (wc.heap[gb493]? = some (.cells #[.int .i64 0, .int .i64 0] 28 (0, 0))) ∧ zaa (Below w.heap.size w wc))
      case first =>
       have H := HC27.out
       clear HC27
       have H' := zaa.mk H
       clear H
       go_wp2
       go_loopg [8] kj16 (fun kq v8 w' => ∃ (x8_3 : List Int), zaa (vinculumref02_reduced.l2 kq x6_3 x7_16 x8_3 = some (r1, r2, r3)) ∧ zaa (kq ≤ kj16) ∧ zaa (Kd.V (Kd.int .u8) 5 w' w.heap.size (fun k_ => k_ ≠ gb493) v8 x8_3) ∧ zaa (w'.heap[gb493]? = some (.cells #[.int .i64 0, .int .i64 0] 28 (0, 0))) ∧ zaa (Below w.heap.size w w'))
       case atStart => exact ⟨(x8_16), H', ⟨Nat.le_refl _⟩, ⟨by (with_reducible repeat (first | apply Kd.V_alloc | apply Kd.V_drewN | apply Kd.V_drew)); exact HO_8.o⟩, ⟨by (with_reducible repeat (first | refine zad ?_ _ | refine zab ?_ | refine zac ?_ _)); exact BK493.o⟩, ⟨by repeat (first | (with_reducible first | exact HB.o | apply zaf | apply zah | apply zag | refine zae ?_ GE493.o) | exact HB.o)⟩⟩
       case round =>
        clear H'
        try clear c1
        try clear c2
        try clear p2
        try clear c3
        try clear c3b0
        try clear c3b1
        try clear c3b2
        try clear p4
        try clear q4
        try clear hx4
        try clear c5
        try clear p5
        try clear q5
        try clear hx5
        try clear c6
        try clear p6
        try clear c8
        try clear c8b0
        try clear c10
        try clear c10b0
        try clear c11
        try clear c11b0
        try clear c12
        try clear c12b0
        try clear c12b1
        try clear c18
        try clear c18b0
        try clear c20
        try clear c20b0
        try clear c21
        try clear c21b0
        try clear c22
        try clear c22b0
        try clear c22b1
        try clear hx497_0
        try clear hx501_0
        try clear p2
        try clear p4
        try clear p497
        try clear p5
        try clear p501
        try clear p6
        try clear q4
        try clear q497
        try clear q5
        try clear q501
        obtain ⟨x8_3, HA, HK3, HO_8, BK493, HB⟩ := hrel
        cases gk with
        | zero => exact absurd HA.o (by simp [vinculumref02_reduced.l2])
        | succ k3 =>
         have H := HA.o
         clear HA
         simp only [vinculumref02_reduced.l2] at H
         by_cases c28 : (x8_3.length : Int) > 1
         ·rw [if_pos c28] at H
          have c28b0 : decide (1 < (x8_3.length : Int)) = true := decide_eq_true c28
          have c28b1 : decide (1 < x8_3.length) = true := decide_eq_true (by omega)
          clear c28
          (first | rw [c28b0] | (simp only [i64_w, i32_w]; rw [c28b0]) | skip)
          by_cases c29 : 0 < (x8_3.length : Int)
          ·rw [if_pos c29] at H
           have c29b0 : decide (0 < (x8_3.length : Int)) = true := decide_eq_true c29
           have c29b1 : decide (0 < x8_3.length) = true := decide_eq_true (by omega)
           clear c29
           by_cases c30 : (rd x8_3 0) = 48
           ·rw [if_pos c30] at H
            have c30b0 : ((rd x8_3 0) == 48) = true := beq_iff_eq.mpr c30
            have c30b1 : ((rd x8_3 0) != 48) = false := bne_eq_false_iff_eq.mpr c30
            clear c30
            by_cases c31 : 1 ≤ (x8_3.length : Int)
            ·rw [if_pos c31] at H
             have c31b0 := eq_true c31
             have c31b1 : decide (1 ≤ (x8_3.length : Int)) = true := decide_eq_true c31
             clear c31
             obtain ⟨y506, hy506⟩ : ∃ y_ : List Int, y_ = (x8_3.drop 1) := ⟨_, rfl⟩
             replace H : (vinculumref02_reduced.l2 k3 x6_3 x7_16 y506) = some (r1, r2, r3) := by first | (rw [hy506]; with_reducible exact H) | (have H2_ := (Option.bind_some _ _).symm.trans H; rw [hy506]; with_reducible exact H2_) | (have H2_ := (Option.bind_some _ _).symm.trans H; with_reducible exact H2_) | with_reducible exact H | (rw [hy506]; exact H) | exact H
             have Ny506 := zaa.mk hy506
             clear hy506
             have H' := zaa.mk H
             clear H
             obtain ⟨Ao32, co32, eo32⟩ := Kd.V_slice HO_8.o
             subst eo32
             have p505 : 0 ≤ (0 : Int) := (by omega)
             have q505 : 0 < (x8_3.length : Int) := of_decide_eq_true (by first | (with_reducible assumption) | assumption)
             obtain ⟨ad505, e505, hx505_0⟩ := Kd.at_int (Kd.V_reads' HO_8.o).2.2 0 p505 q505
             cases e505
             have qi505 : (0 < x8_3.length) = True := eq_true (by omega)
             (try rw [show ((0 : Int)).toNat = 0 from rfl] at hx505_0)
             (try rw [Addr.add_zero'] at hx505_0)
             replace p505 := eq_true p505
             replace q505 := eq_true q505
             have q33 : (1 : Int) ≤ ((x8_3.length : Int) : Int) := of_decide_eq_true (by first | (with_reducible assumption) | assumption)
             obtain ⟨i033, hi033, _, hsz33, _⟩ := info_parts info5
             have hroom33 : x8_3.length ≤ co32 := (Kd.V_reads' HO_8.o).2.1
             have hC33 : Kd.F (Kd.int .u8) _ _ (some ad505) x8_3.length x8_3 := (Kd.V_at (base := w.heap.size) HO_8.o).2.2
             have hcut33 := cut_from (P := Tryd.prog) 76 5 .i64 Tryd.underlying76 hi033 1 hsz33 (some ad505) x8_3.length co32 1 (by omega) q33
             have hr33 := Kd.F_cut (m := (1 : Int).toNat) (c := co32) hC33 (by omega) hroom33
             obtain ⟨A33, hA33⟩ : ∃ A1, A1 = (if co32 = (1 : Int).toNat then (some ad505) else ((some ad505) : Option Addr).map (·.add ((1 : Int).toNat * 1))) := ⟨_, rfl⟩
             obtain ⟨c33, hc33⟩ : ∃ c1, c1 = co32 - (1 : Int).toNat := ⟨_, rfl⟩
             have hy33 : y506.length = x8_3.length - (1 : Int).toNat := (by rw [Ny506.out, List.length_drop] <;> omega)
             rw [show (x8_3).drop (1 : Int).toNat = y506 from Ny506.out.symm] at hr33
             replace hr33 : Kd.F (Kd.int .u8) _ _ A33 y506.length y506 := (by rw [hA33]; exact hr33)
             rw [← hy33, ← hA33, ← hc33] at hcut33
             have HO510 := zaa.mk (show Kd.V (Kd.int .u8) 5 _ w.heap.size _ (.slice A33 y506.length c33) y506 from Kd.V_mk (by rw [hy33, hc33]; exact Nat.sub_le_sub_right hroom33 _) hr33)
             have HC510 := zaa.mk (show y506.length ≤ c33 from by rw [hy33, hc33]; exact Nat.sub_le_sub_right hroom33 _)
             clear hr33 hC33 hroom33 hi033 hsz33 hc33
             have KY33 := zaa.mk hy33
             have KA33 := zaa.mk hA33
             clear hy33 hA33
             replace q33 := eq_true q33
             go_wp2
             go_roundg k3
             case measure => have := HJ3.out; have := HJ16.out; have := HK3.o; omega
             case rel => exact ⟨(y506), H', ⟨by have := HJ3.out; have := HJ16.out; have := HK3.o; omega⟩, ⟨by (with_reducible repeat (first | apply Kd.V_alloc | apply Kd.V_drewN | apply Kd.V_drew)); exact HO510.o⟩, ⟨by (with_reducible repeat (first | refine zad ?_ _ | refine zab ?_ | refine zac ?_ _)); exact BK493.o⟩, ⟨by repeat (first | (with_reducible first | exact HB.o | apply zaf | apply zah | apply zag | refine zae ?_ GE493.o) | exact HB.o)⟩⟩
            ·rw [if_neg c31] at H
             exact absurd H (by simp)
           ·rw [if_neg c30] at H
            have c30b0 : ((rd x8_3 0) == 48) = false := beq_eq_false_iff_ne.mpr c30
            have c30b1 : ((rd x8_3 0) != 48) = true := bne_iff_ne.mpr c30
            have H' := zaa.mk H
            clear H
            obtain ⟨Ao34, co34, eo34⟩ := Kd.V_slice HO_8.o
            subst eo34
            have p505 : 0 ≤ (0 : Int) := (by omega)
            have q505 : 0 < (x8_3.length : Int) := of_decide_eq_true (by first | (with_reducible assumption) | assumption)
            obtain ⟨ad505, e505, hx505_0⟩ := Kd.at_int (Kd.V_reads' HO_8.o).2.2 0 p505 q505
            cases e505
            have qi505 : (0 < x8_3.length) = True := eq_true (by omega)
            (try rw [show ((0 : Int)).toNat = 0 from rfl] at hx505_0)
            (try rw [Addr.add_zero'] at hx505_0)
            replace p505 := eq_true p505
            replace q505 := eq_true q505
            go_wp2
            go_meet
            case rel => exact ⟨_, (x8_3), H', ⟨by have := HJ3.out; have := HJ16.out; have := HK3.o; first | omega | exact Nat.le_refl _⟩, ⟨by (with_reducible repeat (first | apply Kd.V_alloc | apply Kd.V_drewN | apply Kd.V_drew)); exact HO_8.o⟩, ⟨by (with_reducible repeat (first | refine zad ?_ _ | refine zab ?_ | refine zac ?_ _)); exact BK493.o⟩, ⟨by repeat (first | (with_reducible first | exact HB.o | apply zaf | apply zah | apply zag | refine zae ?_ GE493.o) | exact HB.o)⟩⟩
          ·rw [if_neg c29] at H
           exact absurd H (by simp)
         ·rw [if_neg c28] at H
          have c28b0 : decide (1 < (x8_3.length : Int)) = false := decide_eq_false c28
          have c28b1 : decide (1 < x8_3.length) = false := decide_eq_false (by omega)
          clear c28
          (first | rw [c28b0] | (simp only [i64_w, i32_w]; rw [c28b0]) | skip)
          have H' := zaa.mk H
          clear H
          obtain ⟨Ao35, co35, eo35⟩ := Kd.V_slice HO_8.o
          subst eo35
          go_wp2
          go_meet
          case rel => exact ⟨_, (x8_3), H', ⟨by have := HJ3.out; have := HJ16.out; have := HK3.o; first | omega | exact Nat.le_refl _⟩, ⟨by (with_reducible repeat (first | apply Kd.V_alloc | apply Kd.V_drewN | apply Kd.V_drew)); exact HO_8.o⟩, ⟨by (with_reducible repeat (first | refine zad ?_ _ | refine zab ?_ | refine zac ?_ _)); exact BK493.o⟩, ⟨by repeat (first | (with_reducible first | exact HB.o | apply zaf | apply zah | apply zag | refine zae ?_ GE493.o) | exact HB.o)⟩⟩
      case rest =>
       clear HC27
       try clear c1
       try clear c2
       try clear p2
       try clear c3
       try clear c3b0
       try clear c3b1
       try clear c3b2
       try clear q3
       try clear p4
       try clear q4
       try clear hx4
       try clear c5
       try clear p5
       try clear q5
       try clear hx5
       try clear qi5
       try clear c6
       try clear p6
       try clear c8
       try clear c8b0
       try clear c10
       try clear c10b0
       try clear c11
       try clear c11b0
       try clear c12
       try clear c12b0
       try clear c12b1
       try clear c18
       try clear c18b0
       try clear c20
       try clear c20b0
       try clear c21
       try clear c21b0
       try clear c22
       try clear c22b0
       try clear c22b1
       try clear c28
       try clear c28b0
       try clear c28b1
       try clear c29
       try clear c29b0
       try clear c29b1
       try clear c30
       try clear c30b0
       try clear c30b1
       try clear c31
       try clear c31b0
       try clear c31b1
       try clear c33
       try clear q33
       try clear hx497_0
       try clear hx501_0
       try clear hx505_0
       try clear p2
       try clear p4
       try clear p497
       try clear p5
       try clear p501
       try clear p505
       try clear p6
       try clear q33
       try clear q4
       try clear q497
       try clear q5
       try clear q501
       try clear q505
       obtain ⟨kq, x8_26, HA, HJ26, HO_8, BK493, HB⟩ := hcut
       cases kq with
       | zero => exact absurd HA.o (by simp [vinculumref02_reduced.j5])
       | succ kj26 =>
        have H := HA.o
        clear HA
        simp only [vinculumref02_reduced.j5] at H
        by_cases c36 : (x8_26.length : Int) > 10
        ·rw [if_pos c36] at H
         have c36b0 : decide (10 < (x8_26.length : Int)) = true := decide_eq_true c36
         have c36b1 : decide (10 < x8_26.length) = true := decide_eq_true (by omega)
         clear c36
         simp only [Option.some.injEq, Prod.mk.injEq] at H
         obtain ⟨rfl, rfl, rfl⟩ := H
         obtain ⟨Ao37, co37, eo37⟩ := Kd.V_slice HO_8.o
         subst eo37
         have hcz38_0 : wc.cell? ⟨gb493, 0, none⟩ = some (.int .i64 0) := (zai BK493.o 0).trans rfl
         have hcz38_1 : wc.cell? ⟨gb493, 1, none⟩ = some (.int .i64 0) := (zai BK493.o 1).trans rfl
         have hfz38_0 := zak BK493.o 0
         have hfz38_1 := zak BK493.o 1
         go_wp2
         refine bodyPost_ret (zav rfl _ _ gb493 28 #[.int .i64 0, .int .i64 0] (0, 0) _ rfl (by (with_reducible repeat (first | refine zad ?_ _ | refine zab ?_ | refine zac ?_ _)); refine zap (cs := #[.int .i64 0, .int .i64 0]) ?_ 1 _ rfl; (with_reducible repeat (first | refine zad ?_ _ | refine zab ?_ | refine zac ?_ _)); refine zap (cs := #[.int .i64 0, .int .i64 0]) ?_ 0 _ rfl; (with_reducible repeat (first | refine zad ?_ _ | refine zab ?_ | refine zac ?_ _)); exact BK493.o) Tryd.underlying28 rfl (by kernel_rfl)) rfl ?_
         exact ⟨by first | rfl | (simp [errW_none, errW_some] <;> rfl) | (simp [*, errW_none, errW_some] <;> rfl), by repeat (first | (with_reducible first | exact HB.o | apply zaf | apply zah | apply zag | refine zae ?_ GE493.o) | exact HB.o)⟩
        ·rw [if_neg c36] at H
         have c36b0 : decide (10 < (x8_26.length : Int)) = false := decide_eq_false c36
         have c36b1 : decide (10 < x8_26.length) = false := decide_eq_false (by omega)
         clear c36
         have H' := zaa.mk H
         clear H
         obtain ⟨Ao39, co39, eo39⟩ := Kd.V_slice HO_8.o
         subst eo39
         go_wp2
         go_loopg [9, 11] kj26 (fun kq v9 v11 w' => ∃ (x9_4 : Int) (x11_4 : Int), v9 = .int .i64 x9_4 ∧ v11 = .int .i64 x11_4 ∧ zaa (vinculumref02_reduced.l3 kq x6_3 x7_16 x8_26 x9_4 1 x11_4 = some (r1, r2, r3)) ∧ zaa (kq ≤ kj26) ∧ zaa (Kd.V (Kd.int .u8) 5 w' w.heap.size (fun k_ => k_ ≠ gb493) (.slice Ao39 x8_26.length co39) x8_26) ∧ zaa (w'.heap[gb493]? = some (.cells #[.int .i64 0, .int .i64 0] 28 (0, 0))) ∧ zaa (Below w.heap.size w w'))
         case atStart => exact ⟨(0), (0), (by first | rfl | (simp; done) | (simp [*]; done)), (by first | rfl | (simp; done) | (simp [*]; done)), H', ⟨Nat.le_refl _⟩, ⟨by (with_reducible repeat (first | apply Kd.V_alloc | apply Kd.V_drewN | apply Kd.V_drew)); exact HO_8.o⟩, ⟨by (with_reducible repeat (first | refine zad ?_ _ | refine zab ?_ | refine zac ?_ _)); exact BK493.o⟩, ⟨by repeat (first | (with_reducible first | exact HB.o | apply zaf | apply zah | apply zag | refine zae ?_ GE493.o) | exact HB.o)⟩⟩
         case round =>
          clear H'
          try clear c1
          try clear c2
          try clear p2
          try clear c3
          try clear c3b0
          try clear c3b1
          try clear c3b2
          try clear q3
          try clear p4
          try clear q4
          try clear hx4
          try clear c5
          try clear p5
          try clear q5
          try clear hx5
          try clear qi5
          try clear c6
          try clear p6
          try clear c8
          try clear c8b0
          try clear c10
          try clear c10b0
          try clear c11
          try clear c11b0
          try clear c12
          try clear c12b0
          try clear c12b1
          try clear c18
          try clear c18b0
          try clear c20
          try clear c20b0
          try clear c21
          try clear c21b0
          try clear c22
          try clear c22b0
          try clear c22b1
          try clear c28
          try clear c28b0
          try clear c28b1
          try clear c29
          try clear c29b0
          try clear c29b1
          try clear c30
          try clear c30b0
          try clear c30b1
          try clear c31
          try clear c31b0
          try clear c31b1
          try clear c33
          try clear q33
          try clear c36
          try clear c36b0
          try clear c36b1
          try clear hcz38_0
          try clear hcz38_1
          try clear hfz38_0
          try clear hfz38_1
          try clear hx497_0
          try clear hx501_0
          try clear hx505_0
          try clear p2
          try clear p4
          try clear p497
          try clear p5
          try clear p501
          try clear p505
          try clear p6
          try clear q3
          try clear q33
          try clear q4
          try clear q497
          try clear q5
          try clear q501
          try clear q505
          obtain ⟨x9_4, x11_4, rfl, rfl, HA, HK4, HO_8, BK493, HB⟩ := hrel
          cases gk with
          | zero => exact absurd HA.o (by simp [vinculumref02_reduced.l3])
          | succ k4 =>
           have H := HA.o
           clear HA
           simp only [vinculumref02_reduced.l3] at H
           by_cases c40 : x11_4 < (x8_26.length : Int)
           ·rw [if_pos c40] at H
            have c40b0 : decide (x11_4 < (x8_26.length : Int)) = true := decide_eq_true c40
            clear c40
            by_cases c41 : 0 ≤ x11_4
            ·rw [if_pos c41] at H
             have c41b0 : decide (0 ≤ x11_4) = true := decide_eq_true c41
             clear c41
             have H' := zaa.mk H
             clear H
             have p511 : 0 ≤ (x11_4 : Int) := of_decide_eq_true (by first | (with_reducible assumption) | assumption)
             have q511 : x11_4 < (x8_26.length : Int) := of_decide_eq_true (by first | (with_reducible assumption) | assumption)
             obtain ⟨ad511, e511, hx511_0⟩ := Kd.at_int (Kd.V_reads' HO_8.o).2.2 x11_4 p511 q511
             cases e511
             replace p511 := eq_true p511
             replace q511 := eq_true q511
             go_wp2
             go_roundg k4
             case measure => have := HJ3.out; have := HJ16.out; have := HJ26.out; have := HK4.o; omega
             case rel => exact ⟨(wrap64 ((wrap64 (10 * x9_4)) + (((rd x8_26 x11_4) - 48) % 256))), (wrap64 (x11_4 + 1)), (by first | rfl | (simp; done) | (simp [*]; done)), (by first | rfl | (simp; done) | (simp [*]; done)), H', ⟨by have := HJ3.out; have := HJ16.out; have := HJ26.out; have := HK4.o; omega⟩, ⟨by (with_reducible repeat (first | apply Kd.V_alloc | apply Kd.V_drewN | apply Kd.V_drew)); exact HO_8.o⟩, ⟨by (with_reducible repeat (first | refine zad ?_ _ | refine zab ?_ | refine zac ?_ _)); exact BK493.o⟩, ⟨by repeat (first | (with_reducible first | exact HB.o | apply zaf | apply zah | apply zag | refine zae ?_ GE493.o) | exact HB.o)⟩⟩
            ·rw [if_neg c41] at H
             exact absurd H (by simp)
           ·rw [if_neg c40] at H
            have c40b0 : decide (x11_4 < (x8_26.length : Int)) = false := decide_eq_false c40
            clear c40
            have H' := zaa.mk H
            clear H
            go_wp2
            go_loopg [10, 12] k4 (fun kq v10 v12 w' => ∃ (x10_5 : Int) (x12_5 : Int) (x494000_5 : Int) (x494001_5 : Int), v10 = .int .i64 x10_5 ∧ v12 = .int .i64 x12_5 ∧ zaa (vinculumref02_reduced.l4 kq x6_3 x7_16 x9_4 x10_5 x12_5 = some (r1, r2, r3)) ∧ zaa (kq ≤ k4) ∧ zaa (w'.heap[gb493]? = some (.cells #[.int .i64 x494000_5, .int .i64 x494001_5] 28 (0, 0))) ∧ zaa (Below w.heap.size w w'))
            case atStart => exact ⟨(1), (0), (0), (0), (by first | rfl | (simp; done) | (simp [*]; done)), (by first | rfl | (simp; done) | (simp [*]; done)), H', ⟨Nat.le_refl _⟩, ⟨by (with_reducible repeat (first | refine zad ?_ _ | refine zab ?_ | refine zac ?_ _)); exact BK493.o⟩, ⟨by repeat (first | (with_reducible first | exact HB.o | apply zaf | apply zah | apply zag | refine zae ?_ GE493.o) | exact HB.o)⟩⟩
            case round =>
             clear H'
             try clear c1
             try clear c2
             try clear p2
             try clear c3
             try clear c3b0
             try clear c3b1
             try clear c3b2
             try clear q3
             try clear c4
             try clear p4
             try clear q4
             try clear hx4
             try clear c5
             try clear p5
             try clear q5
             try clear hx5
             try clear qi5
             try clear c6
             try clear p6
             try clear c8
             try clear c8b0
             try clear c10
             try clear c10b0
             try clear c11
             try clear c11b0
             try clear c12
             try clear c12b0
             try clear c12b1
             try clear c18
             try clear c18b0
             try clear c20
             try clear c20b0
             try clear c21
             try clear c21b0
             try clear c22
             try clear c22b0
             try clear c22b1
             try clear c28
             try clear c28b0
             try clear c28b1
             try clear c29
             try clear c29b0
             try clear c29b1
             try clear c30
             try clear c30b0
             try clear c30b1
             try clear c31
             try clear c31b0
             try clear c31b1
             try clear c33
             try clear q33
             try clear c36
             try clear c36b0
             try clear c36b1
             try clear c40
             try clear c40b0
             try clear c41
             try clear c41b0
             try clear hcz38_0
             try clear hcz38_1
             try clear hfz38_0
             try clear hfz38_1
             try clear hx497_0
             try clear hx501_0
             try clear hx505_0
             try clear hx511_0
             try clear p2
             try clear p4
             try clear p497
             try clear p5
             try clear p501
             try clear p505
             try clear p511
             try clear p6
             try clear q3
             try clear q33
             try clear q4
             try clear q497
             try clear q5
             try clear q501
             try clear q505
             try clear q511
             obtain ⟨x10_5, x12_5, x494000_5, x494001_5, rfl, rfl, HA, HK5, BK493, HB⟩ := hrel
             cases gk with
             | zero => exact absurd HA.o (by simp [vinculumref02_reduced.l4])
             | succ k5 =>
              have H := HA.o
              clear HA
              simp only [vinculumref02_reduced.l4] at H
              by_cases c42 : x12_5 < x6_3
              ·rw [if_pos c42] at H
               have c42b0 : decide (x12_5 < x6_3) = true := decide_eq_true c42
               clear c42
               by_cases c43 : (wrap64 (x10_5 * 2)) > 2147483647
               ·rw [if_pos c43] at H
                have c43b0 : decide (2147483647 < (wrap64 (x10_5 * 2))) = true := decide_eq_true c43
                clear c43
                simp only [Option.some.injEq, Prod.mk.injEq] at H
                obtain ⟨rfl, rfl, rfl⟩ := H
                have hcz44_0 : wr.cell? ⟨gb493, 0, none⟩ = some (.int .i64 x494000_5) := (zai BK493.o 0).trans rfl
                have hcz44_1 : wr.cell? ⟨gb493, 1, none⟩ = some (.int .i64 x494001_5) := (zai BK493.o 1).trans rfl
                have hfz44_0 := zak BK493.o 0
                have hfz44_1 := zak BK493.o 1
                go_wp2
                refine bodyPost_ret (zav rfl _ _ gb493 28 #[.int .i64 0, .int .i64 0] (0, 0) _ rfl (by (with_reducible repeat (first | refine zad ?_ _ | refine zab ?_ | refine zac ?_ _)); refine zap (cs := #[.int .i64 0, .int .i64 x494001_5]) ?_ 1 _ rfl; (with_reducible repeat (first | refine zad ?_ _ | refine zab ?_ | refine zac ?_ _)); refine zap (cs := #[.int .i64 x494000_5, .int .i64 x494001_5]) ?_ 0 _ rfl; (with_reducible repeat (first | refine zad ?_ _ | refine zab ?_ | refine zac ?_ _)); exact BK493.o) Tryd.underlying28 rfl (by kernel_rfl)) rfl ?_
                exact ⟨by first | rfl | (simp [errW_none, errW_some] <;> rfl) | (simp [*, errW_none, errW_some] <;> rfl), by repeat (first | (with_reducible first | exact HB.o | apply zaf | apply zah | apply zag | refine zae ?_ GE493.o) | exact HB.o)⟩
               ·rw [if_neg c43] at H
                have c43b0 : decide (2147483647 < (wrap64 (x10_5 * 2))) = false := decide_eq_false c43
                clear c43
                have H' := zaa.mk H
                clear H
                go_wp2
                go_roundg k5
                case measure => have := HJ3.out; have := HJ16.out; have := HJ26.out; have := HK4.o; have := HK5.o; omega
                case rel => exact ⟨(wrap64 (x10_5 * 2)), (wrap64 (x12_5 + 1)), (x494000_5), (x494001_5), (by first | rfl | (simp; done) | (simp [*]; done)), (by first | rfl | (simp; done) | (simp [*]; done)), H', ⟨by have := HJ3.out; have := HJ16.out; have := HJ26.out; have := HK4.o; have := HK5.o; omega⟩, ⟨by (with_reducible repeat (first | refine zad ?_ _ | refine zab ?_ | refine zac ?_ _)); exact BK493.o⟩, ⟨by repeat (first | (with_reducible first | exact HB.o | apply zaf | apply zah | apply zag | refine zae ?_ GE493.o) | exact HB.o)⟩⟩
              ·rw [if_neg c42] at H
               have c42b0 : decide (x12_5 < x6_3) = false := decide_eq_false c42
               clear c42
               have H' := zaa.mk H
               clear H
               go_wp2
               go_loopg [10, 13] k5 (fun kq v10 v13 w' => ∃ (x10_6 : Int) (x13_6 : Int) (x494000_6 : Int) (x494001_6 : Int), v10 = .int .i64 x10_6 ∧ v13 = .int .i64 x13_6 ∧ zaa (vinculumref02_reduced.l5 kq x7_16 x9_4 x10_6 x13_6 = some (r1, r2, r3)) ∧ zaa (kq ≤ k5) ∧ zaa (w'.heap[gb493]? = some (.cells #[.int .i64 x494000_6, .int .i64 x494001_6] 28 (0, 0))) ∧ zaa (Below w.heap.size w w'))
               case atStart => exact ⟨(x10_5), (0), (x494000_5), (x494001_5), (by first | rfl | (simp; done) | (simp [*]; done)), (by first | rfl | (simp; done) | (simp [*]; done)), H', ⟨Nat.le_refl _⟩, ⟨by (with_reducible repeat (first | refine zad ?_ _ | refine zab ?_ | refine zac ?_ _)); exact BK493.o⟩, ⟨by repeat (first | (with_reducible first | exact HB.o | apply zaf | apply zah | apply zag | refine zae ?_ GE493.o) | exact HB.o)⟩⟩
               case round =>
                clear H'
                try clear c1
                try clear c2
                try clear p2
                try clear c3
                try clear c3b0
                try clear c3b1
                try clear c3b2
                try clear q3
                try clear c4
                try clear p4
                try clear q4
                try clear hx4
                try clear c5
                try clear p5
                try clear q5
                try clear hx5
                try clear qi5
                try clear c6
                try clear p6
                try clear c8
                try clear c8b0
                try clear c10
                try clear c10b0
                try clear c11
                try clear c11b0
                try clear c12
                try clear c12b0
                try clear c12b1
                try clear c18
                try clear c18b0
                try clear c20
                try clear c20b0
                try clear c21
                try clear c21b0
                try clear c22
                try clear c22b0
                try clear c22b1
                try clear c28
                try clear c28b0
                try clear c28b1
                try clear c29
                try clear c29b0
                try clear c29b1
                try clear c30
                try clear c30b0
                try clear c30b1
                try clear c31
                try clear c31b0
                try clear c31b1
                try clear c33
                try clear q33
                try clear c36
                try clear c36b0
                try clear c36b1
                try clear c40
                try clear c40b0
                try clear c41
                try clear c41b0
                try clear c42
                try clear c42b0
                try clear c43
                try clear c43b0
                try clear hcz38_0
                try clear hcz38_1
                try clear hcz44_0
                try clear hcz44_1
                try clear hfz38_0
                try clear hfz38_1
                try clear hfz44_0
                try clear hfz44_1
                try clear hx497_0
                try clear hx501_0
                try clear hx505_0
                try clear hx511_0
                try clear p2
                try clear p4
                try clear p497
                try clear p5
                try clear p501
                try clear p505
                try clear p511
                try clear p6
                try clear q3
                try clear q33
                try clear q4
                try clear q497
                try clear q5
                try clear q501
                try clear q505
                try clear q511
                obtain ⟨x10_6, x13_6, x494000_6, x494001_6, rfl, rfl, HA, HK6, BK493, HB⟩ := hrel
                cases gk with
                | zero => exact absurd HA.o (by simp [vinculumref02_reduced.l5])
                | succ k6 =>
                 have H := HA.o
                 clear HA
                 simp only [vinculumref02_reduced.l5] at H
                 by_cases c45 : x13_6 < x7_16
                 ·rw [if_pos c45] at H
                  have c45b0 : decide (x13_6 < x7_16) = true := decide_eq_true c45
                  clear c45
                  by_cases c46 : (wrap64 (x10_6 * 5)) > 2147483647
                  ·rw [if_pos c46] at H
                   have c46b0 : decide (2147483647 < (wrap64 (x10_6 * 5))) = true := decide_eq_true c46
                   clear c46
                   simp only [Option.some.injEq, Prod.mk.injEq] at H
                   obtain ⟨rfl, rfl, rfl⟩ := H
                   have hcz47_0 : wr.cell? ⟨gb493, 0, none⟩ = some (.int .i64 x494000_6) := (zai BK493.o 0).trans rfl
                   have hcz47_1 : wr.cell? ⟨gb493, 1, none⟩ = some (.int .i64 x494001_6) := (zai BK493.o 1).trans rfl
                   have hfz47_0 := zak BK493.o 0
                   have hfz47_1 := zak BK493.o 1
                   go_wp2
                   refine bodyPost_ret (zav rfl _ _ gb493 28 #[.int .i64 0, .int .i64 0] (0, 0) _ rfl (by (with_reducible repeat (first | refine zad ?_ _ | refine zab ?_ | refine zac ?_ _)); refine zap (cs := #[.int .i64 0, .int .i64 x494001_6]) ?_ 1 _ rfl; (with_reducible repeat (first | refine zad ?_ _ | refine zab ?_ | refine zac ?_ _)); refine zap (cs := #[.int .i64 x494000_6, .int .i64 x494001_6]) ?_ 0 _ rfl; (with_reducible repeat (first | refine zad ?_ _ | refine zab ?_ | refine zac ?_ _)); exact BK493.o) Tryd.underlying28 rfl (by kernel_rfl)) rfl ?_
                   exact ⟨by first | rfl | (simp [errW_none, errW_some] <;> rfl) | (simp [*, errW_none, errW_some] <;> rfl), by repeat (first | (with_reducible first | exact HB.o | apply zaf | apply zah | apply zag | refine zae ?_ GE493.o) | exact HB.o)⟩
                  ·rw [if_neg c46] at H
                   have c46b0 : decide (2147483647 < (wrap64 (x10_6 * 5))) = false := decide_eq_false c46
                   clear c46
                   have H' := zaa.mk H
                   clear H
                   go_wp2
                   go_roundg k6
                   case measure => have := HJ3.out; have := HJ16.out; have := HJ26.out; have := HK4.o; have := HK5.o; have := HK6.o; omega
                   case rel => exact ⟨(wrap64 (x10_6 * 5)), (wrap64 (x13_6 + 1)), (x494000_6), (x494001_6), (by first | rfl | (simp; done) | (simp [*]; done)), (by first | rfl | (simp; done) | (simp [*]; done)), H', ⟨by have := HJ3.out; have := HJ16.out; have := HJ26.out; have := HK4.o; have := HK5.o; have := HK6.o; omega⟩, ⟨by (with_reducible repeat (first | refine zad ?_ _ | refine zab ?_ | refine zac ?_ _)); exact BK493.o⟩, ⟨by repeat (first | (with_reducible first | exact HB.o | apply zaf | apply zah | apply zag | refine zae ?_ GE493.o) | exact HB.o)⟩⟩
                 ·rw [if_neg c45] at H
                  have c45b0 : decide (x13_6 < x7_16) = false := decide_eq_false c45
                  clear c45
                  replace H := Option.bind_eq_some_iff.mp H
                  obtain ⟨⟨t512, t513, t514⟩, A480, H⟩ := H
                  replace H : (some (t512, t513, t514)) = some (r1, r2, r3) := H
                  have A48 := zaa.mk A480
                  clear A480
                  simp only [Option.some.injEq, Prod.mk.injEq] at H
                  obtain ⟨rfl, rfl, rfl⟩ := H
                  go_wp2_with (first | ((with_reducible refine zas (f := 14) rfl ?_); refine zat (some 104) rfl rfl Tryd.func14 (by kernel_rfl) rfl #[.int .i64 x9_4, .int .i64 x10_6] rfl (by (try simp only [List.map_toArray, List.map_cons, List.map_nil]); first | done | rfl | (simp only [List.length_drop, List.length_take]; rfl)) ?_; (with_reducible refine (vinculumref02_Make.calls k6 x9_4 x10_6 t512 t513 t514 _ A48.o).mono ?_); rintro e w49 ⟨rfl, hb⟩; refine ⟨_, rfl, ?_⟩; have n0_ := zaa.mk (zaj (by (with_reducible repeat (first | refine zad ?_ _ | refine zab ?_ | refine zac ?_ _)); exact BK493.o) hb); have n1_ := zaa.mk (zao (by repeat (first | (with_reducible first | exact HB.o | apply zaf | apply zah | apply zag | refine zae ?_ GE493.o) | exact HB.o)) hb); clear BK493; clear HB; have BK493 := n0_; have HB := n1_; clear n0_ n1_; (try clear hb); (try clear hb2); (try clear hk); (try clear hi); obtain ⟨hcz50_0, hcz50_1⟩ := cz2 BK493.o; obtain ⟨hfz50_0, hfz50_1⟩ := fz2 BK493.o))
                  refine bodyPost_ret (zav rfl _ _ gb493 28 #[.int .i64 t512, .int .i64 t513] (0, 0) _ rfl (by (with_reducible repeat (first | refine zad ?_ _ | refine zab ?_ | refine zac ?_ _)); refine zap (cs := #[.int .i64 t512, .int .i64 x494001_6]) ?_ 1 _ rfl; (with_reducible repeat (first | refine zad ?_ _ | refine zab ?_ | refine zac ?_ _)); refine zap (cs := #[.int .i64 x494000_6, .int .i64 x494001_6]) ?_ 0 _ rfl; (with_reducible repeat (first | refine zad ?_ _ | refine zab ?_ | refine zac ?_ _)); exact BK493.o) Tryd.underlying28 rfl (by kernel_rfl)) rfl ?_
                  exact ⟨by first | rfl | (simp [errW_none, errW_some] <;> rfl) | (simp [*, errW_none, errW_some] <;> rfl), by repeat (first | (with_reducible first | exact HB.o | apply zaf | apply zah | apply zag | refine zae ?_ GE493.o) | exact HB.o)⟩
 ·rw [if_neg c3] at H
  exact absurd H (by simp)

end Go.Proofs.YtoieknocpphjoaaDoor.P
