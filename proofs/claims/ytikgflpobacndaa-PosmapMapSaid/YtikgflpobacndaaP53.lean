--m
/- Written by wip/tool/hprint.py (the kit's print.py with hand-proved contracts set in): contracts of the functions that the statements of this seat reach, without conditions beyond those named in each theorem. -/
import Derived.Test.YtikgflpobacndaaP0
namespace Go.Proofs.Ytikgflpobacndaa.P
open Go.RowKit Go.Proofs.YtikgflpobacndaaW.PrintWords Go.Proofs.YtikgflpobacndaaW.PrintLast Go.Proofs.YtikgflpobacndaaW.PrintMore
attribute [local go_sem] zaz zaA zaB zaC zaD zaE zaF zaG   -- for this text's walks alone
set_option linter.unusedVariables false
set_option linter.unusedSimpArgs false

/-! ### vinculumref13_inside: function 47 -/
mutual
def vinculumref13_inside.j0 : Nat → Int → Int → List Int → Int → List Int → Bool → Int → List Int → Int → Int → List (S24) → Int → ByteArray → ByteArray → Option (List Int)
 | 0, _, _, _, _, _, _, _, _, _, _, _, _, _, _ => none
 | k + 1, x1, x2, x3, x9, x10, x29, x591000, x591001, x591002, x591003, x591004, x591005, x591006, x591007 => if x29 = true then (some (([x591002] : List Int))) else (if x591000 = 2 then ((some (([wrap64 (x1 - x9)] : List Int) : List Int)).bind fun y612 => (if y612.length < 17592186044416 then ((some (y612 ++ [x2] : List Int)).bind fun y615 => (if y615.length + x3.length < 17592186044416 then (some (y615 ++ x3)) else (none))) else (none))) else (if x591000 = 3 then (vinculumref13_inside.j1 k x1 x2 x3 x10 (decide (x1 < (wrap64 (x591002 + x591003)))) x591000 x591001 x591002 x591003 x591004 x591005 x591006 x591007) else (vinculumref13_inside.j1 k x1 x2 x3 x10 false x591000 x591001 x591002 x591003 x591004 x591005 x591006 x591007)))
def vinculumref13_inside.j1 : Nat → Int → Int → List Int → List Int → Bool → Int → List Int → Int → Int → List (S24) → Int → ByteArray → ByteArray → Option (List Int)
 | 0, _, _, _, _, _, _, _, _, _, _, _, _, _ => none
 | k + 1, x1, x2, x3, x10, x52, x591000, x591001, x591002, x591003, x591004, x591005, x591006, x591007 => if x52 = true then ((some (([x591002, x591005, wrap64 (x1 - x591002)] : List Int) : List Int)).bind fun y621 => (if y621.length < 17592186044416 then ((some (y621 ++ [x2] : List Int)).bind fun y624 => (if y624.length + x3.length < 17592186044416 then (some (y624 ++ x3)) else (none))) else (none))) else (if x591000 = 3 then ((some (([wrap64 ((wrap64 (x1 - x591003)) + 1)] : List Int) : List Int)).bind fun y630 => (if y630.length < 17592186044416 then ((some (y630 ++ [x2] : List Int)).bind fun y633 => (if y633.length + x3.length < 17592186044416 then (some (y633 ++ x3)) else (none))) else (none))) else (if x591000 = 4 then (if x1 = x591002 then (vinculumref13_inside.j2 k x1 x2 x3 x10 (decide (x2 < x591005)) x591000 x591001 x591002 x591003 x591004 x591005 x591006 x591007) else (vinculumref13_inside.j2 k x1 x2 x3 x10 false x591000 x591001 x591002 x591003 x591004 x591005 x591006 x591007)) else (vinculumref13_inside.j2 k x1 x2 x3 x10 false x591000 x591001 x591002 x591003 x591004 x591005 x591006 x591007)))
def vinculumref13_inside.j2 : Nat → Int → Int → List Int → List Int → Bool → Int → List Int → Int → Int → List (S24) → Int → ByteArray → ByteArray → Option (List Int)
 | 0, _, _, _, _, _, _, _, _, _, _, _, _, _ => none
 | k + 1, x1, x2, x3, x10, x84, x591000, x591001, x591002, x591003, x591004, x591005, x591006, x591007 => if x84 = true then (some (([x591002] : List Int))) else (if x591000 = 4 then (if x1 = x591002 then (vinculumref13_inside.j3 k x1 x2 x3 x10 (decide (x2 > x591005)) x591000 x591001 x591002 x591003 x591004 x591005 x591006 x591007) else (vinculumref13_inside.j3 k x1 x2 x3 x10 false x591000 x591001 x591002 x591003 x591004 x591005 x591006 x591007)) else (vinculumref13_inside.j3 k x1 x2 x3 x10 false x591000 x591001 x591002 x591003 x591004 x591005 x591006 x591007))
def vinculumref13_inside.j3 : Nat → Int → Int → List Int → List Int → Bool → Int → List Int → Int → Int → List (S24) → Int → ByteArray → ByteArray → Option (List Int)
 | 0, _, _, _, _, _, _, _, _, _, _, _, _, _ => none
 | k + 1, x1, x2, x3, x10, x103, x591000, x591001, x591002, x591003, x591004, x591005, x591006, x591007 => if x103 = true then (some (([wrap64 (x591002 + x591003)] : List Int))) else (if x591000 = 4 then (vinculumref13_inside.j4 k x1 x2 x3 x10 (x1 == x591002) x591000 x591001 x591002 x591003 x591004 x591005 x591006 x591007) else (vinculumref13_inside.j4 k x1 x2 x3 x10 false x591000 x591001 x591002 x591003 x591004 x591005 x591006 x591007))
def vinculumref13_inside.j4 : Nat → Int → Int → List Int → List Int → Bool → Int → List Int → Int → Int → List (S24) → Int → ByteArray → ByteArray → Option (List Int)
 | 0, _, _, _, _, _, _, _, _, _, _, _, _, _ => none
 | k + 1, x1, x2, x3, x10, x125, x591000, x591001, x591002, x591003, x591004, x591005, x591006, x591007 => if x125 = true then (if 0 < (x3.length : Int) then ((some (([wrap64 (x591002 + (rd x3 0))] : List Int) : List Int)).bind fun y646 => (if 1 ≤ (x3.length : Int) then (if y646.length + (x3.drop 1).length < 17592186044416 then (some (y646 ++ (x3.drop 1))) else (none)) else (none))) else (none)) else (if x591000 = 4 then ((some (([wrap64 ((wrap64 (x1 - 1)) + x591003)] : List Int) : List Int)).bind fun y653 => (if y653.length < 17592186044416 then ((some (y653 ++ [x2] : List Int)).bind fun y656 => (if y656.length + x3.length < 17592186044416 then (some (y656 ++ x3)) else (none))) else (none))) else (if x10.length < 17592186044416 then ((some (x10 ++ [x2] : List Int)).bind fun y662 => (if y662.length + x3.length < 17592186044416 then (some (y662 ++ x3)) else (none))) else (none)))
end
def vinculumref13_inside.f (k : Nat) (a0_0 : Int) (l0_1 : List Int) (a0_2 : Int) (a0_3 : Int) (l0_4 : List (S24)) (a0_5 : Int) (a0_6 : ByteArray) (a0_7 : ByteArray) (a1 : Int) (a2 : Int) (l3 : List Int) : Option (List Int) := (some (([a1] : List Int) : List Int)).bind fun y591 => (if a1 < a0_2 then (if y591.length < 17592186044416 then ((some (y591 ++ [a2] : List Int)).bind fun y594 => (if y594.length + l3.length < 17592186044416 then (some (y594 ++ l3)) else (none))) else (none)) else (if a0_0 = 1 then ((some (([wrap64 (a1 + (l0_4.length : Int))] : List Int) : List Int)).bind fun y600 => (if y600.length < 17592186044416 then ((some (y600 ++ [a2] : List Int)).bind fun y603 => (if y603.length + l3.length < 17592186044416 then (some (y603 ++ l3)) else (none))) else (none))) else (if a0_0 = 2 then (vinculumref13_inside.j0 k a1 a2 l3 (l0_4.length : Int) y591 (decide (a1 < (wrap64 (a0_2 + (l0_4.length : Int))))) a0_0 l0_1 a0_2 a0_3 l0_4 a0_5 a0_6 a0_7) else (vinculumref13_inside.j0 k a1 a2 l3 (l0_4.length : Int) y591 false a0_0 l0_1 a0_2 a0_3 l0_4 a0_5 a0_6 a0_7))))
theorem vinculumref13_inside.mono_l : ∀ k, (∀ y0 y1 y2 y3 y4 y5 y6 y7 y8 y9 y10 y11 y12 y13, LeO (vinculumref13_inside.j0 k y0 y1 y2 y3 y4 y5 y6 y7 y8 y9 y10 y11 y12 y13) (vinculumref13_inside.j0 (k + 1) y0 y1 y2 y3 y4 y5 y6 y7 y8 y9 y10 y11 y12 y13)) ∧ (∀ y0 y1 y2 y3 y4 y5 y6 y7 y8 y9 y10 y11 y12, LeO (vinculumref13_inside.j1 k y0 y1 y2 y3 y4 y5 y6 y7 y8 y9 y10 y11 y12) (vinculumref13_inside.j1 (k + 1) y0 y1 y2 y3 y4 y5 y6 y7 y8 y9 y10 y11 y12)) ∧ (∀ y0 y1 y2 y3 y4 y5 y6 y7 y8 y9 y10 y11 y12, LeO (vinculumref13_inside.j2 k y0 y1 y2 y3 y4 y5 y6 y7 y8 y9 y10 y11 y12) (vinculumref13_inside.j2 (k + 1) y0 y1 y2 y3 y4 y5 y6 y7 y8 y9 y10 y11 y12)) ∧ (∀ y0 y1 y2 y3 y4 y5 y6 y7 y8 y9 y10 y11 y12, LeO (vinculumref13_inside.j3 k y0 y1 y2 y3 y4 y5 y6 y7 y8 y9 y10 y11 y12) (vinculumref13_inside.j3 (k + 1) y0 y1 y2 y3 y4 y5 y6 y7 y8 y9 y10 y11 y12)) ∧ (∀ y0 y1 y2 y3 y4 y5 y6 y7 y8 y9 y10 y11 y12, LeO (vinculumref13_inside.j4 k y0 y1 y2 y3 y4 y5 y6 y7 y8 y9 y10 y11 y12) (vinculumref13_inside.j4 (k + 1) y0 y1 y2 y3 y4 y5 y6 y7 y8 y9 y10 y11 y12))
 | 0 => ⟨fun _ _ _ _ _ _ _ _ _ _ _ _ _ _ r h => by simp [vinculumref13_inside.j0] at h, fun _ _ _ _ _ _ _ _ _ _ _ _ _ r h => by simp [vinculumref13_inside.j1] at h, fun _ _ _ _ _ _ _ _ _ _ _ _ _ r h => by simp [vinculumref13_inside.j2] at h, fun _ _ _ _ _ _ _ _ _ _ _ _ _ r h => by simp [vinculumref13_inside.j3] at h, fun _ _ _ _ _ _ _ _ _ _ _ _ _ r h => by simp [vinculumref13_inside.j4] at h⟩
 | k + 1 => by
  obtain ⟨ih0, ih1, ih2, ih3, ih4⟩ := vinculumref13_inside.mono_l k
  refine ⟨?_, ?_, ?_, ?_, ?_⟩
  ·intro y0 y1 y2 y3 y4 y5 y6 y7 y8 y9 y10 y11 y12 y13
   unfold vinculumref13_inside.j0
   repeat' first
   | (with_reducible exact ih0 _ _ _ _ _ _ _ _ _ _ _ _ _ _)
   | (with_reducible exact ih1 _ _ _ _ _ _ _ _ _ _ _ _ _)
   | (with_reducible exact ih2 _ _ _ _ _ _ _ _ _ _ _ _ _)
   | (with_reducible exact ih3 _ _ _ _ _ _ _ _ _ _ _ _ _)
   | (with_reducible exact ih4 _ _ _ _ _ _ _ _ _ _ _ _ _)
   | (with_reducible exact LeO.refl _)
   | (with_reducible exact LeO.none _)
   | (with_reducible refine LeO.ite ?_ ?_)
   | (with_reducible refine LeO.bind ?_ (fun _ => ?_))
   | exact ih0 _ _ _ _ _ _ _ _ _ _ _ _ _ _
   | exact ih1 _ _ _ _ _ _ _ _ _ _ _ _ _
   | exact ih2 _ _ _ _ _ _ _ _ _ _ _ _ _
   | exact ih3 _ _ _ _ _ _ _ _ _ _ _ _ _
   | exact ih4 _ _ _ _ _ _ _ _ _ _ _ _ _
   | exact LeO.none _
   | refine LeO.ite ?_ ?_
   | refine LeO.bind ?_ (fun _ => ?_)
  ·intro y0 y1 y2 y3 y4 y5 y6 y7 y8 y9 y10 y11 y12
   unfold vinculumref13_inside.j1
   repeat' first
   | (with_reducible exact ih0 _ _ _ _ _ _ _ _ _ _ _ _ _ _)
   | (with_reducible exact ih1 _ _ _ _ _ _ _ _ _ _ _ _ _)
   | (with_reducible exact ih2 _ _ _ _ _ _ _ _ _ _ _ _ _)
   | (with_reducible exact ih3 _ _ _ _ _ _ _ _ _ _ _ _ _)
   | (with_reducible exact ih4 _ _ _ _ _ _ _ _ _ _ _ _ _)
   | (with_reducible exact LeO.refl _)
   | (with_reducible exact LeO.none _)
   | (with_reducible refine LeO.ite ?_ ?_)
   | (with_reducible refine LeO.bind ?_ (fun _ => ?_))
   | exact ih0 _ _ _ _ _ _ _ _ _ _ _ _ _ _
   | exact ih1 _ _ _ _ _ _ _ _ _ _ _ _ _
   | exact ih2 _ _ _ _ _ _ _ _ _ _ _ _ _
   | exact ih3 _ _ _ _ _ _ _ _ _ _ _ _ _
   | exact ih4 _ _ _ _ _ _ _ _ _ _ _ _ _
   | exact LeO.none _
   | refine LeO.ite ?_ ?_
   | refine LeO.bind ?_ (fun _ => ?_)
  ·intro y0 y1 y2 y3 y4 y5 y6 y7 y8 y9 y10 y11 y12
   unfold vinculumref13_inside.j2
   repeat' first
   | (with_reducible exact ih0 _ _ _ _ _ _ _ _ _ _ _ _ _ _)
   | (with_reducible exact ih1 _ _ _ _ _ _ _ _ _ _ _ _ _)
   | (with_reducible exact ih2 _ _ _ _ _ _ _ _ _ _ _ _ _)
   | (with_reducible exact ih3 _ _ _ _ _ _ _ _ _ _ _ _ _)
   | (with_reducible exact ih4 _ _ _ _ _ _ _ _ _ _ _ _ _)
   | (with_reducible exact LeO.refl _)
   | (with_reducible exact LeO.none _)
   | (with_reducible refine LeO.ite ?_ ?_)
   | (with_reducible refine LeO.bind ?_ (fun _ => ?_))
   | exact ih0 _ _ _ _ _ _ _ _ _ _ _ _ _ _
   | exact ih1 _ _ _ _ _ _ _ _ _ _ _ _ _
   | exact ih2 _ _ _ _ _ _ _ _ _ _ _ _ _
   | exact ih3 _ _ _ _ _ _ _ _ _ _ _ _ _
   | exact ih4 _ _ _ _ _ _ _ _ _ _ _ _ _
   | exact LeO.none _
   | refine LeO.ite ?_ ?_
   | refine LeO.bind ?_ (fun _ => ?_)
  ·intro y0 y1 y2 y3 y4 y5 y6 y7 y8 y9 y10 y11 y12
   unfold vinculumref13_inside.j3
   repeat' first
   | (with_reducible exact ih0 _ _ _ _ _ _ _ _ _ _ _ _ _ _)
   | (with_reducible exact ih1 _ _ _ _ _ _ _ _ _ _ _ _ _)
   | (with_reducible exact ih2 _ _ _ _ _ _ _ _ _ _ _ _ _)
   | (with_reducible exact ih3 _ _ _ _ _ _ _ _ _ _ _ _ _)
   | (with_reducible exact ih4 _ _ _ _ _ _ _ _ _ _ _ _ _)
   | (with_reducible exact LeO.refl _)
   | (with_reducible exact LeO.none _)
   | (with_reducible refine LeO.ite ?_ ?_)
   | (with_reducible refine LeO.bind ?_ (fun _ => ?_))
   | exact ih0 _ _ _ _ _ _ _ _ _ _ _ _ _ _
   | exact ih1 _ _ _ _ _ _ _ _ _ _ _ _ _
   | exact ih2 _ _ _ _ _ _ _ _ _ _ _ _ _
   | exact ih3 _ _ _ _ _ _ _ _ _ _ _ _ _
   | exact ih4 _ _ _ _ _ _ _ _ _ _ _ _ _
   | exact LeO.none _
   | refine LeO.ite ?_ ?_
   | refine LeO.bind ?_ (fun _ => ?_)
  ·intro y0 y1 y2 y3 y4 y5 y6 y7 y8 y9 y10 y11 y12
   unfold vinculumref13_inside.j4
   repeat' first
   | (with_reducible exact ih0 _ _ _ _ _ _ _ _ _ _ _ _ _ _)
   | (with_reducible exact ih1 _ _ _ _ _ _ _ _ _ _ _ _ _)
   | (with_reducible exact ih2 _ _ _ _ _ _ _ _ _ _ _ _ _)
   | (with_reducible exact ih3 _ _ _ _ _ _ _ _ _ _ _ _ _)
   | (with_reducible exact ih4 _ _ _ _ _ _ _ _ _ _ _ _ _)
   | (with_reducible exact LeO.refl _)
   | (with_reducible exact LeO.none _)
   | (with_reducible refine LeO.ite ?_ ?_)
   | (with_reducible refine LeO.bind ?_ (fun _ => ?_))
   | exact ih0 _ _ _ _ _ _ _ _ _ _ _ _ _ _
   | exact ih1 _ _ _ _ _ _ _ _ _ _ _ _ _
   | exact ih2 _ _ _ _ _ _ _ _ _ _ _ _ _
   | exact ih3 _ _ _ _ _ _ _ _ _ _ _ _ _
   | exact ih4 _ _ _ _ _ _ _ _ _ _ _ _ _
   | exact LeO.none _
   | refine LeO.ite ?_ ?_
   | refine LeO.bind ?_ (fun _ => ?_)
theorem vinculumref13_inside.mono : ∀ a0 a1 a2 a3 a4 a5 a6 a7 a8 a9 a10 k, LeO (vinculumref13_inside.f k a0 a1 a2 a3 a4 a5 a6 a7 a8 a9 a10) (vinculumref13_inside.f (k + 1) a0 a1 a2 a3 a4 a5 a6 a7 a8 a9 a10) := by
 intro a0 a1 a2 a3 a4 a5 a6 a7 a8 a9 a10 k
 obtain ⟨ih0, ih1, ih2, ih3, ih4⟩ := vinculumref13_inside.mono_l k
 unfold vinculumref13_inside.f
 repeat' first
   | (with_reducible exact ih0 _ _ _ _ _ _ _ _ _ _ _ _ _ _)
   | (with_reducible exact ih1 _ _ _ _ _ _ _ _ _ _ _ _ _)
   | (with_reducible exact ih2 _ _ _ _ _ _ _ _ _ _ _ _ _)
   | (with_reducible exact ih3 _ _ _ _ _ _ _ _ _ _ _ _ _)
   | (with_reducible exact ih4 _ _ _ _ _ _ _ _ _ _ _ _ _)
   | (with_reducible exact LeO.refl _)
   | (with_reducible exact LeO.none _)
   | (with_reducible refine LeO.ite ?_ ?_)
   | (with_reducible refine LeO.bind ?_ (fun _ => ?_))
   | exact ih0 _ _ _ _ _ _ _ _ _ _ _ _ _ _
   | exact ih1 _ _ _ _ _ _ _ _ _ _ _ _ _
   | exact ih2 _ _ _ _ _ _ _ _ _ _ _ _ _
   | exact ih3 _ _ _ _ _ _ _ _ _ _ _ _ _
   | exact ih4 _ _ _ _ _ _ _ _ _ _ _ _ _
   | exact LeO.none _
   | refine LeO.ite ?_ ?_
   | refine LeO.bind ?_ (fun _ => ?_)
def vinculumref13_inside.T19 : Bool × List (List Nat × List Nat) := (true, [([], []), ([0], [0]), ([], []), ([2], [2]), ([3], [3]), ([1, 4], [1, 4]), ([5], [5]), ([], []), ([7], [7]), ([6, 8], [6, 8]), ([9, 9, 0, 1, 2, 3, 4, 5, 6, 7, 8, 9], [9])])
def vinculumref13_inside.B19 : List Nat := [0, 1, 0, 4, 12, 31, 63, 0, 128, 511, 1023]
theorem vinculumref13_inside.tab19 : rtab .any (opsOf Try.f47 19) = vinculumref13_inside.T19 := by kernel_rfl
theorem vinculumref13_inside.bits19 : zaS vinculumref13_inside.T19.2 vinculumref13_inside.B19 = true := by kernel_rfl
set_option maxHeartbeats 8000000 in
set_option maxRecDepth 100000 in
theorem vinculumref13_inside.calls (k : Nat) (a0_0 : Int) (A0_1 : Option Addr) (c0_1 : Nat) (l0_1 : List Int) (a0_2 : Int) (a0_3 : Int) (A0_4 : Option Addr) (c0_4 : Nat) (l0_4 : List (S24)) (a0_5 : Int) (a0_6 : ByteArray) (a0_7 : ByteArray) (a1 : Int) (a2 : Int) (A3 : Option Addr) (c3 : Nat) (l3 : List Int) (r : List Int) (w : World) (hr0_1 : Kd.C (Kd.int .i64) w A0_1 l0_1.length l0_1) (hc0_1 : l0_1.length ≤ c0_1) (hr0_4 : Kd.C k24 w A0_4 l0_4.length l0_4) (hc0_4 : l0_4.length ≤ c0_4) (hr3 : Kd.C (Kd.int .i64) w A3 l3.length l3) (hc3 : l3.length ≤ c3) (h : vinculumref13_inside.f k a0_0 l0_1 a0_2 a0_3 l0_4 a0_5 a0_6 a0_7 a1 a2 l3 = some r) :
  Calls Try.prog 47 #[.agg #[.int .i64 a0_0, .slice A0_1 l0_1.length c0_1, .int .i64 a0_2, .int .i64 a0_3, .slice A0_4 l0_4.length c0_4, .int .i64 a0_5, .string a0_6, .string a0_7], .int .i64 a1, .int .i64 a2, .slice A3 l3.length c3] w fun e w' => ∃ v0_ : Value, e = .returned (v0_) ∧ Kd.R (Kd.int .i64) 3 w' w.heap.size (fun _ => True) v0_ r ∧ Below w.heap.size w w' := by
 have hu27 := Try.underlying27
 have HR0_1 := zab.mk hr0_1
 have HC0_1 := zab.mk hc0_1
 clear hr0_1 hc0_1
 have HR0_4 := zab.mk hr0_4
 have HC0_4 := zab.mk hc0_4
 clear hr0_4 hc0_4
 have HR3 := zab.mk hr3
 have HC3 := zab.mk hc3
 clear hr3 hc3
 have HB := zab.mk (Below.refl w.heap.size w)
 have H : ((some (([a1] : List Int) : List Int)).bind fun y591 => (if a1 < a0_2 then (if y591.length < 17592186044416 then ((some (y591 ++ [a2] : List Int)).bind fun y594 => (if y594.length + l3.length < 17592186044416 then (some (y594 ++ l3)) else (none))) else (none)) else (if a0_0 = 1 then ((some (([wrap64 (a1 + (l0_4.length : Int))] : List Int) : List Int)).bind fun y600 => (if y600.length < 17592186044416 then ((some (y600 ++ [a2] : List Int)).bind fun y603 => (if y603.length + l3.length < 17592186044416 then (some (y603 ++ l3)) else (none))) else (none))) else (if a0_0 = 2 then (vinculumref13_inside.j0 k a1 a2 l3 (l0_4.length : Int) y591 (decide (a1 < (wrap64 (a0_2 + (l0_4.length : Int))))) a0_0 l0_1 a0_2 a0_3 l0_4 a0_5 a0_6 a0_7) else (vinculumref13_inside.j0 k a1 a2 l3 (l0_4.length : Int) y591 false a0_0 l0_1 a0_2 a0_3 l0_4 a0_5 a0_6 a0_7))))) = some r := h
 clear h
 obtain ⟨y591, hy591⟩ : ∃ y_ : List Int, y_ = (([a1] : List Int)) := ⟨_, rfl⟩
 replace H : (if a1 < a0_2 then (if y591.length < 17592186044416 then ((some (y591 ++ [a2] : List Int)).bind fun y594 => (if y594.length + l3.length < 17592186044416 then (some (y594 ++ l3)) else (none))) else (none)) else (if a0_0 = 1 then ((some (([wrap64 (a1 + (l0_4.length : Int))] : List Int) : List Int)).bind fun y600 => (if y600.length < 17592186044416 then ((some (y600 ++ [a2] : List Int)).bind fun y603 => (if y603.length + l3.length < 17592186044416 then (some (y603 ++ l3)) else (none))) else (none))) else (if a0_0 = 2 then (vinculumref13_inside.j0 k a1 a2 l3 (l0_4.length : Int) y591 (decide (a1 < (wrap64 (a0_2 + (l0_4.length : Int))))) a0_0 l0_1 a0_2 a0_3 l0_4 a0_5 a0_6 a0_7) else (vinculumref13_inside.j0 k a1 a2 l3 (l0_4.length : Int) y591 false a0_0 l0_1 a0_2 a0_3 l0_4 a0_5 a0_6 a0_7)))) = some r := by first | (rw [hy591]; with_reducible exact H) | (have H2_ := (Option.bind_some _ _).symm.trans H; rw [hy591]; with_reducible exact H2_) | (have H2_ := (Option.bind_some _ _).symm.trans H; with_reducible exact H2_) | with_reducible exact H | (rw [hy591]; exact H) | exact H
 have Ny591 := zab.mk hy591
 clear hy591
 by_cases c5 : a1 < a0_2
 ·rw [if_pos c5] at H
  have c5b0 : decide (a1 < a0_2) = true := decide_eq_true c5
  clear c5
  by_cases c6 : y591.length < 17592186044416
  ·rw [if_pos c6] at H
   have LMc6 := zab.mk c6
   clear c6
   obtain ⟨y594, hy594⟩ : ∃ y_ : List Int, y_ = (y591 ++ [a2]) := ⟨_, rfl⟩
   replace H : (if y594.length + l3.length < 17592186044416 then (some (y594 ++ l3)) else (none)) = some r := by first | (rw [hy594]; with_reducible exact H) | (have H2_ := (Option.bind_some _ _).symm.trans H; rw [hy594]; with_reducible exact H2_) | (have H2_ := (Option.bind_some _ _).symm.trans H; with_reducible exact H2_) | with_reducible exact H | (rw [hy594]; exact H) | exact H
   have Ny594 := zab.mk hy594
   clear hy594
   by_cases c7 : y594.length + l3.length < 17592186044416
   ·rw [if_pos c7] at H
    have LMc7 := zab.mk c7
    clear c7
    obtain ⟨y597, hy597⟩ : ∃ y_ : List Int, y_ = (y594 ++ l3) := ⟨_, rfl⟩
    replace H : (some y597) = some r := by first | (rw [hy597]; with_reducible exact H) | (have H2_ := (Option.bind_some _ _).symm.trans H; rw [hy597]; with_reducible exact H2_) | (have H2_ := (Option.bind_some _ _).symm.trans H; with_reducible exact H2_) | with_reducible exact H | (rw [hy597]; exact H) | exact H
    have Ny597 := zab.mk hy597
    clear hy597
    obtain rfl := Option.some.inj H
    go_enter Try.func47, Try.ntmps47
    go_wp2_with (first | ((with_reducible refine zaq (N := 4) rfl ?_); refine zas ?hg (N := 4) ?hd (cs := #[.int .i64 a0_0, .slice A0_1 l0_1.length c0_1, .int .i64 a0_2, .int .i64 a0_3, .slice A0_4 l0_4.length c0_4, .int .i64 a0_5, .string a0_6, .string a0_7]) (t := 27) ?hr ?_; (case hd => rfl); (case hg => rfl); (case hr => first | (go_simp; done) | (go_simp; rfl)); intro gb590 hg w8 hbox hb; have n0_ := zab.mk (zal (by repeat (first | (with_reducible first | exact HB.o | apply zad | apply zaf | apply zae) | exact HB.o)) hb); have n1_ := zab.mk (hbox); have n2_ := zab.mk ((by rw [hg]; exact (zak (by repeat (first | (with_reducible first | exact HB.o | apply zad | apply zaf | apply zae) | exact HB.o))) : w.heap.size ≤ gb590)); have n3_ := zab.mk ((by rw [hg]; exact (zak (by repeat (first | (with_reducible first | exact HB.o | apply zad | apply zaf | apply zae) | exact HB.o))) : w.heap.size ≤ gb590)); clear HB; have HB := n0_; have BK590 := n1_; have GW590 := n2_; have GE590 := n3_; clear n0_ n1_ n2_ n3_; clear hb hbox hg; obtain ⟨hcz9_0, hcz9_1, hcz9_2, hcz9_3, hcz9_4, hcz9_5, hcz9_6, hcz9_7⟩ := cz8 BK590.o; obtain ⟨hfz9_0, hfz9_1, hfz9_2, hfz9_3, hfz9_4, hfz9_5, hfz9_6, hfz9_7⟩ := fz8 BK590.o) | ((with_reducible refine zaq (N := 15) rfl ?_); refine Kd.R_lit (Kd.int .i64) _ 3 ?hg (N := 15) ?hd (xs := ([a1] : List Int)) (inner := [.int .i64 a1]) (ok := fun _ => True) (okp := fun _ => True) ?hr ?hp (fun _ hk => hk) trivial (Below.refl _ _) (Nat.le_refl _) (by simp) ?_; (case hd => rfl); (case hg => rfl); (case hr => first | (go_simp; done) | (go_simp; rfl)); (case hp => exact (Reps.one (show Kd.M (Kd.int .i64) _ _ _ a1 [.int .i64 a1] from rfl) (Reps.none _ _))); intro v592 w10 ho11 hb hg_ hnew_; clear hg_ hnew_; (first | rw [← Ny591.out] at ho11 | (simp only [Int.reduceToNat] at ho11; rw [← Ny591.out] at ho11)); have n0_ := zab.mk (Kd.R_lower ho11 (zak (by repeat (first | (with_reducible first | exact HB.o | apply zad | apply zaf | apply zae | refine zag ?_ GE590.o) | exact HB.o)))); have n1_ := zab.mk (zam (by (with_reducible repeat (first | refine zaj ?_ _ | refine zah ?_ | refine zai ?_ _)); exact BK590.o) hb); have n2_ := zab.mk (zal (by repeat (first | (with_reducible first | exact HB.o | apply zad | apply zaf | apply zae | refine zag ?_ GE590.o) | exact HB.o)) hb); clear BK590; clear HB; have HO593 := n0_; have BK590 := n1_; have HB := n2_; clear n0_ n1_ n2_; clear hb ho11; obtain ⟨hcz12_0, hcz12_1, hcz12_2, hcz12_3, hcz12_4, hcz12_5, hcz12_6, hcz12_7⟩ := cz8 BK590.o; obtain ⟨hfz12_0, hfz12_1, hfz12_2, hfz12_3, hfz12_4, hfz12_5, hfz12_6, hfz12_7⟩ := fz8 BK590.o) | ((with_reducible refine zaM (b := .append) (xs := #[.tmp 155, .tmp 157]) rfl ?_); at_builtin; refine Kd.R_append (Kd.int .i64) (w0 := w) w.heap.size rfl (.tmp 155) (.tmp 157) 25 3 (.int .i64 0) 8 rfl Try.underlying25 info3 rfl (by decide) (by omega) v592 y591 a2 [.int .i64 a2] (fun _ => True) (fun _ => False) rfl rfl ?aP (fun _ hk => hk.elim) ?aF ?aO ?aB ?aS ?aL ?_; (case aP => exact rfl); (case aB => exact (by repeat (first | (with_reducible first | exact HB.o | apply zad | apply zaf | apply zae | refine zag ?_ GE590.o) | exact HB.o))); (case aF => exact (fun _ _ => trivial)); (case aO => exact (by (with_reducible repeat (first | apply Kd.R_alloc | apply Kd.R_drewN | apply Kd.R_drew)); exact HO593.o)); (case aS => exact (zak (by repeat (first | (with_reducible first | exact HB.o | apply zad | apply zaf | apply zae | refine zag ?_ GE590.o) | exact HB.o)))); (case aL => have := LMc6.out; omega); intro v595 w13 ho hb hg hat; rw [← Ny594.out] at ho; have n0_ := zab.mk (zaK (by (with_reducible repeat (first | refine zaj ?_ _ | refine zah ?_ | refine zai ?_ _)); exact BK590.o) hg (Kd.R_ne HO593.o BK590.o (by decide))); have n1_ := zab.mk (hb); have n2_ := zab.mk (ho); clear BK590; clear HB; clear HO593; have BK590 := n0_; have HB := n1_; have HO596 := n2_; clear n0_ n1_ n2_; clear ho hb hg hat) | ((with_reducible refine zaM (b := .append) (xs := #[.tmp 158, .tmp 159]) rfl ?_); at_builtin; refine Kd.R_append_rows (Kd.int .i64) (w0 := w) w.heap.size rfl (.tmp 158) (.tmp 159) 25 3 (.int .i64 0) 8 rfl Try.underlying25 info3 rfl (by decide) (by omega) v595 y594 l3 _ _ _ (fun _ => True) (fun _ => False) rfl rfl ?aO ?aR (fun _ _ h => h) (fun _ h => h.elim) ?aF ?aB ?aS ?aL ?_; (case aR => repeat (first | exact (Kd.C_below HR3.o HB.o) | (with_reducible first | refine Kd.C_alloc ?_ _ | refine Kd.C_drewN ?_ _ | refine Kd.C_drew ?_))); (case aB => exact (by repeat (first | (with_reducible first | exact HB.o | apply zad | apply zaf | apply zae | refine zag ?_ GE590.o) | exact HB.o))); (case aF => exact (fun _ _ => trivial)); (case aO => exact (by (with_reducible repeat (first | apply Kd.R_alloc | apply Kd.R_drewN | apply Kd.R_drew)); exact HO596.o)); (case aS => exact (zak (by repeat (first | (with_reducible first | exact HB.o | apply zad | apply zaf | apply zae | refine zag ?_ GE590.o) | exact HB.o)))); (case aL => have := LMc7.out; omega); intro v598 w14 ho hb hg hat; rw [← Ny597.out] at ho; have n0_ := zab.mk (zaK (by (with_reducible repeat (first | refine zaj ?_ _ | refine zah ?_ | refine zai ?_ _)); exact BK590.o) hg (Kd.R_ne HO596.o BK590.o (by decide))); have n1_ := zab.mk (hb); have n2_ := zab.mk (ho); clear BK590; clear HB; clear HO596; have BK590 := n0_; have HB := n1_; have HO599 := n2_; clear n0_ n1_ n2_; clear ho hb hg hat))
    go_ret
    exact ⟨_, by first | rfl | (simp [errW_none, errW_some] <;> rfl) | (simp [*, errW_none, errW_some] <;> rfl), by (with_reducible repeat (first | apply Kd.R_alloc | apply Kd.R_drewN | apply Kd.R_drew)); exact HO599.o, by repeat (first | (with_reducible first | exact HB.o | apply zad | apply zaf | apply zae | refine zag ?_ GE590.o) | exact HB.o)⟩
   ·rw [if_neg c7] at H
    exact absurd H (by simp)
  ·rw [if_neg c6] at H
   exact absurd H (by simp)
 ·rw [if_neg c5] at H
  have c5b0 : decide (a1 < a0_2) = false := decide_eq_false c5
  clear c5
  by_cases c15 : a0_0 = 1
  ·rw [if_pos c15] at H
   have c15b0 : (a0_0 == 1) = true := beq_iff_eq.mpr c15
   have c15b1 : (a0_0 != 1) = false := bne_eq_false_iff_eq.mpr c15
   clear c15
   obtain ⟨y600, hy600⟩ : ∃ y_ : List Int, y_ = (([wrap64 (a1 + (l0_4.length : Int))] : List Int)) := ⟨_, rfl⟩
   replace H : (if y600.length < 17592186044416 then ((some (y600 ++ [a2] : List Int)).bind fun y603 => (if y603.length + l3.length < 17592186044416 then (some (y603 ++ l3)) else (none))) else (none)) = some r := by first | (rw [hy600]; with_reducible exact H) | (have H2_ := (Option.bind_some _ _).symm.trans H; rw [hy600]; with_reducible exact H2_) | (have H2_ := (Option.bind_some _ _).symm.trans H; with_reducible exact H2_) | with_reducible exact H | (rw [hy600]; exact H) | exact H
   have Ny600 := zab.mk hy600
   clear hy600
   by_cases c16 : y600.length < 17592186044416
   ·rw [if_pos c16] at H
    have LMc16 := zab.mk c16
    clear c16
    obtain ⟨y603, hy603⟩ : ∃ y_ : List Int, y_ = (y600 ++ [a2]) := ⟨_, rfl⟩
    replace H : (if y603.length + l3.length < 17592186044416 then (some (y603 ++ l3)) else (none)) = some r := by first | (rw [hy603]; with_reducible exact H) | (have H2_ := (Option.bind_some _ _).symm.trans H; rw [hy603]; with_reducible exact H2_) | (have H2_ := (Option.bind_some _ _).symm.trans H; with_reducible exact H2_) | with_reducible exact H | (rw [hy603]; exact H) | exact H
    have Ny603 := zab.mk hy603
    clear hy603
    by_cases c17 : y603.length + l3.length < 17592186044416
    ·rw [if_pos c17] at H
     have LMc17 := zab.mk c17
     clear c17
     obtain ⟨y606, hy606⟩ : ∃ y_ : List Int, y_ = (y603 ++ l3) := ⟨_, rfl⟩
     replace H : (some y606) = some r := by first | (rw [hy606]; with_reducible exact H) | (have H2_ := (Option.bind_some _ _).symm.trans H; rw [hy606]; with_reducible exact H2_) | (have H2_ := (Option.bind_some _ _).symm.trans H; with_reducible exact H2_) | with_reducible exact H | (rw [hy606]; exact H) | exact H
     have Ny606 := zab.mk hy606
     clear hy606
     obtain rfl := Option.some.inj H
     go_enter Try.func47, Try.ntmps47
     go_wp2_with (first | ((with_reducible refine zaq (N := 4) rfl ?_); refine zas ?hg (N := 4) ?hd (cs := #[.int .i64 a0_0, .slice A0_1 l0_1.length c0_1, .int .i64 a0_2, .int .i64 a0_3, .slice A0_4 l0_4.length c0_4, .int .i64 a0_5, .string a0_6, .string a0_7]) (t := 27) ?hr ?_; (case hd => rfl); (case hg => rfl); (case hr => first | (go_simp; done) | (go_simp; rfl)); intro gb590 hg w18 hbox hb; have n0_ := zab.mk (zal (by repeat (first | (with_reducible first | exact HB.o | apply zad | apply zaf | apply zae) | exact HB.o)) hb); have n1_ := zab.mk (hbox); have n2_ := zab.mk ((by rw [hg]; exact (zak (by repeat (first | (with_reducible first | exact HB.o | apply zad | apply zaf | apply zae) | exact HB.o))) : w.heap.size ≤ gb590)); have n3_ := zab.mk ((by rw [hg]; exact (zak (by repeat (first | (with_reducible first | exact HB.o | apply zad | apply zaf | apply zae) | exact HB.o))) : w.heap.size ≤ gb590)); clear HB; have HB := n0_; have BK590 := n1_; have GW590 := n2_; have GE590 := n3_; clear n0_ n1_ n2_ n3_; clear hb hbox hg; obtain ⟨hcz19_0, hcz19_1, hcz19_2, hcz19_3, hcz19_4, hcz19_5, hcz19_6, hcz19_7⟩ := cz8 BK590.o; obtain ⟨hfz19_0, hfz19_1, hfz19_2, hfz19_3, hfz19_4, hfz19_5, hfz19_6, hfz19_7⟩ := fz8 BK590.o) | ((with_reducible refine zaq (N := 15) rfl ?_); refine Kd.R_lit (Kd.int .i64) _ 3 ?hg (N := 15) ?hd (xs := ([a1] : List Int)) (inner := [.int .i64 a1]) (ok := fun _ => True) (okp := fun _ => True) ?hr ?hp (fun _ hk => hk) trivial (Below.refl _ _) (Nat.le_refl _) (by simp) ?_; (case hd => rfl); (case hg => rfl); (case hr => first | (go_simp; done) | (go_simp; rfl)); (case hp => exact (Reps.one (show Kd.M (Kd.int .i64) _ _ _ a1 [.int .i64 a1] from rfl) (Reps.none _ _))); intro v592 w20 ho21 hb hg_ hnew_; clear hg_ hnew_; (first | rw [← Ny591.out] at ho21 | (simp only [Int.reduceToNat] at ho21; rw [← Ny591.out] at ho21)); have n0_ := zab.mk (Kd.R_lower ho21 (zak (by repeat (first | (with_reducible first | exact HB.o | apply zad | apply zaf | apply zae | refine zag ?_ GE590.o) | exact HB.o)))); have n1_ := zab.mk (zam (by (with_reducible repeat (first | refine zaj ?_ _ | refine zah ?_ | refine zai ?_ _)); exact BK590.o) hb); have n2_ := zab.mk (zal (by repeat (first | (with_reducible first | exact HB.o | apply zad | apply zaf | apply zae | refine zag ?_ GE590.o) | exact HB.o)) hb); clear BK590; clear HB; have HO593 := n0_; have BK590 := n1_; have HB := n2_; clear n0_ n1_ n2_; clear hb ho21; obtain ⟨hcz22_0, hcz22_1, hcz22_2, hcz22_3, hcz22_4, hcz22_5, hcz22_6, hcz22_7⟩ := cz8 BK590.o; obtain ⟨hfz22_0, hfz22_1, hfz22_2, hfz22_3, hfz22_4, hfz22_5, hfz22_6, hfz22_7⟩ := fz8 BK590.o) | ((with_reducible refine zaq (N := 28) rfl ?_); refine Kd.R_lit (Kd.int .i64) _ 3 ?hg (N := 28) ?hd (xs := ([wrap64 (a1 + (l0_4.length : Int))] : List Int)) (inner := [.int .i64 (wrap64 (a1 + (l0_4.length : Int)))]) (ok := fun _ => True) (okp := fun _ => True) ?hr ?hp (fun _ hk => hk) trivial (Below.refl _ _) (Nat.le_refl _) (by simp) ?_; (case hd => rfl); (case hg => rfl); (case hr => first | (go_simp; done) | (go_simp; rfl)); (case hp => exact (Reps.one (show Kd.M (Kd.int .i64) _ _ _ (wrap64 (a1 + (l0_4.length : Int))) [.int .i64 (wrap64 (a1 + (l0_4.length : Int)))] from rfl) (Reps.none _ _))); intro v601 w23 ho24 hb hg_ hnew_; clear hg_ hnew_; (first | rw [← Ny600.out] at ho24 | (simp only [Int.reduceToNat] at ho24; rw [← Ny600.out] at ho24)); have n0_ := zab.mk (Kd.R_elder' (by (with_reducible repeat (first | apply Kd.R_alloc | apply Kd.R_drewN | apply Kd.R_drew)); exact HO593.o) (Kd.R_base ho24) hb); have n1_ := zab.mk (Kd.R_lower (Kd.R_new' ho24 (Kd.R_lt (by (with_reducible repeat (first | apply Kd.R_alloc | apply Kd.R_drewN | apply Kd.R_drew)); exact HO593.o))) (zak (by repeat (first | (with_reducible first | exact HB.o | apply zad | apply zaf | apply zae | refine zag ?_ GE590.o) | exact HB.o)))); have n2_ := zab.mk (zam (by (with_reducible repeat (first | refine zaj ?_ _ | refine zah ?_ | refine zai ?_ _)); exact BK590.o) hb); have n3_ := zab.mk (zal (by repeat (first | (with_reducible first | exact HB.o | apply zad | apply zaf | apply zae | refine zag ?_ GE590.o) | exact HB.o)) hb); clear HO593; clear BK590; clear HB; have HO593 := n0_; have HO602 := n1_; have BK590 := n2_; have HB := n3_; clear n0_ n1_ n2_ n3_; clear hb ho24) | ((with_reducible refine zaM (b := .append) (xs := #[.tmp 155, .tmp 157]) rfl ?_); at_builtin; refine Kd.R_append (Kd.int .i64) (w0 := w) w.heap.size rfl (.tmp 155) (.tmp 157) 25 3 (.int .i64 0) 8 rfl Try.underlying25 info3 rfl (by decide) (by omega) v601 y600 a2 [.int .i64 a2] (fun k_ => some k_ ≠ (v592 : Value).ownBlock) (fun _ => False) rfl rfl ?aP (fun _ hk => hk.elim) ?aF ?aO ?aB ?aS ?aL ?_; (case aP => exact rfl); (case aB => exact (by repeat (first | (with_reducible first | exact HB.o | apply zad | apply zaf | apply zae | refine zag ?_ GE590.o) | exact HB.o))); (case aF => exact (fun k_ hk => Kd.fresh' (Kd.R_lt (by (with_reducible repeat (first | apply Kd.R_alloc | apply Kd.R_drewN | apply Kd.R_drew)); exact HO593.o)) k_ hk)); (case aO => exact (by (with_reducible repeat (first | apply Kd.R_alloc | apply Kd.R_drewN | apply Kd.R_drew)); exact Kd.R_mono HO602.o (fun _ hk => hk.2))); (case aS => exact (zak (by repeat (first | (with_reducible first | exact HB.o | apply zad | apply zaf | apply zae | refine zag ?_ GE590.o) | exact HB.o)))); (case aL => have := LMc16.out; omega); intro v604 w25 ho hb hg hat; rw [← Ny603.out] at ho; have n0_ := zab.mk (zaK (by (with_reducible repeat (first | refine zaj ?_ _ | refine zah ?_ | refine zai ?_ _)); exact BK590.o) hg (Kd.R_ne HO602.o BK590.o (by decide))); have n1_ := zab.mk (Kd.R_after (ok := (fun _ => True)) (by (with_reducible repeat (first | apply Kd.R_alloc | apply Kd.R_drewN | apply Kd.R_drew)); exact HO593.o) hg hat); have n2_ := zab.mk (hb); have n3_ := zab.mk (ho); clear BK590; clear HO593; clear HB; clear HO602; have BK590 := n0_; have HO593 := n1_; have HB := n2_; have HO605 := n3_; clear n0_ n1_ n2_ n3_; clear ho hb hg hat) | ((with_reducible refine zaM (b := .append) (xs := #[.tmp 158, .tmp 159]) rfl ?_); at_builtin; refine Kd.R_append_rows (Kd.int .i64) (w0 := w) w.heap.size rfl (.tmp 158) (.tmp 159) 25 3 (.int .i64 0) 8 rfl Try.underlying25 info3 rfl (by decide) (by omega) v604 y603 l3 _ _ _ (fun k_ => some k_ ≠ (v592 : Value).ownBlock) (fun _ => False) rfl rfl ?aO ?aR (fun _ _ h => h) (fun _ h => h.elim) ?aF ?aB ?aS ?aL ?_; (case aR => repeat (first | exact (Kd.C_below HR3.o HB.o) | (with_reducible first | refine Kd.C_alloc ?_ _ | refine Kd.C_drewN ?_ _ | refine Kd.C_drew ?_))); (case aB => exact (by repeat (first | (with_reducible first | exact HB.o | apply zad | apply zaf | apply zae | refine zag ?_ GE590.o) | exact HB.o))); (case aF => exact (fun k_ hk => Kd.fresh' (Kd.R_lt (by (with_reducible repeat (first | apply Kd.R_alloc | apply Kd.R_drewN | apply Kd.R_drew)); exact HO593.o)) k_ hk)); (case aO => exact (by (with_reducible repeat (first | apply Kd.R_alloc | apply Kd.R_drewN | apply Kd.R_drew)); exact HO605.o)); (case aS => exact (zak (by repeat (first | (with_reducible first | exact HB.o | apply zad | apply zaf | apply zae | refine zag ?_ GE590.o) | exact HB.o)))); (case aL => have := LMc17.out; omega); intro v607 w26 ho hb hg hat; rw [← Ny606.out] at ho; have n0_ := zab.mk (zaK (by (with_reducible repeat (first | refine zaj ?_ _ | refine zah ?_ | refine zai ?_ _)); exact BK590.o) hg (Kd.R_ne HO605.o BK590.o (by decide))); have n1_ := zab.mk (Kd.R_after (ok := (fun _ => True)) (by (with_reducible repeat (first | apply Kd.R_alloc | apply Kd.R_drewN | apply Kd.R_drew)); exact HO593.o) hg hat); have n2_ := zab.mk (hb); have n3_ := zab.mk (ho); clear BK590; clear HO593; clear HB; clear HO605; have BK590 := n0_; have HO593 := n1_; have HB := n2_; have HO608 := n3_; clear n0_ n1_ n2_ n3_; clear ho hb hg hat))
     go_ret
     exact ⟨_, by first | rfl | (simp [errW_none, errW_some] <;> rfl) | (simp [*, errW_none, errW_some] <;> rfl), by (with_reducible repeat (first | apply Kd.R_alloc | apply Kd.R_drewN | apply Kd.R_drew)); exact Kd.R_mono HO608.o (fun _ hk => trivial), by repeat (first | (with_reducible first | exact HB.o | apply zad | apply zaf | apply zae | refine zag ?_ GE590.o) | exact HB.o)⟩
    ·rw [if_neg c17] at H
     exact absurd H (by simp)
   ·rw [if_neg c16] at H
    exact absurd H (by simp)
  ·rw [if_neg c15] at H
   have c15b0 : (a0_0 == 1) = false := beq_eq_false_iff_ne.mpr c15
   have c15b1 : (a0_0 != 1) = true := bne_iff_ne.mpr c15
   have HC27 := zab.mk H
   clear H
   go_enter Try.func47, Try.ntmps47
   go_upto_region 6 with (first | ((with_reducible refine zaq (N := 4) rfl ?_); refine zas ?hg (N := 4) ?hd (cs := #[.int .i64 a0_0, .slice A0_1 l0_1.length c0_1, .int .i64 a0_2, .int .i64 a0_3, .slice A0_4 l0_4.length c0_4, .int .i64 a0_5, .string a0_6, .string a0_7]) (t := 27) ?hr ?_; (case hd => rfl); (case hg => rfl); (case hr => first | (go_simp; done) | (go_simp; rfl)); intro gb590 hg w28 hbox hb; have n0_ := zab.mk (zal (by repeat (first | (with_reducible first | exact HB.o | apply zad | apply zaf | apply zae) | exact HB.o)) hb); have n1_ := zab.mk (hbox); have n2_ := zab.mk ((by rw [hg]; exact (zak (by repeat (first | (with_reducible first | exact HB.o | apply zad | apply zaf | apply zae) | exact HB.o))) : w.heap.size ≤ gb590)); have n3_ := zab.mk ((by rw [hg]; exact (zak (by repeat (first | (with_reducible first | exact HB.o | apply zad | apply zaf | apply zae) | exact HB.o))) : w.heap.size ≤ gb590)); clear HB; have HB := n0_; have BK590 := n1_; have GW590 := n2_; have GE590 := n3_; clear n0_ n1_ n2_ n3_; clear hb hbox hg; obtain ⟨hcz29_0, hcz29_1, hcz29_2, hcz29_3, hcz29_4, hcz29_5, hcz29_6, hcz29_7⟩ := cz8 BK590.o; obtain ⟨hfz29_0, hfz29_1, hfz29_2, hfz29_3, hfz29_4, hfz29_5, hfz29_6, hfz29_7⟩ := fz8 BK590.o) | ((with_reducible refine zaq (N := 15) rfl ?_); refine Kd.R_lit (Kd.int .i64) _ 3 ?hg (N := 15) ?hd (xs := ([a1] : List Int)) (inner := [.int .i64 a1]) (ok := fun _ => True) (okp := fun _ => True) ?hr ?hp (fun _ hk => hk) trivial (Below.refl _ _) (Nat.le_refl _) (by simp) ?_; (case hd => rfl); (case hg => rfl); (case hr => first | (go_simp; done) | (go_simp; rfl)); (case hp => exact (Reps.one (show Kd.M (Kd.int .i64) _ _ _ a1 [.int .i64 a1] from rfl) (Reps.none _ _))); intro v592 w30 ho31 hb hg_ hnew_; clear hg_ hnew_; (first | rw [← Ny591.out] at ho31 | (simp only [Int.reduceToNat] at ho31; rw [← Ny591.out] at ho31)); have n0_ := zab.mk (Kd.R_lower ho31 (zak (by repeat (first | (with_reducible first | exact HB.o | apply zad | apply zaf | apply zae | refine zag ?_ GE590.o) | exact HB.o)))); have n1_ := zab.mk (zam (by (with_reducible repeat (first | refine zaj ?_ _ | refine zah ?_ | refine zai ?_ _)); exact BK590.o) hb); have n2_ := zab.mk (zal (by repeat (first | (with_reducible first | exact HB.o | apply zad | apply zaf | apply zae | refine zag ?_ GE590.o) | exact HB.o)) hb); clear BK590; clear HB; have HO593 := n0_; have BK590 := n1_; have HB := n2_; clear n0_ n1_ n2_; clear hb ho31; obtain ⟨hcz32_0, hcz32_1, hcz32_2, hcz32_3, hcz32_4, hcz32_5, hcz32_6, hcz32_7⟩ := cz8 BK590.o; obtain ⟨hfz32_0, hfz32_1, hfz32_2, hfz32_3, hfz32_4, hfz32_5, hfz32_6, hfz32_7⟩ := fz8 BK590.o))
   (try simp only [Act.put, List.setIfInBounds_toArray, List.set_cons_zero, List.set_cons_succ])
   go_cut [29] (fun v29 wc => ∃ (kq : Nat) (x29_26 : Bool), v29 = .bool x29_26 ∧ zab (vinculumref13_inside.j0 kq a1 a2 l3 (l0_4.length : Int) y591 x29_26 a0_0 l0_1 a0_2 a0_3 l0_4 a0_5 a0_6 a0_7 = some r) ∧ zab (kq ≤ k) ∧ zab (Kd.R (Kd.int .i64) 3 wc w.heap.size (fun _ => True) v592 y591) ∧ zab (wc.heap[gb590]? = some (.cells #[.int .i64 a0_0, (.slice A0_1 l0_1.length c0_1), .int .i64 a0_2, .int .i64 a0_3, (.slice A0_4 l0_4.length c0_4), .int .i64 a0_5, .string a0_6, .string a0_7] 27 (0, 0))) ∧ zab (Below w.heap.size w wc))
   case first =>
    have H := HC27.out
    clear HC27
    by_cases c33 : a0_0 = 2
    ·rw [if_pos c33] at H
     have c33b0 : (a0_0 == 2) = true := beq_iff_eq.mpr c33
     have c33b1 : (a0_0 != 2) = false := bne_eq_false_iff_eq.mpr c33
     clear c33
     (first | rw [c33b0] | (simp only [i64_w, i32_w]; rw [c33b0]) | skip)
     have H' := zab.mk H
     clear H
     have hcz34_0 : w30.cell? ⟨gb590, 0, none⟩ = some (.int .i64 a0_0) := (zaa BK590.o 0).trans rfl
     have hcz34_1 : w30.cell? ⟨gb590, 1, none⟩ = some (.slice A0_1 l0_1.length c0_1) := (zaa BK590.o 1).trans rfl
     have hcz34_2 : w30.cell? ⟨gb590, 2, none⟩ = some (.int .i64 a0_2) := (zaa BK590.o 2).trans rfl
     have hcz34_3 : w30.cell? ⟨gb590, 3, none⟩ = some (.int .i64 a0_3) := (zaa BK590.o 3).trans rfl
     have hcz34_4 : w30.cell? ⟨gb590, 4, none⟩ = some (.slice A0_4 l0_4.length c0_4) := (zaa BK590.o 4).trans rfl
     have hcz34_5 : w30.cell? ⟨gb590, 5, none⟩ = some (.int .i64 a0_5) := (zaa BK590.o 5).trans rfl
     have hcz34_6 : w30.cell? ⟨gb590, 6, none⟩ = some (.string a0_6) := (zaa BK590.o 6).trans rfl
     have hcz34_7 : w30.cell? ⟨gb590, 7, none⟩ = some (.string a0_7) := (zaa BK590.o 7).trans rfl
     have hfz34_0 := zac BK590.o 0
     have hfz34_1 := zac BK590.o 1
     have hfz34_2 := zac BK590.o 2
     have hfz34_3 := zac BK590.o 3
     have hfz34_4 := zac BK590.o 4
     have hfz34_5 := zac BK590.o 5
     have hfz34_6 := zac BK590.o 6
     have hfz34_7 := zac BK590.o 7
     go_wp2
     go_meet
     case rel => exact ⟨_, (decide (a1 < (wrap64 (a0_2 + (l0_4.length : Int))))), (by first | rfl | (simp; done) | (simp [*]; done)), H', ⟨by first | omega | exact Nat.le_refl _⟩, ⟨by (with_reducible repeat (first | apply Kd.R_alloc | apply Kd.R_drewN | apply Kd.R_drew)); exact HO593.o⟩, ⟨by (with_reducible repeat (first | refine zaj ?_ _ | refine zah ?_ | refine zai ?_ _)); exact BK590.o⟩, ⟨by repeat (first | (with_reducible first | exact HB.o | apply zad | apply zaf | apply zae | refine zag ?_ GE590.o) | exact HB.o)⟩⟩
    ·rw [if_neg c33] at H
     have c33b0 : (a0_0 == 2) = false := beq_eq_false_iff_ne.mpr c33
     have c33b1 : (a0_0 != 2) = true := bne_iff_ne.mpr c33
     (first | rw [c33b0] | (simp only [i64_w, i32_w]; rw [c33b0]) | skip)
     have H' := zab.mk H
     clear H
     have hcz35_0 : w30.cell? ⟨gb590, 0, none⟩ = some (.int .i64 a0_0) := (zaa BK590.o 0).trans rfl
     have hcz35_1 : w30.cell? ⟨gb590, 1, none⟩ = some (.slice A0_1 l0_1.length c0_1) := (zaa BK590.o 1).trans rfl
     have hcz35_2 : w30.cell? ⟨gb590, 2, none⟩ = some (.int .i64 a0_2) := (zaa BK590.o 2).trans rfl
     have hcz35_3 : w30.cell? ⟨gb590, 3, none⟩ = some (.int .i64 a0_3) := (zaa BK590.o 3).trans rfl
     have hcz35_4 : w30.cell? ⟨gb590, 4, none⟩ = some (.slice A0_4 l0_4.length c0_4) := (zaa BK590.o 4).trans rfl
     have hcz35_5 : w30.cell? ⟨gb590, 5, none⟩ = some (.int .i64 a0_5) := (zaa BK590.o 5).trans rfl
     have hcz35_6 : w30.cell? ⟨gb590, 6, none⟩ = some (.string a0_6) := (zaa BK590.o 6).trans rfl
     have hcz35_7 : w30.cell? ⟨gb590, 7, none⟩ = some (.string a0_7) := (zaa BK590.o 7).trans rfl
     have hfz35_0 := zac BK590.o 0
     have hfz35_1 := zac BK590.o 1
     have hfz35_2 := zac BK590.o 2
     have hfz35_3 := zac BK590.o 3
     have hfz35_4 := zac BK590.o 4
     have hfz35_5 := zac BK590.o 5
     have hfz35_6 := zac BK590.o 6
     have hfz35_7 := zac BK590.o 7
     go_wp2
     go_meet
     case rel => exact ⟨_, (false), (by first | rfl | (simp; done) | (simp [*]; done)), H', ⟨by first | omega | exact Nat.le_refl _⟩, ⟨by (with_reducible repeat (first | apply Kd.R_alloc | apply Kd.R_drewN | apply Kd.R_drew)); exact HO593.o⟩, ⟨by (with_reducible repeat (first | refine zaj ?_ _ | refine zah ?_ | refine zai ?_ _)); exact BK590.o⟩, ⟨by repeat (first | (with_reducible first | exact HB.o | apply zad | apply zaf | apply zae | refine zag ?_ GE590.o) | exact HB.o)⟩⟩
   case rest =>
    clear HC27
    try clear c1
    try clear p2
    try clear c3
    try clear c4
    try clear c5
    try clear c5b0
    try clear c6
    try clear p6
    try clear c7
    try clear c15
    try clear c15b0
    try clear c15b1
    try clear c16
    try clear c17
    try clear c33
    try clear c33b0
    try clear c33b1
    try clear hcz12_0
    try clear hcz12_1
    try clear hcz12_2
    try clear hcz12_3
    try clear hcz12_4
    try clear hcz12_5
    try clear hcz12_6
    try clear hcz12_7
    try clear hcz19_0
    try clear hcz19_1
    try clear hcz19_2
    try clear hcz19_3
    try clear hcz19_4
    try clear hcz19_5
    try clear hcz19_6
    try clear hcz19_7
    try clear hcz22_0
    try clear hcz22_1
    try clear hcz22_2
    try clear hcz22_3
    try clear hcz22_4
    try clear hcz22_5
    try clear hcz22_6
    try clear hcz22_7
    try clear hcz29_0
    try clear hcz29_1
    try clear hcz29_2
    try clear hcz29_3
    try clear hcz29_4
    try clear hcz29_5
    try clear hcz29_6
    try clear hcz29_7
    try clear hcz32_0
    try clear hcz32_1
    try clear hcz32_2
    try clear hcz32_3
    try clear hcz32_4
    try clear hcz32_5
    try clear hcz32_6
    try clear hcz32_7
    try clear hcz34_0
    try clear hcz34_1
    try clear hcz34_2
    try clear hcz34_3
    try clear hcz34_4
    try clear hcz34_5
    try clear hcz34_6
    try clear hcz34_7
    try clear hcz35_0
    try clear hcz35_1
    try clear hcz35_2
    try clear hcz35_3
    try clear hcz35_4
    try clear hcz35_5
    try clear hcz35_6
    try clear hcz35_7
    try clear hcz9_0
    try clear hcz9_1
    try clear hcz9_2
    try clear hcz9_3
    try clear hcz9_4
    try clear hcz9_5
    try clear hcz9_6
    try clear hcz9_7
    try clear hfz12_0
    try clear hfz12_1
    try clear hfz12_2
    try clear hfz12_3
    try clear hfz12_4
    try clear hfz12_5
    try clear hfz12_6
    try clear hfz12_7
    try clear hfz19_0
    try clear hfz19_1
    try clear hfz19_2
    try clear hfz19_3
    try clear hfz19_4
    try clear hfz19_5
    try clear hfz19_6
    try clear hfz19_7
    try clear hfz22_0
    try clear hfz22_1
    try clear hfz22_2
    try clear hfz22_3
    try clear hfz22_4
    try clear hfz22_5
    try clear hfz22_6
    try clear hfz22_7
    try clear hfz29_0
    try clear hfz29_1
    try clear hfz29_2
    try clear hfz29_3
    try clear hfz29_4
    try clear hfz29_5
    try clear hfz29_6
    try clear hfz29_7
    try clear hfz32_0
    try clear hfz32_1
    try clear hfz32_2
    try clear hfz32_3
    try clear hfz32_4
    try clear hfz32_5
    try clear hfz32_6
    try clear hfz32_7
    try clear hfz34_0
    try clear hfz34_1
    try clear hfz34_2
    try clear hfz34_3
    try clear hfz34_4
    try clear hfz34_5
    try clear hfz34_6
    try clear hfz34_7
    try clear hfz35_0
    try clear hfz35_1
    try clear hfz35_2
    try clear hfz35_3
    try clear hfz35_4
    try clear hfz35_5
    try clear hfz35_6
    try clear hfz35_7
    try clear hfz9_0
    try clear hfz9_1
    try clear hfz9_2
    try clear hfz9_3
    try clear hfz9_4
    try clear hfz9_5
    try clear hfz9_6
    try clear hfz9_7
    obtain ⟨kq, x29_26, rfl, HA, HJ26, HO_10, BK590, HB⟩ := hcut
    cases kq with
    | zero => exact absurd HA.o (by simp [vinculumref13_inside.j0])
    | succ kj26 =>
     have H := HA.o
     clear HA
     simp only [vinculumref13_inside.j0] at H
     by_cases c36 : x29_26 = true
     ·subst c36
      have H1 : (some (([a0_2] : List Int))) = some r := by rw [if_pos rfl] at H; exact H
      clear H
      have H := H1
      clear H1
      obtain ⟨y609, hy609⟩ : ∃ y_ : List Int, y_ = (([a0_2] : List Int)) := ⟨_, rfl⟩
      replace H : (some y609) = some r := by first | (rw [hy609]; with_reducible exact H) | (have H2_ := (Option.bind_some _ _).symm.trans H; rw [hy609]; with_reducible exact H2_) | (have H2_ := (Option.bind_some _ _).symm.trans H; with_reducible exact H2_) | with_reducible exact H | (rw [hy609]; exact H) | exact H
      have Ny609 := zab.mk hy609
      clear hy609
      obtain rfl := Option.some.inj H
      have hcz37_0 : wc.cell? ⟨gb590, 0, none⟩ = some (.int .i64 a0_0) := (zaa BK590.o 0).trans rfl
      have hcz37_1 : wc.cell? ⟨gb590, 1, none⟩ = some (.slice A0_1 l0_1.length c0_1) := (zaa BK590.o 1).trans rfl
      have hcz37_2 : wc.cell? ⟨gb590, 2, none⟩ = some (.int .i64 a0_2) := (zaa BK590.o 2).trans rfl
      have hcz37_3 : wc.cell? ⟨gb590, 3, none⟩ = some (.int .i64 a0_3) := (zaa BK590.o 3).trans rfl
      have hcz37_4 : wc.cell? ⟨gb590, 4, none⟩ = some (.slice A0_4 l0_4.length c0_4) := (zaa BK590.o 4).trans rfl
      have hcz37_5 : wc.cell? ⟨gb590, 5, none⟩ = some (.int .i64 a0_5) := (zaa BK590.o 5).trans rfl
      have hcz37_6 : wc.cell? ⟨gb590, 6, none⟩ = some (.string a0_6) := (zaa BK590.o 6).trans rfl
      have hcz37_7 : wc.cell? ⟨gb590, 7, none⟩ = some (.string a0_7) := (zaa BK590.o 7).trans rfl
      have hfz37_0 := zac BK590.o 0
      have hfz37_1 := zac BK590.o 1
      have hfz37_2 := zac BK590.o 2
      have hfz37_3 := zac BK590.o 3
      have hfz37_4 := zac BK590.o 4
      have hfz37_5 := zac BK590.o 5
      have hfz37_6 := zac BK590.o 6
      have hfz37_7 := zac BK590.o 7
      go_wp2_with (first | ((with_reducible refine zaq (N := 43) rfl ?_); refine Kd.R_lit (Kd.int .i64) _ 3 ?hg (N := 43) ?hd (xs := ([a0_2] : List Int)) (inner := [.int .i64 a0_2]) (ok := fun _ => True) (okp := fun _ => True) ?hr ?hp (fun _ hk => hk) trivial (Below.refl _ _) (Nat.le_refl _) (by simp) ?_; (case hd => rfl); (case hg => rfl); (case hr => first | (go_simp; done) | (go_simp; rfl)); (case hp => exact (Reps.one (show Kd.M (Kd.int .i64) _ _ _ a0_2 [.int .i64 a0_2] from rfl) (Reps.none _ _))); intro v610 w38 ho39 hb hg_ hnew_; clear hg_ hnew_; (first | rw [← Ny609.out] at ho39 | (simp only [Int.reduceToNat] at ho39; rw [← Ny609.out] at ho39)); have n0_ := zab.mk (Kd.R_elder' (by (with_reducible repeat (first | apply Kd.R_alloc | apply Kd.R_drewN | apply Kd.R_drew)); exact HO_10.o) (Kd.R_base ho39) hb); have n1_ := zab.mk (Kd.R_lower (Kd.R_new' ho39 (Kd.R_lt (by (with_reducible repeat (first | apply Kd.R_alloc | apply Kd.R_drewN | apply Kd.R_drew)); exact HO_10.o))) (zak (by repeat (first | (with_reducible first | exact HB.o | apply zad | apply zaf | apply zae | refine zag ?_ GE590.o) | exact HB.o)))); have n2_ := zab.mk (zam (by (with_reducible repeat (first | refine zaj ?_ _ | refine zah ?_ | refine zai ?_ _)); exact BK590.o) hb); have n3_ := zab.mk (zal (by repeat (first | (with_reducible first | exact HB.o | apply zad | apply zaf | apply zae | refine zag ?_ GE590.o) | exact HB.o)) hb); clear HO_10; clear BK590; clear HB; have HO_10 := n0_; have HO611 := n1_; have BK590 := n2_; have HB := n3_; clear n0_ n1_ n2_ n3_; clear hb ho39))
      go_ret
      exact ⟨_, by first | rfl | (simp [errW_none, errW_some] <;> rfl) | (simp [*, errW_none, errW_some] <;> rfl), by (with_reducible repeat (first | apply Kd.R_alloc | apply Kd.R_drewN | apply Kd.R_drew)); exact Kd.R_mono HO611.o (fun _ hk => trivial), by repeat (first | (with_reducible first | exact HB.o | apply zad | apply zaf | apply zae | refine zag ?_ GE590.o) | exact HB.o)⟩
     ·replace c36 := Bool.eq_false_iff.mpr c36
      subst c36
      have H1 : (if a0_0 = 2 then ((some (([wrap64 (a1 - (l0_4.length : Int))] : List Int) : List Int)).bind fun y612 => (if y612.length < 17592186044416 then ((some (y612 ++ [a2] : List Int)).bind fun y615 => (if y615.length + l3.length < 17592186044416 then (some (y615 ++ l3)) else (none))) else (none))) else (if a0_0 = 3 then (vinculumref13_inside.j1 kj26 a1 a2 l3 y591 (decide (a1 < (wrap64 (a0_2 + a0_3)))) a0_0 l0_1 a0_2 a0_3 l0_4 a0_5 a0_6 a0_7) else (vinculumref13_inside.j1 kj26 a1 a2 l3 y591 false a0_0 l0_1 a0_2 a0_3 l0_4 a0_5 a0_6 a0_7))) = some r := by rw [if_neg (show ¬ (false = true) by decide)] at H; exact H
      clear H
      have H := H1
      clear H1
      by_cases c40 : a0_0 = 2
      ·rw [if_pos c40] at H
       have c40b0 : (a0_0 == 2) = true := beq_iff_eq.mpr c40
       have c40b1 : (a0_0 != 2) = false := bne_eq_false_iff_eq.mpr c40
       clear c40
       obtain ⟨y612, hy612⟩ : ∃ y_ : List Int, y_ = (([wrap64 (a1 - (l0_4.length : Int))] : List Int)) := ⟨_, rfl⟩
       replace H : (if y612.length < 17592186044416 then ((some (y612 ++ [a2] : List Int)).bind fun y615 => (if y615.length + l3.length < 17592186044416 then (some (y615 ++ l3)) else (none))) else (none)) = some r := by first | (rw [hy612]; with_reducible exact H) | (have H2_ := (Option.bind_some _ _).symm.trans H; rw [hy612]; with_reducible exact H2_) | (have H2_ := (Option.bind_some _ _).symm.trans H; with_reducible exact H2_) | with_reducible exact H | (rw [hy612]; exact H) | exact H
       have Ny612 := zab.mk hy612
       clear hy612
       by_cases c41 : y612.length < 17592186044416
       ·rw [if_pos c41] at H
        have LMc41 := zab.mk c41
        clear c41
        obtain ⟨y615, hy615⟩ : ∃ y_ : List Int, y_ = (y612 ++ [a2]) := ⟨_, rfl⟩
        replace H : (if y615.length + l3.length < 17592186044416 then (some (y615 ++ l3)) else (none)) = some r := by first | (rw [hy615]; with_reducible exact H) | (have H2_ := (Option.bind_some _ _).symm.trans H; rw [hy615]; with_reducible exact H2_) | (have H2_ := (Option.bind_some _ _).symm.trans H; with_reducible exact H2_) | with_reducible exact H | (rw [hy615]; exact H) | exact H
        have Ny615 := zab.mk hy615
        clear hy615
        by_cases c42 : y615.length + l3.length < 17592186044416
        ·rw [if_pos c42] at H
         have LMc42 := zab.mk c42
         clear c42
         obtain ⟨y618, hy618⟩ : ∃ y_ : List Int, y_ = (y615 ++ l3) := ⟨_, rfl⟩
         replace H : (some y618) = some r := by first | (rw [hy618]; with_reducible exact H) | (have H2_ := (Option.bind_some _ _).symm.trans H; rw [hy618]; with_reducible exact H2_) | (have H2_ := (Option.bind_some _ _).symm.trans H; with_reducible exact H2_) | with_reducible exact H | (rw [hy618]; exact H) | exact H
         have Ny618 := zab.mk hy618
         clear hy618
         obtain rfl := Option.some.inj H
         have hcz43_0 : wc.cell? ⟨gb590, 0, none⟩ = some (.int .i64 a0_0) := (zaa BK590.o 0).trans rfl
         have hcz43_1 : wc.cell? ⟨gb590, 1, none⟩ = some (.slice A0_1 l0_1.length c0_1) := (zaa BK590.o 1).trans rfl
         have hcz43_2 : wc.cell? ⟨gb590, 2, none⟩ = some (.int .i64 a0_2) := (zaa BK590.o 2).trans rfl
         have hcz43_3 : wc.cell? ⟨gb590, 3, none⟩ = some (.int .i64 a0_3) := (zaa BK590.o 3).trans rfl
         have hcz43_4 : wc.cell? ⟨gb590, 4, none⟩ = some (.slice A0_4 l0_4.length c0_4) := (zaa BK590.o 4).trans rfl
         have hcz43_5 : wc.cell? ⟨gb590, 5, none⟩ = some (.int .i64 a0_5) := (zaa BK590.o 5).trans rfl
         have hcz43_6 : wc.cell? ⟨gb590, 6, none⟩ = some (.string a0_6) := (zaa BK590.o 6).trans rfl
         have hcz43_7 : wc.cell? ⟨gb590, 7, none⟩ = some (.string a0_7) := (zaa BK590.o 7).trans rfl
         have hfz43_0 := zac BK590.o 0
         have hfz43_1 := zac BK590.o 1
         have hfz43_2 := zac BK590.o 2
         have hfz43_3 := zac BK590.o 3
         have hfz43_4 := zac BK590.o 4
         have hfz43_5 := zac BK590.o 5
         have hfz43_6 := zac BK590.o 6
         have hfz43_7 := zac BK590.o 7
         go_wp2_with (first | ((with_reducible refine zaq (N := 51) rfl ?_); refine Kd.R_lit (Kd.int .i64) _ 3 ?hg (N := 51) ?hd (xs := ([wrap64 (a1 - (l0_4.length : Int))] : List Int)) (inner := [.int .i64 (wrap64 (a1 - (l0_4.length : Int)))]) (ok := fun _ => True) (okp := fun _ => True) ?hr ?hp (fun _ hk => hk) trivial (Below.refl _ _) (Nat.le_refl _) (by simp) ?_; (case hd => rfl); (case hg => rfl); (case hr => first | (go_simp; done) | (go_simp; rfl)); (case hp => exact (Reps.one (show Kd.M (Kd.int .i64) _ _ _ (wrap64 (a1 - (l0_4.length : Int))) [.int .i64 (wrap64 (a1 - (l0_4.length : Int)))] from rfl) (Reps.none _ _))); intro v613 w44 ho45 hb hg_ hnew_; clear hg_ hnew_; (first | rw [← Ny612.out] at ho45 | (simp only [Int.reduceToNat] at ho45; rw [← Ny612.out] at ho45)); have n0_ := zab.mk (Kd.R_elder' (by (with_reducible repeat (first | apply Kd.R_alloc | apply Kd.R_drewN | apply Kd.R_drew)); exact HO_10.o) (Kd.R_base ho45) hb); have n1_ := zab.mk (Kd.R_lower (Kd.R_new' ho45 (Kd.R_lt (by (with_reducible repeat (first | apply Kd.R_alloc | apply Kd.R_drewN | apply Kd.R_drew)); exact HO_10.o))) (zak (by repeat (first | (with_reducible first | exact HB.o | apply zad | apply zaf | apply zae | refine zag ?_ GE590.o) | exact HB.o)))); have n2_ := zab.mk (zam (by (with_reducible repeat (first | refine zaj ?_ _ | refine zah ?_ | refine zai ?_ _)); exact BK590.o) hb); have n3_ := zab.mk (zal (by repeat (first | (with_reducible first | exact HB.o | apply zad | apply zaf | apply zae | refine zag ?_ GE590.o) | exact HB.o)) hb); clear HO_10; clear BK590; clear HB; have HO_10 := n0_; have HO614 := n1_; have BK590 := n2_; have HB := n3_; clear n0_ n1_ n2_ n3_; clear hb ho45) | ((with_reducible refine zaM (b := .append) (xs := #[.tmp 155, .tmp 157]) rfl ?_); at_builtin; refine Kd.R_append (Kd.int .i64) (w0 := w) w.heap.size rfl (.tmp 155) (.tmp 157) 25 3 (.int .i64 0) 8 rfl Try.underlying25 info3 rfl (by decide) (by omega) v613 y612 a2 [.int .i64 a2] (fun k_ => some k_ ≠ (v592 : Value).ownBlock) (fun _ => False) rfl rfl ?aP (fun _ hk => hk.elim) ?aF ?aO ?aB ?aS ?aL ?_; (case aP => exact rfl); (case aB => exact (by repeat (first | (with_reducible first | exact HB.o | apply zad | apply zaf | apply zae | refine zag ?_ GE590.o) | exact HB.o))); (case aF => exact (fun k_ hk => Kd.fresh' (Kd.R_lt (by (with_reducible repeat (first | apply Kd.R_alloc | apply Kd.R_drewN | apply Kd.R_drew)); exact HO_10.o)) k_ hk)); (case aO => exact (by (with_reducible repeat (first | apply Kd.R_alloc | apply Kd.R_drewN | apply Kd.R_drew)); exact Kd.R_mono HO614.o (fun _ hk => hk.2))); (case aS => exact (zak (by repeat (first | (with_reducible first | exact HB.o | apply zad | apply zaf | apply zae | refine zag ?_ GE590.o) | exact HB.o)))); (case aL => have := LMc41.out; omega); intro v616 w46 ho hb hg hat; rw [← Ny615.out] at ho; have n0_ := zab.mk (Kd.R_after (ok := (fun _ => True)) (by (with_reducible repeat (first | apply Kd.R_alloc | apply Kd.R_drewN | apply Kd.R_drew)); exact HO_10.o) hg hat); have n1_ := zab.mk (zaK (by (with_reducible repeat (first | refine zaj ?_ _ | refine zah ?_ | refine zai ?_ _)); exact BK590.o) hg (Kd.R_ne HO614.o BK590.o (by decide))); have n2_ := zab.mk (hb); have n3_ := zab.mk (ho); clear HO_10; clear BK590; clear HB; clear HO614; have HO_10 := n0_; have BK590 := n1_; have HB := n2_; have HO617 := n3_; clear n0_ n1_ n2_ n3_; clear ho hb hg hat) | ((with_reducible refine zaM (b := .append) (xs := #[.tmp 158, .tmp 159]) rfl ?_); at_builtin; refine Kd.R_append_rows (Kd.int .i64) (w0 := w) w.heap.size rfl (.tmp 158) (.tmp 159) 25 3 (.int .i64 0) 8 rfl Try.underlying25 info3 rfl (by decide) (by omega) v616 y615 l3 _ _ _ (fun k_ => some k_ ≠ (v592 : Value).ownBlock) (fun _ => False) rfl rfl ?aO ?aR (fun _ _ h => h) (fun _ h => h.elim) ?aF ?aB ?aS ?aL ?_; (case aR => repeat (first | exact (Kd.C_below HR3.o HB.o) | (with_reducible first | refine Kd.C_alloc ?_ _ | refine Kd.C_drewN ?_ _ | refine Kd.C_drew ?_))); (case aB => exact (by repeat (first | (with_reducible first | exact HB.o | apply zad | apply zaf | apply zae | refine zag ?_ GE590.o) | exact HB.o))); (case aF => exact (fun k_ hk => Kd.fresh' (Kd.R_lt (by (with_reducible repeat (first | apply Kd.R_alloc | apply Kd.R_drewN | apply Kd.R_drew)); exact HO_10.o)) k_ hk)); (case aO => exact (by (with_reducible repeat (first | apply Kd.R_alloc | apply Kd.R_drewN | apply Kd.R_drew)); exact HO617.o)); (case aS => exact (zak (by repeat (first | (with_reducible first | exact HB.o | apply zad | apply zaf | apply zae | refine zag ?_ GE590.o) | exact HB.o)))); (case aL => have := LMc42.out; omega); intro v619 w47 ho hb hg hat; rw [← Ny618.out] at ho; have n0_ := zab.mk (Kd.R_after (ok := (fun _ => True)) (by (with_reducible repeat (first | apply Kd.R_alloc | apply Kd.R_drewN | apply Kd.R_drew)); exact HO_10.o) hg hat); have n1_ := zab.mk (zaK (by (with_reducible repeat (first | refine zaj ?_ _ | refine zah ?_ | refine zai ?_ _)); exact BK590.o) hg (Kd.R_ne HO617.o BK590.o (by decide))); have n2_ := zab.mk (hb); have n3_ := zab.mk (ho); clear HO_10; clear BK590; clear HB; clear HO617; have HO_10 := n0_; have BK590 := n1_; have HB := n2_; have HO620 := n3_; clear n0_ n1_ n2_ n3_; clear ho hb hg hat))
         go_ret
         exact ⟨_, by first | rfl | (simp [errW_none, errW_some] <;> rfl) | (simp [*, errW_none, errW_some] <;> rfl), by (with_reducible repeat (first | apply Kd.R_alloc | apply Kd.R_drewN | apply Kd.R_drew)); exact Kd.R_mono HO620.o (fun _ hk => trivial), by repeat (first | (with_reducible first | exact HB.o | apply zad | apply zaf | apply zae | refine zag ?_ GE590.o) | exact HB.o)⟩
        ·rw [if_neg c42] at H
         exact absurd H (by simp)
       ·rw [if_neg c41] at H
        exact absurd H (by simp)
      ·rw [if_neg c40] at H
       have c40b0 : (a0_0 == 2) = false := beq_eq_false_iff_ne.mpr c40
       have c40b1 : (a0_0 != 2) = true := bne_iff_ne.mpr c40
       have HC48 := zab.mk H
       clear H
       have hcz49_0 : wc.cell? ⟨gb590, 0, none⟩ = some (.int .i64 a0_0) := (zaa BK590.o 0).trans rfl
       have hcz49_1 : wc.cell? ⟨gb590, 1, none⟩ = some (.slice A0_1 l0_1.length c0_1) := (zaa BK590.o 1).trans rfl
       have hcz49_2 : wc.cell? ⟨gb590, 2, none⟩ = some (.int .i64 a0_2) := (zaa BK590.o 2).trans rfl
       have hcz49_3 : wc.cell? ⟨gb590, 3, none⟩ = some (.int .i64 a0_3) := (zaa BK590.o 3).trans rfl
       have hcz49_4 : wc.cell? ⟨gb590, 4, none⟩ = some (.slice A0_4 l0_4.length c0_4) := (zaa BK590.o 4).trans rfl
       have hcz49_5 : wc.cell? ⟨gb590, 5, none⟩ = some (.int .i64 a0_5) := (zaa BK590.o 5).trans rfl
       have hcz49_6 : wc.cell? ⟨gb590, 6, none⟩ = some (.string a0_6) := (zaa BK590.o 6).trans rfl
       have hcz49_7 : wc.cell? ⟨gb590, 7, none⟩ = some (.string a0_7) := (zaa BK590.o 7).trans rfl
       have hfz49_0 := zac BK590.o 0
       have hfz49_1 := zac BK590.o 1
       have hfz49_2 := zac BK590.o 2
       have hfz49_3 := zac BK590.o 3
       have hfz49_4 := zac BK590.o 4
       have hfz49_5 := zac BK590.o 5
       have hfz49_6 := zac BK590.o 6
       have hfz49_7 := zac BK590.o 7
       go_upto_region 10 with (fail)
       go_cut [52] (fun v52 wc => ∃ (kq : Nat) (x52_47 : Bool), v52 = .bool x52_47 ∧ zab (vinculumref13_inside.j1 kq a1 a2 l3 y591 x52_47 a0_0 l0_1 a0_2 a0_3 l0_4 a0_5 a0_6 a0_7 = some r) ∧ zab (kq ≤ kj26) ∧ zab (Kd.R (Kd.int .i64) 3 wc w.heap.size (fun _ => True) v592 y591) ∧ zab (wc.heap[gb590]? = some (.cells #[.int .i64 a0_0, (.slice A0_1 l0_1.length c0_1), .int .i64 a0_2, .int .i64 a0_3, (.slice A0_4 l0_4.length c0_4), .int .i64 a0_5, .string a0_6, .string a0_7] 27 (0, 0))) ∧ zab (Below w.heap.size w wc))
       case first =>
        have H := HC48.out
        clear HC48
        by_cases c50 : a0_0 = 3
        ·rw [if_pos c50] at H
         have c50b0 : (a0_0 == 3) = true := beq_iff_eq.mpr c50
         have c50b1 : (a0_0 != 3) = false := bne_eq_false_iff_eq.mpr c50
         clear c50
         (first | rw [c50b0] | (simp only [i64_w, i32_w]; rw [c50b0]) | skip)
         have H' := zab.mk H
         clear H
         have hcz51_0 : wc.cell? ⟨gb590, 0, none⟩ = some (.int .i64 a0_0) := (zaa BK590.o 0).trans rfl
         have hcz51_1 : wc.cell? ⟨gb590, 1, none⟩ = some (.slice A0_1 l0_1.length c0_1) := (zaa BK590.o 1).trans rfl
         have hcz51_2 : wc.cell? ⟨gb590, 2, none⟩ = some (.int .i64 a0_2) := (zaa BK590.o 2).trans rfl
         have hcz51_3 : wc.cell? ⟨gb590, 3, none⟩ = some (.int .i64 a0_3) := (zaa BK590.o 3).trans rfl
         have hcz51_4 : wc.cell? ⟨gb590, 4, none⟩ = some (.slice A0_4 l0_4.length c0_4) := (zaa BK590.o 4).trans rfl
         have hcz51_5 : wc.cell? ⟨gb590, 5, none⟩ = some (.int .i64 a0_5) := (zaa BK590.o 5).trans rfl
         have hcz51_6 : wc.cell? ⟨gb590, 6, none⟩ = some (.string a0_6) := (zaa BK590.o 6).trans rfl
         have hcz51_7 : wc.cell? ⟨gb590, 7, none⟩ = some (.string a0_7) := (zaa BK590.o 7).trans rfl
         have hfz51_0 := zac BK590.o 0
         have hfz51_1 := zac BK590.o 1
         have hfz51_2 := zac BK590.o 2
         have hfz51_3 := zac BK590.o 3
         have hfz51_4 := zac BK590.o 4
         have hfz51_5 := zac BK590.o 5
         have hfz51_6 := zac BK590.o 6
         have hfz51_7 := zac BK590.o 7
         go_wp2
         go_meet
         case rel => exact ⟨_, (decide (a1 < (wrap64 (a0_2 + a0_3)))), (by first | rfl | (simp; done) | (simp [*]; done)), H', ⟨by have := HJ26.out; first | omega | exact Nat.le_refl _⟩, ⟨by (with_reducible repeat (first | apply Kd.R_alloc | apply Kd.R_drewN | apply Kd.R_drew)); exact HO_10.o⟩, ⟨by (with_reducible repeat (first | refine zaj ?_ _ | refine zah ?_ | refine zai ?_ _)); exact BK590.o⟩, ⟨by repeat (first | (with_reducible first | exact HB.o | apply zad | apply zaf | apply zae | refine zag ?_ GE590.o) | exact HB.o)⟩⟩
        ·rw [if_neg c50] at H
         have c50b0 : (a0_0 == 3) = false := beq_eq_false_iff_ne.mpr c50
         have c50b1 : (a0_0 != 3) = true := bne_iff_ne.mpr c50
         (first | rw [c50b0] | (simp only [i64_w, i32_w]; rw [c50b0]) | skip)
         have H' := zab.mk H
         clear H
         have hcz52_0 : wc.cell? ⟨gb590, 0, none⟩ = some (.int .i64 a0_0) := (zaa BK590.o 0).trans rfl
         have hcz52_1 : wc.cell? ⟨gb590, 1, none⟩ = some (.slice A0_1 l0_1.length c0_1) := (zaa BK590.o 1).trans rfl
         have hcz52_2 : wc.cell? ⟨gb590, 2, none⟩ = some (.int .i64 a0_2) := (zaa BK590.o 2).trans rfl
         have hcz52_3 : wc.cell? ⟨gb590, 3, none⟩ = some (.int .i64 a0_3) := (zaa BK590.o 3).trans rfl
         have hcz52_4 : wc.cell? ⟨gb590, 4, none⟩ = some (.slice A0_4 l0_4.length c0_4) := (zaa BK590.o 4).trans rfl
         have hcz52_5 : wc.cell? ⟨gb590, 5, none⟩ = some (.int .i64 a0_5) := (zaa BK590.o 5).trans rfl
         have hcz52_6 : wc.cell? ⟨gb590, 6, none⟩ = some (.string a0_6) := (zaa BK590.o 6).trans rfl
         have hcz52_7 : wc.cell? ⟨gb590, 7, none⟩ = some (.string a0_7) := (zaa BK590.o 7).trans rfl
         have hfz52_0 := zac BK590.o 0
         have hfz52_1 := zac BK590.o 1
         have hfz52_2 := zac BK590.o 2
         have hfz52_3 := zac BK590.o 3
         have hfz52_4 := zac BK590.o 4
         have hfz52_5 := zac BK590.o 5
         have hfz52_6 := zac BK590.o 6
         have hfz52_7 := zac BK590.o 7
         go_wp2
         go_meet
         case rel => exact ⟨_, (false), (by first | rfl | (simp; done) | (simp [*]; done)), H', ⟨by have := HJ26.out; first | omega | exact Nat.le_refl _⟩, ⟨by (with_reducible repeat (first | apply Kd.R_alloc | apply Kd.R_drewN | apply Kd.R_drew)); exact HO_10.o⟩, ⟨by (with_reducible repeat (first | refine zaj ?_ _ | refine zah ?_ | refine zai ?_ _)); exact BK590.o⟩, ⟨by repeat (first | (with_reducible first | exact HB.o | apply zad | apply zaf | apply zae | refine zag ?_ GE590.o) | exact HB.o)⟩⟩
       case rest =>
        clear HC48
        try clear c1
        try clear p2
        try clear c3
        try clear c4
        try clear c5
        try clear c5b0
        try clear c6
        try clear p6
        try clear c7
        try clear c15
        try clear c15b0
        try clear c15b1
        try clear c16
        try clear c17
        try clear c33
        try clear c33b0
        try clear c33b1
        try clear c36
        try clear c40
        try clear c40b0
        try clear c40b1
        try clear c41
        try clear c42
        try clear c47
        try clear c50
        try clear c50b0
        try clear c50b1
        try clear hcz12_0
        try clear hcz12_1
        try clear hcz12_2
        try clear hcz12_3
        try clear hcz12_4
        try clear hcz12_5
        try clear hcz12_6
        try clear hcz12_7
        try clear hcz19_0
        try clear hcz19_1
        try clear hcz19_2
        try clear hcz19_3
        try clear hcz19_4
        try clear hcz19_5
        try clear hcz19_6
        try clear hcz19_7
        try clear hcz22_0
        try clear hcz22_1
        try clear hcz22_2
        try clear hcz22_3
        try clear hcz22_4
        try clear hcz22_5
        try clear hcz22_6
        try clear hcz22_7
        try clear hcz29_0
        try clear hcz29_1
        try clear hcz29_2
        try clear hcz29_3
        try clear hcz29_4
        try clear hcz29_5
        try clear hcz29_6
        try clear hcz29_7
        try clear hcz32_0
        try clear hcz32_1
        try clear hcz32_2
        try clear hcz32_3
        try clear hcz32_4
        try clear hcz32_5
        try clear hcz32_6
        try clear hcz32_7
        try clear hcz34_0
        try clear hcz34_1
        try clear hcz34_2
        try clear hcz34_3
        try clear hcz34_4
        try clear hcz34_5
        try clear hcz34_6
        try clear hcz34_7
        try clear hcz35_0
        try clear hcz35_1
        try clear hcz35_2
        try clear hcz35_3
        try clear hcz35_4
        try clear hcz35_5
        try clear hcz35_6
        try clear hcz35_7
        try clear hcz37_0
        try clear hcz37_1
        try clear hcz37_2
        try clear hcz37_3
        try clear hcz37_4
        try clear hcz37_5
        try clear hcz37_6
        try clear hcz37_7
        try clear hcz43_0
        try clear hcz43_1
        try clear hcz43_2
        try clear hcz43_3
        try clear hcz43_4
        try clear hcz43_5
        try clear hcz43_6
        try clear hcz43_7
        try clear hcz49_0
        try clear hcz49_1
        try clear hcz49_2
        try clear hcz49_3
        try clear hcz49_4
        try clear hcz49_5
        try clear hcz49_6
        try clear hcz49_7
        try clear hcz51_0
        try clear hcz51_1
        try clear hcz51_2
        try clear hcz51_3
        try clear hcz51_4
        try clear hcz51_5
        try clear hcz51_6
        try clear hcz51_7
        try clear hcz52_0
        try clear hcz52_1
        try clear hcz52_2
        try clear hcz52_3
        try clear hcz52_4
        try clear hcz52_5
        try clear hcz52_6
        try clear hcz52_7
        try clear hcz9_0
        try clear hcz9_1
        try clear hcz9_2
        try clear hcz9_3
        try clear hcz9_4
        try clear hcz9_5
        try clear hcz9_6
        try clear hcz9_7
        try clear hfz12_0
        try clear hfz12_1
        try clear hfz12_2
        try clear hfz12_3
        try clear hfz12_4
        try clear hfz12_5
        try clear hfz12_6
        try clear hfz12_7
        try clear hfz19_0
        try clear hfz19_1
        try clear hfz19_2
        try clear hfz19_3
        try clear hfz19_4
        try clear hfz19_5
        try clear hfz19_6
        try clear hfz19_7
        try clear hfz22_0
        try clear hfz22_1
        try clear hfz22_2
        try clear hfz22_3
        try clear hfz22_4
        try clear hfz22_5
        try clear hfz22_6
        try clear hfz22_7
        try clear hfz29_0
        try clear hfz29_1
        try clear hfz29_2
        try clear hfz29_3
        try clear hfz29_4
        try clear hfz29_5
        try clear hfz29_6
        try clear hfz29_7
        try clear hfz32_0
        try clear hfz32_1
        try clear hfz32_2
        try clear hfz32_3
        try clear hfz32_4
        try clear hfz32_5
        try clear hfz32_6
        try clear hfz32_7
        try clear hfz34_0
        try clear hfz34_1
        try clear hfz34_2
        try clear hfz34_3
        try clear hfz34_4
        try clear hfz34_5
        try clear hfz34_6
        try clear hfz34_7
        try clear hfz35_0
        try clear hfz35_1
        try clear hfz35_2
        try clear hfz35_3
        try clear hfz35_4
        try clear hfz35_5
        try clear hfz35_6
        try clear hfz35_7
        try clear hfz37_0
        try clear hfz37_1
        try clear hfz37_2
        try clear hfz37_3
        try clear hfz37_4
        try clear hfz37_5
        try clear hfz37_6
        try clear hfz37_7
        try clear hfz43_0
        try clear hfz43_1
        try clear hfz43_2
        try clear hfz43_3
        try clear hfz43_4
        try clear hfz43_5
        try clear hfz43_6
        try clear hfz43_7
        try clear hfz49_0
        try clear hfz49_1
        try clear hfz49_2
        try clear hfz49_3
        try clear hfz49_4
        try clear hfz49_5
        try clear hfz49_6
        try clear hfz49_7
        try clear hfz51_0
        try clear hfz51_1
        try clear hfz51_2
        try clear hfz51_3
        try clear hfz51_4
        try clear hfz51_5
        try clear hfz51_6
        try clear hfz51_7
        try clear hfz52_0
        try clear hfz52_1
        try clear hfz52_2
        try clear hfz52_3
        try clear hfz52_4
        try clear hfz52_5
        try clear hfz52_6
        try clear hfz52_7
        try clear hfz9_0
        try clear hfz9_1
        try clear hfz9_2
        try clear hfz9_3
        try clear hfz9_4
        try clear hfz9_5
        try clear hfz9_6
        try clear hfz9_7
        try clear p2
        try clear p6
        obtain ⟨kq, x52_47, rfl, HA, HJ47, HO_10, BK590, HB⟩ := hcut
        cases kq with
        | zero => exact absurd HA.o (by simp [vinculumref13_inside.j1])
        | succ kj47 =>
         have H := HA.o
         clear HA
         simp only [vinculumref13_inside.j1] at H
         by_cases c53 : x52_47 = true
         ·subst c53
          have H1 : ((some (([a0_2, a0_5, wrap64 (a1 - a0_2)] : List Int) : List Int)).bind fun y621 => (if y621.length < 17592186044416 then ((some (y621 ++ [a2] : List Int)).bind fun y624 => (if y624.length + l3.length < 17592186044416 then (some (y624 ++ l3)) else (none))) else (none))) = some r := by rw [if_pos rfl] at H; exact H
          clear H
          have H := H1
          clear H1
          obtain ⟨y621, hy621⟩ : ∃ y_ : List Int, y_ = (([a0_2, a0_5, wrap64 (a1 - a0_2)] : List Int)) := ⟨_, rfl⟩
          replace H : (if y621.length < 17592186044416 then ((some (y621 ++ [a2] : List Int)).bind fun y624 => (if y624.length + l3.length < 17592186044416 then (some (y624 ++ l3)) else (none))) else (none)) = some r := by first | (rw [hy621]; with_reducible exact H) | (have H2_ := (Option.bind_some _ _).symm.trans H; rw [hy621]; with_reducible exact H2_) | (have H2_ := (Option.bind_some _ _).symm.trans H; with_reducible exact H2_) | with_reducible exact H | (rw [hy621]; exact H) | exact H
          have Ny621 := zab.mk hy621
          clear hy621
          by_cases c54 : y621.length < 17592186044416
          ·rw [if_pos c54] at H
           have LMc54 := zab.mk c54
           clear c54
           obtain ⟨y624, hy624⟩ : ∃ y_ : List Int, y_ = (y621 ++ [a2]) := ⟨_, rfl⟩
           replace H : (if y624.length + l3.length < 17592186044416 then (some (y624 ++ l3)) else (none)) = some r := by first | (rw [hy624]; with_reducible exact H) | (have H2_ := (Option.bind_some _ _).symm.trans H; rw [hy624]; with_reducible exact H2_) | (have H2_ := (Option.bind_some _ _).symm.trans H; with_reducible exact H2_) | with_reducible exact H | (rw [hy624]; exact H) | exact H
           have Ny624 := zab.mk hy624
           clear hy624
           by_cases c55 : y624.length + l3.length < 17592186044416
           ·rw [if_pos c55] at H
            have LMc55 := zab.mk c55
            clear c55
            obtain ⟨y627, hy627⟩ : ∃ y_ : List Int, y_ = (y624 ++ l3) := ⟨_, rfl⟩
            replace H : (some y627) = some r := by first | (rw [hy627]; with_reducible exact H) | (have H2_ := (Option.bind_some _ _).symm.trans H; rw [hy627]; with_reducible exact H2_) | (have H2_ := (Option.bind_some _ _).symm.trans H; with_reducible exact H2_) | with_reducible exact H | (rw [hy627]; exact H) | exact H
            have Ny627 := zab.mk hy627
            clear hy627
            obtain rfl := Option.some.inj H
            have hcz56_0 : wc.cell? ⟨gb590, 0, none⟩ = some (.int .i64 a0_0) := (zaa BK590.o 0).trans rfl
            have hcz56_1 : wc.cell? ⟨gb590, 1, none⟩ = some (.slice A0_1 l0_1.length c0_1) := (zaa BK590.o 1).trans rfl
            have hcz56_2 : wc.cell? ⟨gb590, 2, none⟩ = some (.int .i64 a0_2) := (zaa BK590.o 2).trans rfl
            have hcz56_3 : wc.cell? ⟨gb590, 3, none⟩ = some (.int .i64 a0_3) := (zaa BK590.o 3).trans rfl
            have hcz56_4 : wc.cell? ⟨gb590, 4, none⟩ = some (.slice A0_4 l0_4.length c0_4) := (zaa BK590.o 4).trans rfl
            have hcz56_5 : wc.cell? ⟨gb590, 5, none⟩ = some (.int .i64 a0_5) := (zaa BK590.o 5).trans rfl
            have hcz56_6 : wc.cell? ⟨gb590, 6, none⟩ = some (.string a0_6) := (zaa BK590.o 6).trans rfl
            have hcz56_7 : wc.cell? ⟨gb590, 7, none⟩ = some (.string a0_7) := (zaa BK590.o 7).trans rfl
            have hfz56_0 := zac BK590.o 0
            have hfz56_1 := zac BK590.o 1
            have hfz56_2 := zac BK590.o 2
            have hfz56_3 := zac BK590.o 3
            have hfz56_4 := zac BK590.o 4
            have hfz56_5 := zac BK590.o 5
            have hfz56_6 := zac BK590.o 6
            have hfz56_7 := zac BK590.o 7
            go_wp2_with (first | ((with_reducible refine zaq (N := 73) rfl ?_); refine Kd.R_lit (Kd.int .i64) _ 3 ?hg (N := 73) ?hd (xs := ([a0_2, a0_5, wrap64 (a1 - a0_2)] : List Int)) (inner := [.int .i64 a0_2, .int .i64 a0_5, .int .i64 (wrap64 (a1 - a0_2))]) (ok := fun _ => True) (okp := fun _ => True) ?hr ?hp (fun _ hk => hk) trivial (Below.refl _ _) (Nat.le_refl _) (by simp) ?_; (case hd => rfl); (case hg => rfl); (case hr => first | (go_simp; done) | (go_simp; rfl)); (case hp => exact (Reps.one (show Kd.M (Kd.int .i64) _ _ _ a0_2 [.int .i64 a0_2] from rfl) (Reps.one (show Kd.M (Kd.int .i64) _ _ _ a0_5 [.int .i64 a0_5] from rfl) (Reps.one (show Kd.M (Kd.int .i64) _ _ _ (wrap64 (a1 - a0_2)) [.int .i64 (wrap64 (a1 - a0_2))] from rfl) (Reps.none _ _))))); intro v622 w57 ho58 hb hg_ hnew_; clear hg_ hnew_; (first | rw [← Ny621.out] at ho58 | (simp only [Int.reduceToNat] at ho58; rw [← Ny621.out] at ho58)); have n0_ := zab.mk (Kd.R_elder' (by (with_reducible repeat (first | apply Kd.R_alloc | apply Kd.R_drewN | apply Kd.R_drew)); exact HO_10.o) (Kd.R_base ho58) hb); have n1_ := zab.mk (Kd.R_lower (Kd.R_new' ho58 (Kd.R_lt (by (with_reducible repeat (first | apply Kd.R_alloc | apply Kd.R_drewN | apply Kd.R_drew)); exact HO_10.o))) (zak (by repeat (first | (with_reducible first | exact HB.o | apply zad | apply zaf | apply zae | refine zag ?_ GE590.o) | exact HB.o)))); have n2_ := zab.mk (zam (by (with_reducible repeat (first | refine zaj ?_ _ | refine zah ?_ | refine zai ?_ _)); exact BK590.o) hb); have n3_ := zab.mk (zal (by repeat (first | (with_reducible first | exact HB.o | apply zad | apply zaf | apply zae | refine zag ?_ GE590.o) | exact HB.o)) hb); clear HO_10; clear BK590; clear HB; have HO_10 := n0_; have HO623 := n1_; have BK590 := n2_; have HB := n3_; clear n0_ n1_ n2_ n3_; clear hb ho58) | ((with_reducible refine zaM (b := .append) (xs := #[.tmp 155, .tmp 157]) rfl ?_); at_builtin; refine Kd.R_append (Kd.int .i64) (w0 := w) w.heap.size rfl (.tmp 155) (.tmp 157) 25 3 (.int .i64 0) 8 rfl Try.underlying25 info3 rfl (by decide) (by omega) v622 y621 a2 [.int .i64 a2] (fun k_ => some k_ ≠ (v592 : Value).ownBlock) (fun _ => False) rfl rfl ?aP (fun _ hk => hk.elim) ?aF ?aO ?aB ?aS ?aL ?_; (case aP => exact rfl); (case aB => exact (by repeat (first | (with_reducible first | exact HB.o | apply zad | apply zaf | apply zae | refine zag ?_ GE590.o) | exact HB.o))); (case aF => exact (fun k_ hk => Kd.fresh' (Kd.R_lt (by (with_reducible repeat (first | apply Kd.R_alloc | apply Kd.R_drewN | apply Kd.R_drew)); exact HO_10.o)) k_ hk)); (case aO => exact (by (with_reducible repeat (first | apply Kd.R_alloc | apply Kd.R_drewN | apply Kd.R_drew)); exact Kd.R_mono HO623.o (fun _ hk => hk.2))); (case aS => exact (zak (by repeat (first | (with_reducible first | exact HB.o | apply zad | apply zaf | apply zae | refine zag ?_ GE590.o) | exact HB.o)))); (case aL => have := LMc54.out; omega); intro v625 w59 ho hb hg hat; rw [← Ny624.out] at ho; have n0_ := zab.mk (Kd.R_after (ok := (fun _ => True)) (by (with_reducible repeat (first | apply Kd.R_alloc | apply Kd.R_drewN | apply Kd.R_drew)); exact HO_10.o) hg hat); have n1_ := zab.mk (zaK (by (with_reducible repeat (first | refine zaj ?_ _ | refine zah ?_ | refine zai ?_ _)); exact BK590.o) hg (Kd.R_ne HO623.o BK590.o (by decide))); have n2_ := zab.mk (hb); have n3_ := zab.mk (ho); clear HO_10; clear BK590; clear HB; clear HO623; have HO_10 := n0_; have BK590 := n1_; have HB := n2_; have HO626 := n3_; clear n0_ n1_ n2_ n3_; clear ho hb hg hat) | ((with_reducible refine zaM (b := .append) (xs := #[.tmp 158, .tmp 159]) rfl ?_); at_builtin; refine Kd.R_append_rows (Kd.int .i64) (w0 := w) w.heap.size rfl (.tmp 158) (.tmp 159) 25 3 (.int .i64 0) 8 rfl Try.underlying25 info3 rfl (by decide) (by omega) v625 y624 l3 _ _ _ (fun k_ => some k_ ≠ (v592 : Value).ownBlock) (fun _ => False) rfl rfl ?aO ?aR (fun _ _ h => h) (fun _ h => h.elim) ?aF ?aB ?aS ?aL ?_; (case aR => repeat (first | exact (Kd.C_below HR3.o HB.o) | (with_reducible first | refine Kd.C_alloc ?_ _ | refine Kd.C_drewN ?_ _ | refine Kd.C_drew ?_))); (case aB => exact (by repeat (first | (with_reducible first | exact HB.o | apply zad | apply zaf | apply zae | refine zag ?_ GE590.o) | exact HB.o))); (case aF => exact (fun k_ hk => Kd.fresh' (Kd.R_lt (by (with_reducible repeat (first | apply Kd.R_alloc | apply Kd.R_drewN | apply Kd.R_drew)); exact HO_10.o)) k_ hk)); (case aO => exact (by (with_reducible repeat (first | apply Kd.R_alloc | apply Kd.R_drewN | apply Kd.R_drew)); exact HO626.o)); (case aS => exact (zak (by repeat (first | (with_reducible first | exact HB.o | apply zad | apply zaf | apply zae | refine zag ?_ GE590.o) | exact HB.o)))); (case aL => have := LMc55.out; omega); intro v628 w60 ho hb hg hat; rw [← Ny627.out] at ho; have n0_ := zab.mk (Kd.R_after (ok := (fun _ => True)) (by (with_reducible repeat (first | apply Kd.R_alloc | apply Kd.R_drewN | apply Kd.R_drew)); exact HO_10.o) hg hat); have n1_ := zab.mk (zaK (by (with_reducible repeat (first | refine zaj ?_ _ | refine zah ?_ | refine zai ?_ _)); exact BK590.o) hg (Kd.R_ne HO626.o BK590.o (by decide))); have n2_ := zab.mk (hb); have n3_ := zab.mk (ho); clear HO_10; clear BK590; clear HB; clear HO626; have HO_10 := n0_; have BK590 := n1_; have HB := n2_; have HO629 := n3_; clear n0_ n1_ n2_ n3_; clear ho hb hg hat))
            go_ret
            exact ⟨_, by first | rfl | (simp [errW_none, errW_some] <;> rfl) | (simp [*, errW_none, errW_some] <;> rfl), by (with_reducible repeat (first | apply Kd.R_alloc | apply Kd.R_drewN | apply Kd.R_drew)); exact Kd.R_mono HO629.o (fun _ hk => trivial), by repeat (first | (with_reducible first | exact HB.o | apply zad | apply zaf | apply zae | refine zag ?_ GE590.o) | exact HB.o)⟩
           ·rw [if_neg c55] at H
            exact absurd H (by simp)
          ·rw [if_neg c54] at H
           exact absurd H (by simp)
         ·replace c53 := Bool.eq_false_iff.mpr c53
          subst c53
          have H1 : (if a0_0 = 3 then ((some (([wrap64 ((wrap64 (a1 - a0_3)) + 1)] : List Int) : List Int)).bind fun y630 => (if y630.length < 17592186044416 then ((some (y630 ++ [a2] : List Int)).bind fun y633 => (if y633.length + l3.length < 17592186044416 then (some (y633 ++ l3)) else (none))) else (none))) else (if a0_0 = 4 then (if a1 = a0_2 then (vinculumref13_inside.j2 kj47 a1 a2 l3 y591 (decide (a2 < a0_5)) a0_0 l0_1 a0_2 a0_3 l0_4 a0_5 a0_6 a0_7) else (vinculumref13_inside.j2 kj47 a1 a2 l3 y591 false a0_0 l0_1 a0_2 a0_3 l0_4 a0_5 a0_6 a0_7)) else (vinculumref13_inside.j2 kj47 a1 a2 l3 y591 false a0_0 l0_1 a0_2 a0_3 l0_4 a0_5 a0_6 a0_7))) = some r := by rw [if_neg (show ¬ (false = true) by decide)] at H; exact H
          clear H
          have H := H1
          clear H1
          by_cases c61 : a0_0 = 3
          ·rw [if_pos c61] at H
           have c61b0 : (a0_0 == 3) = true := beq_iff_eq.mpr c61
           have c61b1 : (a0_0 != 3) = false := bne_eq_false_iff_eq.mpr c61
           clear c61
           obtain ⟨y630, hy630⟩ : ∃ y_ : List Int, y_ = (([wrap64 ((wrap64 (a1 - a0_3)) + 1)] : List Int)) := ⟨_, rfl⟩
           replace H : (if y630.length < 17592186044416 then ((some (y630 ++ [a2] : List Int)).bind fun y633 => (if y633.length + l3.length < 17592186044416 then (some (y633 ++ l3)) else (none))) else (none)) = some r := by first | (rw [hy630]; with_reducible exact H) | (have H2_ := (Option.bind_some _ _).symm.trans H; rw [hy630]; with_reducible exact H2_) | (have H2_ := (Option.bind_some _ _).symm.trans H; with_reducible exact H2_) | with_reducible exact H | (rw [hy630]; exact H) | exact H
           have Ny630 := zab.mk hy630
           clear hy630
           by_cases c62 : y630.length < 17592186044416
           ·rw [if_pos c62] at H
            have LMc62 := zab.mk c62
            clear c62
            obtain ⟨y633, hy633⟩ : ∃ y_ : List Int, y_ = (y630 ++ [a2]) := ⟨_, rfl⟩
            replace H : (if y633.length + l3.length < 17592186044416 then (some (y633 ++ l3)) else (none)) = some r := by first | (rw [hy633]; with_reducible exact H) | (have H2_ := (Option.bind_some _ _).symm.trans H; rw [hy633]; with_reducible exact H2_) | (have H2_ := (Option.bind_some _ _).symm.trans H; with_reducible exact H2_) | with_reducible exact H | (rw [hy633]; exact H) | exact H
            have Ny633 := zab.mk hy633
            clear hy633
            by_cases c63 : y633.length + l3.length < 17592186044416
            ·rw [if_pos c63] at H
             have LMc63 := zab.mk c63
             clear c63
             obtain ⟨y636, hy636⟩ : ∃ y_ : List Int, y_ = (y633 ++ l3) := ⟨_, rfl⟩
             replace H : (some y636) = some r := by first | (rw [hy636]; with_reducible exact H) | (have H2_ := (Option.bind_some _ _).symm.trans H; rw [hy636]; with_reducible exact H2_) | (have H2_ := (Option.bind_some _ _).symm.trans H; with_reducible exact H2_) | with_reducible exact H | (rw [hy636]; exact H) | exact H
             have Ny636 := zab.mk hy636
             clear hy636
             obtain rfl := Option.some.inj H
             have hcz64_0 : wc.cell? ⟨gb590, 0, none⟩ = some (.int .i64 a0_0) := (zaa BK590.o 0).trans rfl
             have hcz64_1 : wc.cell? ⟨gb590, 1, none⟩ = some (.slice A0_1 l0_1.length c0_1) := (zaa BK590.o 1).trans rfl
             have hcz64_2 : wc.cell? ⟨gb590, 2, none⟩ = some (.int .i64 a0_2) := (zaa BK590.o 2).trans rfl
             have hcz64_3 : wc.cell? ⟨gb590, 3, none⟩ = some (.int .i64 a0_3) := (zaa BK590.o 3).trans rfl
             have hcz64_4 : wc.cell? ⟨gb590, 4, none⟩ = some (.slice A0_4 l0_4.length c0_4) := (zaa BK590.o 4).trans rfl
             have hcz64_5 : wc.cell? ⟨gb590, 5, none⟩ = some (.int .i64 a0_5) := (zaa BK590.o 5).trans rfl
             have hcz64_6 : wc.cell? ⟨gb590, 6, none⟩ = some (.string a0_6) := (zaa BK590.o 6).trans rfl
             have hcz64_7 : wc.cell? ⟨gb590, 7, none⟩ = some (.string a0_7) := (zaa BK590.o 7).trans rfl
             have hfz64_0 := zac BK590.o 0
             have hfz64_1 := zac BK590.o 1
             have hfz64_2 := zac BK590.o 2
             have hfz64_3 := zac BK590.o 3
             have hfz64_4 := zac BK590.o 4
             have hfz64_5 := zac BK590.o 5
             have hfz64_6 := zac BK590.o 6
             have hfz64_7 := zac BK590.o 7
             go_wp2_with (first | ((with_reducible refine zaq (N := 83) rfl ?_); refine Kd.R_lit (Kd.int .i64) _ 3 ?hg (N := 83) ?hd (xs := ([wrap64 ((wrap64 (a1 - a0_3)) + 1)] : List Int)) (inner := [.int .i64 (wrap64 ((wrap64 (a1 - a0_3)) + 1))]) (ok := fun _ => True) (okp := fun _ => True) ?hr ?hp (fun _ hk => hk) trivial (Below.refl _ _) (Nat.le_refl _) (by simp) ?_; (case hd => rfl); (case hg => rfl); (case hr => first | (go_simp; done) | (go_simp; rfl)); (case hp => exact (Reps.one (show Kd.M (Kd.int .i64) _ _ _ (wrap64 ((wrap64 (a1 - a0_3)) + 1)) [.int .i64 (wrap64 ((wrap64 (a1 - a0_3)) + 1))] from rfl) (Reps.none _ _))); intro v631 w65 ho66 hb hg_ hnew_; clear hg_ hnew_; (first | rw [← Ny630.out] at ho66 | (simp only [Int.reduceToNat] at ho66; rw [← Ny630.out] at ho66)); have n0_ := zab.mk (Kd.R_elder' (by (with_reducible repeat (first | apply Kd.R_alloc | apply Kd.R_drewN | apply Kd.R_drew)); exact HO_10.o) (Kd.R_base ho66) hb); have n1_ := zab.mk (Kd.R_lower (Kd.R_new' ho66 (Kd.R_lt (by (with_reducible repeat (first | apply Kd.R_alloc | apply Kd.R_drewN | apply Kd.R_drew)); exact HO_10.o))) (zak (by repeat (first | (with_reducible first | exact HB.o | apply zad | apply zaf | apply zae | refine zag ?_ GE590.o) | exact HB.o)))); have n2_ := zab.mk (zam (by (with_reducible repeat (first | refine zaj ?_ _ | refine zah ?_ | refine zai ?_ _)); exact BK590.o) hb); have n3_ := zab.mk (zal (by repeat (first | (with_reducible first | exact HB.o | apply zad | apply zaf | apply zae | refine zag ?_ GE590.o) | exact HB.o)) hb); clear HO_10; clear BK590; clear HB; have HO_10 := n0_; have HO632 := n1_; have BK590 := n2_; have HB := n3_; clear n0_ n1_ n2_ n3_; clear hb ho66) | ((with_reducible refine zaM (b := .append) (xs := #[.tmp 155, .tmp 157]) rfl ?_); at_builtin; refine Kd.R_append (Kd.int .i64) (w0 := w) w.heap.size rfl (.tmp 155) (.tmp 157) 25 3 (.int .i64 0) 8 rfl Try.underlying25 info3 rfl (by decide) (by omega) v631 y630 a2 [.int .i64 a2] (fun k_ => some k_ ≠ (v592 : Value).ownBlock) (fun _ => False) rfl rfl ?aP (fun _ hk => hk.elim) ?aF ?aO ?aB ?aS ?aL ?_; (case aP => exact rfl); (case aB => exact (by repeat (first | (with_reducible first | exact HB.o | apply zad | apply zaf | apply zae | refine zag ?_ GE590.o) | exact HB.o))); (case aF => exact (fun k_ hk => Kd.fresh' (Kd.R_lt (by (with_reducible repeat (first | apply Kd.R_alloc | apply Kd.R_drewN | apply Kd.R_drew)); exact HO_10.o)) k_ hk)); (case aO => exact (by (with_reducible repeat (first | apply Kd.R_alloc | apply Kd.R_drewN | apply Kd.R_drew)); exact Kd.R_mono HO632.o (fun _ hk => hk.2))); (case aS => exact (zak (by repeat (first | (with_reducible first | exact HB.o | apply zad | apply zaf | apply zae | refine zag ?_ GE590.o) | exact HB.o)))); (case aL => have := LMc62.out; omega); intro v634 w67 ho hb hg hat; rw [← Ny633.out] at ho; have n0_ := zab.mk (Kd.R_after (ok := (fun _ => True)) (by (with_reducible repeat (first | apply Kd.R_alloc | apply Kd.R_drewN | apply Kd.R_drew)); exact HO_10.o) hg hat); have n1_ := zab.mk (zaK (by (with_reducible repeat (first | refine zaj ?_ _ | refine zah ?_ | refine zai ?_ _)); exact BK590.o) hg (Kd.R_ne HO632.o BK590.o (by decide))); have n2_ := zab.mk (hb); have n3_ := zab.mk (ho); clear HO_10; clear BK590; clear HB; clear HO632; have HO_10 := n0_; have BK590 := n1_; have HB := n2_; have HO635 := n3_; clear n0_ n1_ n2_ n3_; clear ho hb hg hat) | ((with_reducible refine zaM (b := .append) (xs := #[.tmp 158, .tmp 159]) rfl ?_); at_builtin; refine Kd.R_append_rows (Kd.int .i64) (w0 := w) w.heap.size rfl (.tmp 158) (.tmp 159) 25 3 (.int .i64 0) 8 rfl Try.underlying25 info3 rfl (by decide) (by omega) v634 y633 l3 _ _ _ (fun k_ => some k_ ≠ (v592 : Value).ownBlock) (fun _ => False) rfl rfl ?aO ?aR (fun _ _ h => h) (fun _ h => h.elim) ?aF ?aB ?aS ?aL ?_; (case aR => repeat (first | exact (Kd.C_below HR3.o HB.o) | (with_reducible first | refine Kd.C_alloc ?_ _ | refine Kd.C_drewN ?_ _ | refine Kd.C_drew ?_))); (case aB => exact (by repeat (first | (with_reducible first | exact HB.o | apply zad | apply zaf | apply zae | refine zag ?_ GE590.o) | exact HB.o))); (case aF => exact (fun k_ hk => Kd.fresh' (Kd.R_lt (by (with_reducible repeat (first | apply Kd.R_alloc | apply Kd.R_drewN | apply Kd.R_drew)); exact HO_10.o)) k_ hk)); (case aO => exact (by (with_reducible repeat (first | apply Kd.R_alloc | apply Kd.R_drewN | apply Kd.R_drew)); exact HO635.o)); (case aS => exact (zak (by repeat (first | (with_reducible first | exact HB.o | apply zad | apply zaf | apply zae | refine zag ?_ GE590.o) | exact HB.o)))); (case aL => have := LMc63.out; omega); intro v637 w68 ho hb hg hat; rw [← Ny636.out] at ho; have n0_ := zab.mk (Kd.R_after (ok := (fun _ => True)) (by (with_reducible repeat (first | apply Kd.R_alloc | apply Kd.R_drewN | apply Kd.R_drew)); exact HO_10.o) hg hat); have n1_ := zab.mk (zaK (by (with_reducible repeat (first | refine zaj ?_ _ | refine zah ?_ | refine zai ?_ _)); exact BK590.o) hg (Kd.R_ne HO635.o BK590.o (by decide))); have n2_ := zab.mk (hb); have n3_ := zab.mk (ho); clear HO_10; clear BK590; clear HB; clear HO635; have HO_10 := n0_; have BK590 := n1_; have HB := n2_; have HO638 := n3_; clear n0_ n1_ n2_ n3_; clear ho hb hg hat))
             go_ret
             exact ⟨_, by first | rfl | (simp [errW_none, errW_some] <;> rfl) | (simp [*, errW_none, errW_some] <;> rfl), by (with_reducible repeat (first | apply Kd.R_alloc | apply Kd.R_drewN | apply Kd.R_drew)); exact Kd.R_mono HO638.o (fun _ hk => trivial), by repeat (first | (with_reducible first | exact HB.o | apply zad | apply zaf | apply zae | refine zag ?_ GE590.o) | exact HB.o)⟩
            ·rw [if_neg c63] at H
             exact absurd H (by simp)
           ·rw [if_neg c62] at H
            exact absurd H (by simp)
          ·rw [if_neg c61] at H
           have c61b0 : (a0_0 == 3) = false := beq_eq_false_iff_ne.mpr c61
           have c61b1 : (a0_0 != 3) = true := bne_iff_ne.mpr c61
           have HC69 := zab.mk H
           clear H
           have hcz70_0 : wc.cell? ⟨gb590, 0, none⟩ = some (.int .i64 a0_0) := (zaa BK590.o 0).trans rfl
           have hcz70_1 : wc.cell? ⟨gb590, 1, none⟩ = some (.slice A0_1 l0_1.length c0_1) := (zaa BK590.o 1).trans rfl
           have hcz70_2 : wc.cell? ⟨gb590, 2, none⟩ = some (.int .i64 a0_2) := (zaa BK590.o 2).trans rfl
           have hcz70_3 : wc.cell? ⟨gb590, 3, none⟩ = some (.int .i64 a0_3) := (zaa BK590.o 3).trans rfl
           have hcz70_4 : wc.cell? ⟨gb590, 4, none⟩ = some (.slice A0_4 l0_4.length c0_4) := (zaa BK590.o 4).trans rfl
           have hcz70_5 : wc.cell? ⟨gb590, 5, none⟩ = some (.int .i64 a0_5) := (zaa BK590.o 5).trans rfl
           have hcz70_6 : wc.cell? ⟨gb590, 6, none⟩ = some (.string a0_6) := (zaa BK590.o 6).trans rfl
           have hcz70_7 : wc.cell? ⟨gb590, 7, none⟩ = some (.string a0_7) := (zaa BK590.o 7).trans rfl
           have hfz70_0 := zac BK590.o 0
           have hfz70_1 := zac BK590.o 1
           have hfz70_2 := zac BK590.o 2
           have hfz70_3 := zac BK590.o 3
           have hfz70_4 := zac BK590.o 4
           have hfz70_5 := zac BK590.o 5
           have hfz70_6 := zac BK590.o 6
           have hfz70_7 := zac BK590.o 7
           go_upto_region 14 with (fail)
           go_cut [84] (fun v84 wc => ∃ (kq : Nat) (x84_68 : Bool), v84 = .bool x84_68 ∧ zab (vinculumref13_inside.j2 kq a1 a2 l3 y591 x84_68 a0_0 l0_1 a0_2 a0_3 l0_4 a0_5 a0_6 a0_7 = some r) ∧ zab (kq ≤ kj47) ∧ zab (Kd.R (Kd.int .i64) 3 wc w.heap.size (fun _ => True) v592 y591) ∧ zab (wc.heap[gb590]? = some (.cells #[.int .i64 a0_0, (.slice A0_1 l0_1.length c0_1), .int .i64 a0_2, .int .i64 a0_3, (.slice A0_4 l0_4.length c0_4), .int .i64 a0_5, .string a0_6, .string a0_7] 27 (0, 0))) ∧ zab (Below w.heap.size w wc))
           case first =>
            have H := HC69.out
            clear HC69
            by_cases c71 : a0_0 = 4
            ·rw [if_pos c71] at H
             have c71b0 : (a0_0 == 4) = true := beq_iff_eq.mpr c71
             have c71b1 : (a0_0 != 4) = false := bne_eq_false_iff_eq.mpr c71
             clear c71
             (first | rw [c71b0] | (simp only [i64_w, i32_w]; rw [c71b0]) | skip)
             by_cases c72 : a1 = a0_2
             ·rw [if_pos c72] at H
              have c72b0 : (a1 == a0_2) = true := beq_iff_eq.mpr c72
              have c72b1 : (a1 != a0_2) = false := bne_eq_false_iff_eq.mpr c72
              clear c72
              have H' := zab.mk H
              clear H
              have hcz73_0 : wc.cell? ⟨gb590, 0, none⟩ = some (.int .i64 a0_0) := (zaa BK590.o 0).trans rfl
              have hcz73_1 : wc.cell? ⟨gb590, 1, none⟩ = some (.slice A0_1 l0_1.length c0_1) := (zaa BK590.o 1).trans rfl
              have hcz73_2 : wc.cell? ⟨gb590, 2, none⟩ = some (.int .i64 a0_2) := (zaa BK590.o 2).trans rfl
              have hcz73_3 : wc.cell? ⟨gb590, 3, none⟩ = some (.int .i64 a0_3) := (zaa BK590.o 3).trans rfl
              have hcz73_4 : wc.cell? ⟨gb590, 4, none⟩ = some (.slice A0_4 l0_4.length c0_4) := (zaa BK590.o 4).trans rfl
              have hcz73_5 : wc.cell? ⟨gb590, 5, none⟩ = some (.int .i64 a0_5) := (zaa BK590.o 5).trans rfl
              have hcz73_6 : wc.cell? ⟨gb590, 6, none⟩ = some (.string a0_6) := (zaa BK590.o 6).trans rfl
              have hcz73_7 : wc.cell? ⟨gb590, 7, none⟩ = some (.string a0_7) := (zaa BK590.o 7).trans rfl
              have hfz73_0 := zac BK590.o 0
              have hfz73_1 := zac BK590.o 1
              have hfz73_2 := zac BK590.o 2
              have hfz73_3 := zac BK590.o 3
              have hfz73_4 := zac BK590.o 4
              have hfz73_5 := zac BK590.o 5
              have hfz73_6 := zac BK590.o 6
              have hfz73_7 := zac BK590.o 7
              go_wp2
              go_meet
              case rel => exact ⟨_, (decide (a2 < a0_5)), (by first | rfl | (simp; done) | (simp [*]; done)), H', ⟨by have := HJ26.out; have := HJ47.out; first | omega | exact Nat.le_refl _⟩, ⟨by (with_reducible repeat (first | apply Kd.R_alloc | apply Kd.R_drewN | apply Kd.R_drew)); exact HO_10.o⟩, ⟨by (with_reducible repeat (first | refine zaj ?_ _ | refine zah ?_ | refine zai ?_ _)); exact BK590.o⟩, ⟨by repeat (first | (with_reducible first | exact HB.o | apply zad | apply zaf | apply zae | refine zag ?_ GE590.o) | exact HB.o)⟩⟩
             ·rw [if_neg c72] at H
              have c72b0 : (a1 == a0_2) = false := beq_eq_false_iff_ne.mpr c72
              have c72b1 : (a1 != a0_2) = true := bne_iff_ne.mpr c72
              have H' := zab.mk H
              clear H
              have hcz74_0 : wc.cell? ⟨gb590, 0, none⟩ = some (.int .i64 a0_0) := (zaa BK590.o 0).trans rfl
              have hcz74_1 : wc.cell? ⟨gb590, 1, none⟩ = some (.slice A0_1 l0_1.length c0_1) := (zaa BK590.o 1).trans rfl
              have hcz74_2 : wc.cell? ⟨gb590, 2, none⟩ = some (.int .i64 a0_2) := (zaa BK590.o 2).trans rfl
              have hcz74_3 : wc.cell? ⟨gb590, 3, none⟩ = some (.int .i64 a0_3) := (zaa BK590.o 3).trans rfl
              have hcz74_4 : wc.cell? ⟨gb590, 4, none⟩ = some (.slice A0_4 l0_4.length c0_4) := (zaa BK590.o 4).trans rfl
              have hcz74_5 : wc.cell? ⟨gb590, 5, none⟩ = some (.int .i64 a0_5) := (zaa BK590.o 5).trans rfl
              have hcz74_6 : wc.cell? ⟨gb590, 6, none⟩ = some (.string a0_6) := (zaa BK590.o 6).trans rfl
              have hcz74_7 : wc.cell? ⟨gb590, 7, none⟩ = some (.string a0_7) := (zaa BK590.o 7).trans rfl
              have hfz74_0 := zac BK590.o 0
              have hfz74_1 := zac BK590.o 1
              have hfz74_2 := zac BK590.o 2
              have hfz74_3 := zac BK590.o 3
              have hfz74_4 := zac BK590.o 4
              have hfz74_5 := zac BK590.o 5
              have hfz74_6 := zac BK590.o 6
              have hfz74_7 := zac BK590.o 7
              go_wp2
              go_meet
              case rel => exact ⟨_, (false), (by first | rfl | (simp; done) | (simp [*]; done)), H', ⟨by have := HJ26.out; have := HJ47.out; first | omega | exact Nat.le_refl _⟩, ⟨by (with_reducible repeat (first | apply Kd.R_alloc | apply Kd.R_drewN | apply Kd.R_drew)); exact HO_10.o⟩, ⟨by (with_reducible repeat (first | refine zaj ?_ _ | refine zah ?_ | refine zai ?_ _)); exact BK590.o⟩, ⟨by repeat (first | (with_reducible first | exact HB.o | apply zad | apply zaf | apply zae | refine zag ?_ GE590.o) | exact HB.o)⟩⟩
            ·rw [if_neg c71] at H
             have c71b0 : (a0_0 == 4) = false := beq_eq_false_iff_ne.mpr c71
             have c71b1 : (a0_0 != 4) = true := bne_iff_ne.mpr c71
             (first | rw [c71b0] | (simp only [i64_w, i32_w]; rw [c71b0]) | skip)
             have H' := zab.mk H
             clear H
             have hcz75_0 : wc.cell? ⟨gb590, 0, none⟩ = some (.int .i64 a0_0) := (zaa BK590.o 0).trans rfl
             have hcz75_1 : wc.cell? ⟨gb590, 1, none⟩ = some (.slice A0_1 l0_1.length c0_1) := (zaa BK590.o 1).trans rfl
             have hcz75_2 : wc.cell? ⟨gb590, 2, none⟩ = some (.int .i64 a0_2) := (zaa BK590.o 2).trans rfl
             have hcz75_3 : wc.cell? ⟨gb590, 3, none⟩ = some (.int .i64 a0_3) := (zaa BK590.o 3).trans rfl
             have hcz75_4 : wc.cell? ⟨gb590, 4, none⟩ = some (.slice A0_4 l0_4.length c0_4) := (zaa BK590.o 4).trans rfl
             have hcz75_5 : wc.cell? ⟨gb590, 5, none⟩ = some (.int .i64 a0_5) := (zaa BK590.o 5).trans rfl
             have hcz75_6 : wc.cell? ⟨gb590, 6, none⟩ = some (.string a0_6) := (zaa BK590.o 6).trans rfl
             have hcz75_7 : wc.cell? ⟨gb590, 7, none⟩ = some (.string a0_7) := (zaa BK590.o 7).trans rfl
             have hfz75_0 := zac BK590.o 0
             have hfz75_1 := zac BK590.o 1
             have hfz75_2 := zac BK590.o 2
             have hfz75_3 := zac BK590.o 3
             have hfz75_4 := zac BK590.o 4
             have hfz75_5 := zac BK590.o 5
             have hfz75_6 := zac BK590.o 6
             have hfz75_7 := zac BK590.o 7
             go_wp2
             go_meet
             case rel => exact ⟨_, (false), (by first | rfl | (simp; done) | (simp [*]; done)), H', ⟨by have := HJ26.out; have := HJ47.out; first | omega | exact Nat.le_refl _⟩, ⟨by (with_reducible repeat (first | apply Kd.R_alloc | apply Kd.R_drewN | apply Kd.R_drew)); exact HO_10.o⟩, ⟨by (with_reducible repeat (first | refine zaj ?_ _ | refine zah ?_ | refine zai ?_ _)); exact BK590.o⟩, ⟨by repeat (first | (with_reducible first | exact HB.o | apply zad | apply zaf | apply zae | refine zag ?_ GE590.o) | exact HB.o)⟩⟩
           case rest =>
            clear HC69
            try clear c1
            try clear p2
            try clear c3
            try clear c4
            try clear c5
            try clear c5b0
            try clear c6
            try clear p6
            try clear c7
            try clear c15
            try clear c15b0
            try clear c15b1
            try clear c16
            try clear c17
            try clear c33
            try clear c33b0
            try clear c33b1
            try clear c36
            try clear c40
            try clear c40b0
            try clear c40b1
            try clear c41
            try clear c42
            try clear c47
            try clear c50
            try clear c50b0
            try clear c50b1
            try clear c53
            try clear c54
            try clear c55
            try clear c61
            try clear c61b0
            try clear c61b1
            try clear c62
            try clear c63
            try clear p64
            try clear c71
            try clear c71b0
            try clear c71b1
            try clear c72
            try clear c72b0
            try clear c72b1
            try clear hcz12_0
            try clear hcz12_1
            try clear hcz12_2
            try clear hcz12_3
            try clear hcz12_4
            try clear hcz12_5
            try clear hcz12_6
            try clear hcz12_7
            try clear hcz19_0
            try clear hcz19_1
            try clear hcz19_2
            try clear hcz19_3
            try clear hcz19_4
            try clear hcz19_5
            try clear hcz19_6
            try clear hcz19_7
            try clear hcz22_0
            try clear hcz22_1
            try clear hcz22_2
            try clear hcz22_3
            try clear hcz22_4
            try clear hcz22_5
            try clear hcz22_6
            try clear hcz22_7
            try clear hcz29_0
            try clear hcz29_1
            try clear hcz29_2
            try clear hcz29_3
            try clear hcz29_4
            try clear hcz29_5
            try clear hcz29_6
            try clear hcz29_7
            try clear hcz32_0
            try clear hcz32_1
            try clear hcz32_2
            try clear hcz32_3
            try clear hcz32_4
            try clear hcz32_5
            try clear hcz32_6
            try clear hcz32_7
            try clear hcz34_0
            try clear hcz34_1
            try clear hcz34_2
            try clear hcz34_3
            try clear hcz34_4
            try clear hcz34_5
            try clear hcz34_6
            try clear hcz34_7
            try clear hcz35_0
            try clear hcz35_1
            try clear hcz35_2
            try clear hcz35_3
            try clear hcz35_4
            try clear hcz35_5
            try clear hcz35_6
            try clear hcz35_7
            try clear hcz37_0
            try clear hcz37_1
            try clear hcz37_2
            try clear hcz37_3
            try clear hcz37_4
            try clear hcz37_5
            try clear hcz37_6
            try clear hcz37_7
            try clear hcz43_0
            try clear hcz43_1
            try clear hcz43_2
            try clear hcz43_3
            try clear hcz43_4
            try clear hcz43_5
            try clear hcz43_6
            try clear hcz43_7
            try clear hcz49_0
            try clear hcz49_1
            try clear hcz49_2
            try clear hcz49_3
            try clear hcz49_4
            try clear hcz49_5
            try clear hcz49_6
            try clear hcz49_7
            try clear hcz51_0
            try clear hcz51_1
            try clear hcz51_2
            try clear hcz51_3
            try clear hcz51_4
            try clear hcz51_5
            try clear hcz51_6
            try clear hcz51_7
            try clear hcz52_0
            try clear hcz52_1
            try clear hcz52_2
            try clear hcz52_3
            try clear hcz52_4
            try clear hcz52_5
            try clear hcz52_6
            try clear hcz52_7
            try clear hcz56_0
            try clear hcz56_1
            try clear hcz56_2
            try clear hcz56_3
            try clear hcz56_4
            try clear hcz56_5
            try clear hcz56_6
            try clear hcz56_7
            try clear hcz64_0
            try clear hcz64_1
            try clear hcz64_2
            try clear hcz64_3
            try clear hcz64_4
            try clear hcz64_5
            try clear hcz64_6
            try clear hcz64_7
            try clear hcz70_0
            try clear hcz70_1
            try clear hcz70_2
            try clear hcz70_3
            try clear hcz70_4
            try clear hcz70_5
            try clear hcz70_6
            try clear hcz70_7
            try clear hcz73_0
            try clear hcz73_1
            try clear hcz73_2
            try clear hcz73_3
            try clear hcz73_4
            try clear hcz73_5
            try clear hcz73_6
            try clear hcz73_7
            try clear hcz74_0
            try clear hcz74_1
            try clear hcz74_2
            try clear hcz74_3
            try clear hcz74_4
            try clear hcz74_5
            try clear hcz74_6
            try clear hcz74_7
            try clear hcz75_0
            try clear hcz75_1
            try clear hcz75_2
            try clear hcz75_3
            try clear hcz75_4
            try clear hcz75_5
            try clear hcz75_6
            try clear hcz75_7
            try clear hcz9_0
            try clear hcz9_1
            try clear hcz9_2
            try clear hcz9_3
            try clear hcz9_4
            try clear hcz9_5
            try clear hcz9_6
            try clear hcz9_7
            try clear hfz12_0
            try clear hfz12_1
            try clear hfz12_2
            try clear hfz12_3
            try clear hfz12_4
            try clear hfz12_5
            try clear hfz12_6
            try clear hfz12_7
            try clear hfz19_0
            try clear hfz19_1
            try clear hfz19_2
            try clear hfz19_3
            try clear hfz19_4
            try clear hfz19_5
            try clear hfz19_6
            try clear hfz19_7
            try clear hfz22_0
            try clear hfz22_1
            try clear hfz22_2
            try clear hfz22_3
            try clear hfz22_4
            try clear hfz22_5
            try clear hfz22_6
            try clear hfz22_7
            try clear hfz29_0
            try clear hfz29_1
            try clear hfz29_2
            try clear hfz29_3
            try clear hfz29_4
            try clear hfz29_5
            try clear hfz29_6
            try clear hfz29_7
            try clear hfz32_0
            try clear hfz32_1
            try clear hfz32_2
            try clear hfz32_3
            try clear hfz32_4
            try clear hfz32_5
            try clear hfz32_6
            try clear hfz32_7
            try clear hfz34_0
            try clear hfz34_1
            try clear hfz34_2
            try clear hfz34_3
            try clear hfz34_4
            try clear hfz34_5
            try clear hfz34_6
            try clear hfz34_7
            try clear hfz35_0
            try clear hfz35_1
            try clear hfz35_2
            try clear hfz35_3
            try clear hfz35_4
            try clear hfz35_5
            try clear hfz35_6
            try clear hfz35_7
            try clear hfz37_0
            try clear hfz37_1
            try clear hfz37_2
            try clear hfz37_3
            try clear hfz37_4
            try clear hfz37_5
            try clear hfz37_6
            try clear hfz37_7
            try clear hfz43_0
            try clear hfz43_1
            try clear hfz43_2
            try clear hfz43_3
            try clear hfz43_4
            try clear hfz43_5
            try clear hfz43_6
            try clear hfz43_7
            try clear hfz49_0
            try clear hfz49_1
            try clear hfz49_2
            try clear hfz49_3
            try clear hfz49_4
            try clear hfz49_5
            try clear hfz49_6
            try clear hfz49_7
            try clear hfz51_0
            try clear hfz51_1
            try clear hfz51_2
            try clear hfz51_3
            try clear hfz51_4
            try clear hfz51_5
            try clear hfz51_6
            try clear hfz51_7
            try clear hfz52_0
            try clear hfz52_1
            try clear hfz52_2
            try clear hfz52_3
            try clear hfz52_4
            try clear hfz52_5
            try clear hfz52_6
            try clear hfz52_7
            try clear hfz56_0
            try clear hfz56_1
            try clear hfz56_2
            try clear hfz56_3
            try clear hfz56_4
            try clear hfz56_5
            try clear hfz56_6
            try clear hfz56_7
            try clear hfz64_0
            try clear hfz64_1
            try clear hfz64_2
            try clear hfz64_3
            try clear hfz64_4
            try clear hfz64_5
            try clear hfz64_6
            try clear hfz64_7
            try clear hfz70_0
            try clear hfz70_1
            try clear hfz70_2
            try clear hfz70_3
            try clear hfz70_4
            try clear hfz70_5
            try clear hfz70_6
            try clear hfz70_7
            try clear hfz73_0
            try clear hfz73_1
            try clear hfz73_2
            try clear hfz73_3
            try clear hfz73_4
            try clear hfz73_5
            try clear hfz73_6
            try clear hfz73_7
            try clear hfz74_0
            try clear hfz74_1
            try clear hfz74_2
            try clear hfz74_3
            try clear hfz74_4
            try clear hfz74_5
            try clear hfz74_6
            try clear hfz74_7
            try clear hfz75_0
            try clear hfz75_1
            try clear hfz75_2
            try clear hfz75_3
            try clear hfz75_4
            try clear hfz75_5
            try clear hfz75_6
            try clear hfz75_7
            try clear hfz9_0
            try clear hfz9_1
            try clear hfz9_2
            try clear hfz9_3
            try clear hfz9_4
            try clear hfz9_5
            try clear hfz9_6
            try clear hfz9_7
            try clear p2
            try clear p6
            obtain ⟨kq, x84_68, rfl, HA, HJ68, HO_10, BK590, HB⟩ := hcut
            cases kq with
            | zero => exact absurd HA.o (by simp [vinculumref13_inside.j2])
            | succ kj68 =>
             have H := HA.o
             clear HA
             simp only [vinculumref13_inside.j2] at H
             by_cases c76 : x84_68 = true
             ·subst c76
              have H1 : (some (([a0_2] : List Int))) = some r := by rw [if_pos rfl] at H; exact H
              clear H
              have H := H1
              clear H1
              obtain ⟨y639, hy639⟩ : ∃ y_ : List Int, y_ = (([a0_2] : List Int)) := ⟨_, rfl⟩
              replace H : (some y639) = some r := by first | (rw [hy639]; with_reducible exact H) | (have H2_ := (Option.bind_some _ _).symm.trans H; rw [hy639]; with_reducible exact H2_) | (have H2_ := (Option.bind_some _ _).symm.trans H; with_reducible exact H2_) | with_reducible exact H | (rw [hy639]; exact H) | exact H
              have Ny639 := zab.mk hy639
              clear hy639
              obtain rfl := Option.some.inj H
              have hcz77_0 : wc.cell? ⟨gb590, 0, none⟩ = some (.int .i64 a0_0) := (zaa BK590.o 0).trans rfl
              have hcz77_1 : wc.cell? ⟨gb590, 1, none⟩ = some (.slice A0_1 l0_1.length c0_1) := (zaa BK590.o 1).trans rfl
              have hcz77_2 : wc.cell? ⟨gb590, 2, none⟩ = some (.int .i64 a0_2) := (zaa BK590.o 2).trans rfl
              have hcz77_3 : wc.cell? ⟨gb590, 3, none⟩ = some (.int .i64 a0_3) := (zaa BK590.o 3).trans rfl
              have hcz77_4 : wc.cell? ⟨gb590, 4, none⟩ = some (.slice A0_4 l0_4.length c0_4) := (zaa BK590.o 4).trans rfl
              have hcz77_5 : wc.cell? ⟨gb590, 5, none⟩ = some (.int .i64 a0_5) := (zaa BK590.o 5).trans rfl
              have hcz77_6 : wc.cell? ⟨gb590, 6, none⟩ = some (.string a0_6) := (zaa BK590.o 6).trans rfl
              have hcz77_7 : wc.cell? ⟨gb590, 7, none⟩ = some (.string a0_7) := (zaa BK590.o 7).trans rfl
              have hfz77_0 := zac BK590.o 0
              have hfz77_1 := zac BK590.o 1
              have hfz77_2 := zac BK590.o 2
              have hfz77_3 := zac BK590.o 3
              have hfz77_4 := zac BK590.o 4
              have hfz77_5 := zac BK590.o 5
              have hfz77_6 := zac BK590.o 6
              have hfz77_7 := zac BK590.o 7
              go_wp2_with (first | ((with_reducible refine zaq (N := 102) rfl ?_); refine Kd.R_lit (Kd.int .i64) _ 3 ?hg (N := 102) ?hd (xs := ([a0_2] : List Int)) (inner := [.int .i64 a0_2]) (ok := fun _ => True) (okp := fun _ => True) ?hr ?hp (fun _ hk => hk) trivial (Below.refl _ _) (Nat.le_refl _) (by simp) ?_; (case hd => rfl); (case hg => rfl); (case hr => first | (go_simp; done) | (go_simp; rfl)); (case hp => exact (Reps.one (show Kd.M (Kd.int .i64) _ _ _ a0_2 [.int .i64 a0_2] from rfl) (Reps.none _ _))); intro v640 w78 ho79 hb hg_ hnew_; clear hg_ hnew_; (first | rw [← Ny639.out] at ho79 | (simp only [Int.reduceToNat] at ho79; rw [← Ny639.out] at ho79)); have n0_ := zab.mk (Kd.R_elder' (by (with_reducible repeat (first | apply Kd.R_alloc | apply Kd.R_drewN | apply Kd.R_drew)); exact HO_10.o) (Kd.R_base ho79) hb); have n1_ := zab.mk (Kd.R_lower (Kd.R_new' ho79 (Kd.R_lt (by (with_reducible repeat (first | apply Kd.R_alloc | apply Kd.R_drewN | apply Kd.R_drew)); exact HO_10.o))) (zak (by repeat (first | (with_reducible first | exact HB.o | apply zad | apply zaf | apply zae | refine zag ?_ GE590.o) | exact HB.o)))); have n2_ := zab.mk (zam (by (with_reducible repeat (first | refine zaj ?_ _ | refine zah ?_ | refine zai ?_ _)); exact BK590.o) hb); have n3_ := zab.mk (zal (by repeat (first | (with_reducible first | exact HB.o | apply zad | apply zaf | apply zae | refine zag ?_ GE590.o) | exact HB.o)) hb); clear HO_10; clear BK590; clear HB; have HO_10 := n0_; have HO641 := n1_; have BK590 := n2_; have HB := n3_; clear n0_ n1_ n2_ n3_; clear hb ho79))
              go_ret
              exact ⟨_, by first | rfl | (simp [errW_none, errW_some] <;> rfl) | (simp [*, errW_none, errW_some] <;> rfl), by (with_reducible repeat (first | apply Kd.R_alloc | apply Kd.R_drewN | apply Kd.R_drew)); exact Kd.R_mono HO641.o (fun _ hk => trivial), by repeat (first | (with_reducible first | exact HB.o | apply zad | apply zaf | apply zae | refine zag ?_ GE590.o) | exact HB.o)⟩
             ·replace c76 := Bool.eq_false_iff.mpr c76
              subst c76
              have H1 : (if a0_0 = 4 then (if a1 = a0_2 then (vinculumref13_inside.j3 kj68 a1 a2 l3 y591 (decide (a2 > a0_5)) a0_0 l0_1 a0_2 a0_3 l0_4 a0_5 a0_6 a0_7) else (vinculumref13_inside.j3 kj68 a1 a2 l3 y591 false a0_0 l0_1 a0_2 a0_3 l0_4 a0_5 a0_6 a0_7)) else (vinculumref13_inside.j3 kj68 a1 a2 l3 y591 false a0_0 l0_1 a0_2 a0_3 l0_4 a0_5 a0_6 a0_7)) = some r := by rw [if_neg (show ¬ (false = true) by decide)] at H; exact H
              clear H
              have H := H1
              clear H1
              have HC80 := zab.mk H
              clear H
              go_upto_region 16 with (fail)
              go_cut [103] (fun v103 wc => ∃ (kq : Nat) (x103_79 : Bool), v103 = .bool x103_79 ∧ zab (vinculumref13_inside.j3 kq a1 a2 l3 y591 x103_79 a0_0 l0_1 a0_2 a0_3 l0_4 a0_5 a0_6 a0_7 = some r) ∧ zab (kq ≤ kj68) ∧ zab (Kd.R (Kd.int .i64) 3 wc w.heap.size (fun _ => True) v592 y591) ∧ zab (wc.heap[gb590]? = some (.cells #[.int .i64 a0_0, (.slice A0_1 l0_1.length c0_1), .int .i64 a0_2, .int .i64 a0_3, (.slice A0_4 l0_4.length c0_4), .int .i64 a0_5, .string a0_6, .string a0_7] 27 (0, 0))) ∧ zab (Below w.heap.size w wc))
              case first =>
               have H := HC80.out
               clear HC80
               by_cases c81 : a0_0 = 4
               ·rw [if_pos c81] at H
                have c81b0 : (a0_0 == 4) = true := beq_iff_eq.mpr c81
                have c81b1 : (a0_0 != 4) = false := bne_eq_false_iff_eq.mpr c81
                clear c81
                (first | rw [c81b0] | (simp only [i64_w, i32_w]; rw [c81b0]) | skip)
                by_cases c82 : a1 = a0_2
                ·rw [if_pos c82] at H
                 have c82b0 : (a1 == a0_2) = true := beq_iff_eq.mpr c82
                 have c82b1 : (a1 != a0_2) = false := bne_eq_false_iff_eq.mpr c82
                 clear c82
                 have H' := zab.mk H
                 clear H
                 have hcz83_0 : wc.cell? ⟨gb590, 0, none⟩ = some (.int .i64 a0_0) := (zaa BK590.o 0).trans rfl
                 have hcz83_1 : wc.cell? ⟨gb590, 1, none⟩ = some (.slice A0_1 l0_1.length c0_1) := (zaa BK590.o 1).trans rfl
                 have hcz83_2 : wc.cell? ⟨gb590, 2, none⟩ = some (.int .i64 a0_2) := (zaa BK590.o 2).trans rfl
                 have hcz83_3 : wc.cell? ⟨gb590, 3, none⟩ = some (.int .i64 a0_3) := (zaa BK590.o 3).trans rfl
                 have hcz83_4 : wc.cell? ⟨gb590, 4, none⟩ = some (.slice A0_4 l0_4.length c0_4) := (zaa BK590.o 4).trans rfl
                 have hcz83_5 : wc.cell? ⟨gb590, 5, none⟩ = some (.int .i64 a0_5) := (zaa BK590.o 5).trans rfl
                 have hcz83_6 : wc.cell? ⟨gb590, 6, none⟩ = some (.string a0_6) := (zaa BK590.o 6).trans rfl
                 have hcz83_7 : wc.cell? ⟨gb590, 7, none⟩ = some (.string a0_7) := (zaa BK590.o 7).trans rfl
                 have hfz83_0 := zac BK590.o 0
                 have hfz83_1 := zac BK590.o 1
                 have hfz83_2 := zac BK590.o 2
                 have hfz83_3 := zac BK590.o 3
                 have hfz83_4 := zac BK590.o 4
                 have hfz83_5 := zac BK590.o 5
                 have hfz83_6 := zac BK590.o 6
                 have hfz83_7 := zac BK590.o 7
                 go_wp2
                 go_meet
                 case rel => exact ⟨_, (decide (a2 > a0_5)), (by first | rfl | (simp; done) | (simp [*]; done)), H', ⟨by have := HJ26.out; have := HJ47.out; have := HJ68.out; first | omega | exact Nat.le_refl _⟩, ⟨by (with_reducible repeat (first | apply Kd.R_alloc | apply Kd.R_drewN | apply Kd.R_drew)); exact HO_10.o⟩, ⟨by (with_reducible repeat (first | refine zaj ?_ _ | refine zah ?_ | refine zai ?_ _)); exact BK590.o⟩, ⟨by repeat (first | (with_reducible first | exact HB.o | apply zad | apply zaf | apply zae | refine zag ?_ GE590.o) | exact HB.o)⟩⟩
                ·rw [if_neg c82] at H
                 have c82b0 : (a1 == a0_2) = false := beq_eq_false_iff_ne.mpr c82
                 have c82b1 : (a1 != a0_2) = true := bne_iff_ne.mpr c82
                 have H' := zab.mk H
                 clear H
                 have hcz84_0 : wc.cell? ⟨gb590, 0, none⟩ = some (.int .i64 a0_0) := (zaa BK590.o 0).trans rfl
                 have hcz84_1 : wc.cell? ⟨gb590, 1, none⟩ = some (.slice A0_1 l0_1.length c0_1) := (zaa BK590.o 1).trans rfl
                 have hcz84_2 : wc.cell? ⟨gb590, 2, none⟩ = some (.int .i64 a0_2) := (zaa BK590.o 2).trans rfl
                 have hcz84_3 : wc.cell? ⟨gb590, 3, none⟩ = some (.int .i64 a0_3) := (zaa BK590.o 3).trans rfl
                 have hcz84_4 : wc.cell? ⟨gb590, 4, none⟩ = some (.slice A0_4 l0_4.length c0_4) := (zaa BK590.o 4).trans rfl
                 have hcz84_5 : wc.cell? ⟨gb590, 5, none⟩ = some (.int .i64 a0_5) := (zaa BK590.o 5).trans rfl
                 have hcz84_6 : wc.cell? ⟨gb590, 6, none⟩ = some (.string a0_6) := (zaa BK590.o 6).trans rfl
                 have hcz84_7 : wc.cell? ⟨gb590, 7, none⟩ = some (.string a0_7) := (zaa BK590.o 7).trans rfl
                 have hfz84_0 := zac BK590.o 0
                 have hfz84_1 := zac BK590.o 1
                 have hfz84_2 := zac BK590.o 2
                 have hfz84_3 := zac BK590.o 3
                 have hfz84_4 := zac BK590.o 4
                 have hfz84_5 := zac BK590.o 5
                 have hfz84_6 := zac BK590.o 6
                 have hfz84_7 := zac BK590.o 7
                 go_wp2
                 go_meet
                 case rel => exact ⟨_, (false), (by first | rfl | (simp; done) | (simp [*]; done)), H', ⟨by have := HJ26.out; have := HJ47.out; have := HJ68.out; first | omega | exact Nat.le_refl _⟩, ⟨by (with_reducible repeat (first | apply Kd.R_alloc | apply Kd.R_drewN | apply Kd.R_drew)); exact HO_10.o⟩, ⟨by (with_reducible repeat (first | refine zaj ?_ _ | refine zah ?_ | refine zai ?_ _)); exact BK590.o⟩, ⟨by repeat (first | (with_reducible first | exact HB.o | apply zad | apply zaf | apply zae | refine zag ?_ GE590.o) | exact HB.o)⟩⟩
               ·rw [if_neg c81] at H
                have c81b0 : (a0_0 == 4) = false := beq_eq_false_iff_ne.mpr c81
                have c81b1 : (a0_0 != 4) = true := bne_iff_ne.mpr c81
                (first | rw [c81b0] | (simp only [i64_w, i32_w]; rw [c81b0]) | skip)
                have H' := zab.mk H
                clear H
                have hcz85_0 : wc.cell? ⟨gb590, 0, none⟩ = some (.int .i64 a0_0) := (zaa BK590.o 0).trans rfl
                have hcz85_1 : wc.cell? ⟨gb590, 1, none⟩ = some (.slice A0_1 l0_1.length c0_1) := (zaa BK590.o 1).trans rfl
                have hcz85_2 : wc.cell? ⟨gb590, 2, none⟩ = some (.int .i64 a0_2) := (zaa BK590.o 2).trans rfl
                have hcz85_3 : wc.cell? ⟨gb590, 3, none⟩ = some (.int .i64 a0_3) := (zaa BK590.o 3).trans rfl
                have hcz85_4 : wc.cell? ⟨gb590, 4, none⟩ = some (.slice A0_4 l0_4.length c0_4) := (zaa BK590.o 4).trans rfl
                have hcz85_5 : wc.cell? ⟨gb590, 5, none⟩ = some (.int .i64 a0_5) := (zaa BK590.o 5).trans rfl
                have hcz85_6 : wc.cell? ⟨gb590, 6, none⟩ = some (.string a0_6) := (zaa BK590.o 6).trans rfl
                have hcz85_7 : wc.cell? ⟨gb590, 7, none⟩ = some (.string a0_7) := (zaa BK590.o 7).trans rfl
                have hfz85_0 := zac BK590.o 0
                have hfz85_1 := zac BK590.o 1
                have hfz85_2 := zac BK590.o 2
                have hfz85_3 := zac BK590.o 3
                have hfz85_4 := zac BK590.o 4
                have hfz85_5 := zac BK590.o 5
                have hfz85_6 := zac BK590.o 6
                have hfz85_7 := zac BK590.o 7
                go_wp2
                go_meet
                case rel => exact ⟨_, (false), (by first | rfl | (simp; done) | (simp [*]; done)), H', ⟨by have := HJ26.out; have := HJ47.out; have := HJ68.out; first | omega | exact Nat.le_refl _⟩, ⟨by (with_reducible repeat (first | apply Kd.R_alloc | apply Kd.R_drewN | apply Kd.R_drew)); exact HO_10.o⟩, ⟨by (with_reducible repeat (first | refine zaj ?_ _ | refine zah ?_ | refine zai ?_ _)); exact BK590.o⟩, ⟨by repeat (first | (with_reducible first | exact HB.o | apply zad | apply zaf | apply zae | refine zag ?_ GE590.o) | exact HB.o)⟩⟩
              case rest =>
               clear HC80
               try clear c1
               try clear p2
               try clear c3
               try clear c4
               try clear c5
               try clear c5b0
               try clear c6
               try clear p6
               try clear c7
               try clear c8
               try clear c15
               try clear c15b0
               try clear c15b1
               try clear c16
               try clear c17
               try clear c33
               try clear c33b0
               try clear c33b1
               try clear c36
               try clear c40
               try clear c40b0
               try clear c40b1
               try clear c41
               try clear c42
               try clear c47
               try clear c50
               try clear c50b0
               try clear c50b1
               try clear c53
               try clear c54
               try clear c55
               try clear c61
               try clear c61b0
               try clear c61b1
               try clear c62
               try clear c63
               try clear p64
               try clear c71
               try clear c71b0
               try clear c71b1
               try clear c72
               try clear c72b0
               try clear c72b1
               try clear c76
               try clear c81
               try clear c81b0
               try clear c81b1
               try clear c82
               try clear c82b0
               try clear c82b1
               try clear hcz12_0
               try clear hcz12_1
               try clear hcz12_2
               try clear hcz12_3
               try clear hcz12_4
               try clear hcz12_5
               try clear hcz12_6
               try clear hcz12_7
               try clear hcz19_0
               try clear hcz19_1
               try clear hcz19_2
               try clear hcz19_3
               try clear hcz19_4
               try clear hcz19_5
               try clear hcz19_6
               try clear hcz19_7
               try clear hcz22_0
               try clear hcz22_1
               try clear hcz22_2
               try clear hcz22_3
               try clear hcz22_4
               try clear hcz22_5
               try clear hcz22_6
               try clear hcz22_7
               try clear hcz29_0
               try clear hcz29_1
               try clear hcz29_2
               try clear hcz29_3
               try clear hcz29_4
               try clear hcz29_5
               try clear hcz29_6
               try clear hcz29_7
               try clear hcz32_0
               try clear hcz32_1
               try clear hcz32_2
               try clear hcz32_3
               try clear hcz32_4
               try clear hcz32_5
               try clear hcz32_6
               try clear hcz32_7
               try clear hcz34_0
               try clear hcz34_1
               try clear hcz34_2
               try clear hcz34_3
               try clear hcz34_4
               try clear hcz34_5
               try clear hcz34_6
               try clear hcz34_7
               try clear hcz35_0
               try clear hcz35_1
               try clear hcz35_2
               try clear hcz35_3
               try clear hcz35_4
               try clear hcz35_5
               try clear hcz35_6
               try clear hcz35_7
               try clear hcz37_0
               try clear hcz37_1
               try clear hcz37_2
               try clear hcz37_3
               try clear hcz37_4
               try clear hcz37_5
               try clear hcz37_6
               try clear hcz37_7
               try clear hcz43_0
               try clear hcz43_1
               try clear hcz43_2
               try clear hcz43_3
               try clear hcz43_4
               try clear hcz43_5
               try clear hcz43_6
               try clear hcz43_7
               try clear hcz49_0
               try clear hcz49_1
               try clear hcz49_2
               try clear hcz49_3
               try clear hcz49_4
               try clear hcz49_5
               try clear hcz49_6
               try clear hcz49_7
               try clear hcz51_0
               try clear hcz51_1
               try clear hcz51_2
               try clear hcz51_3
               try clear hcz51_4
               try clear hcz51_5
               try clear hcz51_6
               try clear hcz51_7
               try clear hcz52_0
               try clear hcz52_1
               try clear hcz52_2
               try clear hcz52_3
               try clear hcz52_4
               try clear hcz52_5
               try clear hcz52_6
               try clear hcz52_7
               try clear hcz56_0
               try clear hcz56_1
               try clear hcz56_2
               try clear hcz56_3
               try clear hcz56_4
               try clear hcz56_5
               try clear hcz56_6
               try clear hcz56_7
               try clear hcz64_0
               try clear hcz64_1
               try clear hcz64_2
               try clear hcz64_3
               try clear hcz64_4
               try clear hcz64_5
               try clear hcz64_6
               try clear hcz64_7
               try clear hcz70_0
               try clear hcz70_1
               try clear hcz70_2
               try clear hcz70_3
               try clear hcz70_4
               try clear hcz70_5
               try clear hcz70_6
               try clear hcz70_7
               try clear hcz73_0
               try clear hcz73_1
               try clear hcz73_2
               try clear hcz73_3
               try clear hcz73_4
               try clear hcz73_5
               try clear hcz73_6
               try clear hcz73_7
               try clear hcz74_0
               try clear hcz74_1
               try clear hcz74_2
               try clear hcz74_3
               try clear hcz74_4
               try clear hcz74_5
               try clear hcz74_6
               try clear hcz74_7
               try clear hcz75_0
               try clear hcz75_1
               try clear hcz75_2
               try clear hcz75_3
               try clear hcz75_4
               try clear hcz75_5
               try clear hcz75_6
               try clear hcz75_7
               try clear hcz77_0
               try clear hcz77_1
               try clear hcz77_2
               try clear hcz77_3
               try clear hcz77_4
               try clear hcz77_5
               try clear hcz77_6
               try clear hcz77_7
               try clear hcz83_0
               try clear hcz83_1
               try clear hcz83_2
               try clear hcz83_3
               try clear hcz83_4
               try clear hcz83_5
               try clear hcz83_6
               try clear hcz83_7
               try clear hcz84_0
               try clear hcz84_1
               try clear hcz84_2
               try clear hcz84_3
               try clear hcz84_4
               try clear hcz84_5
               try clear hcz84_6
               try clear hcz84_7
               try clear hcz85_0
               try clear hcz85_1
               try clear hcz85_2
               try clear hcz85_3
               try clear hcz85_4
               try clear hcz85_5
               try clear hcz85_6
               try clear hcz85_7
               try clear hcz9_0
               try clear hcz9_1
               try clear hcz9_2
               try clear hcz9_3
               try clear hcz9_4
               try clear hcz9_5
               try clear hcz9_6
               try clear hcz9_7
               try clear hfz12_0
               try clear hfz12_1
               try clear hfz12_2
               try clear hfz12_3
               try clear hfz12_4
               try clear hfz12_5
               try clear hfz12_6
               try clear hfz12_7
               try clear hfz19_0
               try clear hfz19_1
               try clear hfz19_2
               try clear hfz19_3
               try clear hfz19_4
               try clear hfz19_5
               try clear hfz19_6
               try clear hfz19_7
               try clear hfz22_0
               try clear hfz22_1
               try clear hfz22_2
               try clear hfz22_3
               try clear hfz22_4
               try clear hfz22_5
               try clear hfz22_6
               try clear hfz22_7
               try clear hfz29_0
               try clear hfz29_1
               try clear hfz29_2
               try clear hfz29_3
               try clear hfz29_4
               try clear hfz29_5
               try clear hfz29_6
               try clear hfz29_7
               try clear hfz32_0
               try clear hfz32_1
               try clear hfz32_2
               try clear hfz32_3
               try clear hfz32_4
               try clear hfz32_5
               try clear hfz32_6
               try clear hfz32_7
               try clear hfz34_0
               try clear hfz34_1
               try clear hfz34_2
               try clear hfz34_3
               try clear hfz34_4
               try clear hfz34_5
               try clear hfz34_6
               try clear hfz34_7
               try clear hfz35_0
               try clear hfz35_1
               try clear hfz35_2
               try clear hfz35_3
               try clear hfz35_4
               try clear hfz35_5
               try clear hfz35_6
               try clear hfz35_7
               try clear hfz37_0
               try clear hfz37_1
               try clear hfz37_2
               try clear hfz37_3
               try clear hfz37_4
               try clear hfz37_5
               try clear hfz37_6
               try clear hfz37_7
               try clear hfz43_0
               try clear hfz43_1
               try clear hfz43_2
               try clear hfz43_3
               try clear hfz43_4
               try clear hfz43_5
               try clear hfz43_6
               try clear hfz43_7
               try clear hfz49_0
               try clear hfz49_1
               try clear hfz49_2
               try clear hfz49_3
               try clear hfz49_4
               try clear hfz49_5
               try clear hfz49_6
               try clear hfz49_7
               try clear hfz51_0
               try clear hfz51_1
               try clear hfz51_2
               try clear hfz51_3
               try clear hfz51_4
               try clear hfz51_5
               try clear hfz51_6
               try clear hfz51_7
               try clear hfz52_0
               try clear hfz52_1
               try clear hfz52_2
               try clear hfz52_3
               try clear hfz52_4
               try clear hfz52_5
               try clear hfz52_6
               try clear hfz52_7
               try clear hfz56_0
               try clear hfz56_1
               try clear hfz56_2
               try clear hfz56_3
               try clear hfz56_4
               try clear hfz56_5
               try clear hfz56_6
               try clear hfz56_7
               try clear hfz64_0
               try clear hfz64_1
               try clear hfz64_2
               try clear hfz64_3
               try clear hfz64_4
               try clear hfz64_5
               try clear hfz64_6
               try clear hfz64_7
               try clear hfz70_0
               try clear hfz70_1
               try clear hfz70_2
               try clear hfz70_3
               try clear hfz70_4
               try clear hfz70_5
               try clear hfz70_6
               try clear hfz70_7
               try clear hfz73_0
               try clear hfz73_1
               try clear hfz73_2
               try clear hfz73_3
               try clear hfz73_4
               try clear hfz73_5
               try clear hfz73_6
               try clear hfz73_7
               try clear hfz74_0
               try clear hfz74_1
               try clear hfz74_2
               try clear hfz74_3
               try clear hfz74_4
               try clear hfz74_5
               try clear hfz74_6
               try clear hfz74_7
               try clear hfz75_0
               try clear hfz75_1
               try clear hfz75_2
               try clear hfz75_3
               try clear hfz75_4
               try clear hfz75_5
               try clear hfz75_6
               try clear hfz75_7
               try clear hfz77_0
               try clear hfz77_1
               try clear hfz77_2
               try clear hfz77_3
               try clear hfz77_4
               try clear hfz77_5
               try clear hfz77_6
               try clear hfz77_7
               try clear hfz83_0
               try clear hfz83_1
               try clear hfz83_2
               try clear hfz83_3
               try clear hfz83_4
               try clear hfz83_5
               try clear hfz83_6
               try clear hfz83_7
               try clear hfz84_0
               try clear hfz84_1
               try clear hfz84_2
               try clear hfz84_3
               try clear hfz84_4
               try clear hfz84_5
               try clear hfz84_6
               try clear hfz84_7
               try clear hfz85_0
               try clear hfz85_1
               try clear hfz85_2
               try clear hfz85_3
               try clear hfz85_4
               try clear hfz85_5
               try clear hfz85_6
               try clear hfz85_7
               try clear hfz9_0
               try clear hfz9_1
               try clear hfz9_2
               try clear hfz9_3
               try clear hfz9_4
               try clear hfz9_5
               try clear hfz9_6
               try clear hfz9_7
               try clear p2
               try clear p6
               try clear p64
               obtain ⟨kq, x103_79, rfl, HA, HJ79, HO_10, BK590, HB⟩ := hcut
               cases kq with
               | zero => exact absurd HA.o (by simp [vinculumref13_inside.j3])
               | succ kj79 =>
                have H := HA.o
                clear HA
                simp only [vinculumref13_inside.j3] at H
                by_cases c86 : x103_79 = true
                ·subst c86
                 have H1 : (some (([wrap64 (a0_2 + a0_3)] : List Int))) = some r := by rw [if_pos rfl] at H; exact H
                 clear H
                 have H := H1
                 clear H1
                 obtain ⟨y642, hy642⟩ : ∃ y_ : List Int, y_ = (([wrap64 (a0_2 + a0_3)] : List Int)) := ⟨_, rfl⟩
                 replace H : (some y642) = some r := by first | (rw [hy642]; with_reducible exact H) | (have H2_ := (Option.bind_some _ _).symm.trans H; rw [hy642]; with_reducible exact H2_) | (have H2_ := (Option.bind_some _ _).symm.trans H; with_reducible exact H2_) | with_reducible exact H | (rw [hy642]; exact H) | exact H
                 have Ny642 := zab.mk hy642
                 clear hy642
                 obtain rfl := Option.some.inj H
                 have hcz87_0 : wc.cell? ⟨gb590, 0, none⟩ = some (.int .i64 a0_0) := (zaa BK590.o 0).trans rfl
                 have hcz87_1 : wc.cell? ⟨gb590, 1, none⟩ = some (.slice A0_1 l0_1.length c0_1) := (zaa BK590.o 1).trans rfl
                 have hcz87_2 : wc.cell? ⟨gb590, 2, none⟩ = some (.int .i64 a0_2) := (zaa BK590.o 2).trans rfl
                 have hcz87_3 : wc.cell? ⟨gb590, 3, none⟩ = some (.int .i64 a0_3) := (zaa BK590.o 3).trans rfl
                 have hcz87_4 : wc.cell? ⟨gb590, 4, none⟩ = some (.slice A0_4 l0_4.length c0_4) := (zaa BK590.o 4).trans rfl
                 have hcz87_5 : wc.cell? ⟨gb590, 5, none⟩ = some (.int .i64 a0_5) := (zaa BK590.o 5).trans rfl
                 have hcz87_6 : wc.cell? ⟨gb590, 6, none⟩ = some (.string a0_6) := (zaa BK590.o 6).trans rfl
                 have hcz87_7 : wc.cell? ⟨gb590, 7, none⟩ = some (.string a0_7) := (zaa BK590.o 7).trans rfl
                 have hfz87_0 := zac BK590.o 0
                 have hfz87_1 := zac BK590.o 1
                 have hfz87_2 := zac BK590.o 2
                 have hfz87_3 := zac BK590.o 3
                 have hfz87_4 := zac BK590.o 4
                 have hfz87_5 := zac BK590.o 5
                 have hfz87_6 := zac BK590.o 6
                 have hfz87_7 := zac BK590.o 7
                 go_wp2_with (first | ((with_reducible refine zaq (N := 124) rfl ?_); refine Kd.R_lit (Kd.int .i64) _ 3 ?hg (N := 124) ?hd (xs := ([wrap64 (a0_2 + a0_3)] : List Int)) (inner := [.int .i64 (wrap64 (a0_2 + a0_3))]) (ok := fun _ => True) (okp := fun _ => True) ?hr ?hp (fun _ hk => hk) trivial (Below.refl _ _) (Nat.le_refl _) (by simp) ?_; (case hd => rfl); (case hg => rfl); (case hr => first | (go_simp; done) | (go_simp; rfl)); (case hp => exact (Reps.one (show Kd.M (Kd.int .i64) _ _ _ (wrap64 (a0_2 + a0_3)) [.int .i64 (wrap64 (a0_2 + a0_3))] from rfl) (Reps.none _ _))); intro v643 w88 ho89 hb hg_ hnew_; clear hg_ hnew_; (first | rw [← Ny642.out] at ho89 | (simp only [Int.reduceToNat] at ho89; rw [← Ny642.out] at ho89)); have n0_ := zab.mk (Kd.R_elder' (by (with_reducible repeat (first | apply Kd.R_alloc | apply Kd.R_drewN | apply Kd.R_drew)); exact HO_10.o) (Kd.R_base ho89) hb); have n1_ := zab.mk (Kd.R_lower (Kd.R_new' ho89 (Kd.R_lt (by (with_reducible repeat (first | apply Kd.R_alloc | apply Kd.R_drewN | apply Kd.R_drew)); exact HO_10.o))) (zak (by repeat (first | (with_reducible first | exact HB.o | apply zad | apply zaf | apply zae | refine zag ?_ GE590.o) | exact HB.o)))); have n2_ := zab.mk (zam (by (with_reducible repeat (first | refine zaj ?_ _ | refine zah ?_ | refine zai ?_ _)); exact BK590.o) hb); have n3_ := zab.mk (zal (by repeat (first | (with_reducible first | exact HB.o | apply zad | apply zaf | apply zae | refine zag ?_ GE590.o) | exact HB.o)) hb); clear HO_10; clear BK590; clear HB; have HO_10 := n0_; have HO644 := n1_; have BK590 := n2_; have HB := n3_; clear n0_ n1_ n2_ n3_; clear hb ho89))
                 go_ret
                 exact ⟨_, by first | rfl | (simp [errW_none, errW_some] <;> rfl) | (simp [*, errW_none, errW_some] <;> rfl), by (with_reducible repeat (first | apply Kd.R_alloc | apply Kd.R_drewN | apply Kd.R_drew)); exact Kd.R_mono HO644.o (fun _ hk => trivial), by repeat (first | (with_reducible first | exact HB.o | apply zad | apply zaf | apply zae | refine zag ?_ GE590.o) | exact HB.o)⟩
                ·replace c86 := Bool.eq_false_iff.mpr c86
                 subst c86
                 have H1 : (if a0_0 = 4 then (vinculumref13_inside.j4 kj79 a1 a2 l3 y591 (a1 == a0_2) a0_0 l0_1 a0_2 a0_3 l0_4 a0_5 a0_6 a0_7) else (vinculumref13_inside.j4 kj79 a1 a2 l3 y591 false a0_0 l0_1 a0_2 a0_3 l0_4 a0_5 a0_6 a0_7)) = some r := by rw [if_neg (show ¬ (false = true) by decide)] at H; exact H
                 clear H
                 have H := H1
                 clear H1
                 have HC90 := zab.mk H
                 clear H
                 go_upto_region 18 with (fail)
                 go_cut [125] (fun v125 wc => ∃ (kq : Nat) (x125_89 : Bool), v125 = .bool x125_89 ∧ zab (vinculumref13_inside.j4 kq a1 a2 l3 y591 x125_89 a0_0 l0_1 a0_2 a0_3 l0_4 a0_5 a0_6 a0_7 = some r) ∧ zab (kq ≤ kj79) ∧ zab (Kd.R (Kd.int .i64) 3 wc w.heap.size (fun _ => True) v592 y591) ∧ zab (wc.heap[gb590]? = some (.cells #[.int .i64 a0_0, (.slice A0_1 l0_1.length c0_1), .int .i64 a0_2, .int .i64 a0_3, (.slice A0_4 l0_4.length c0_4), .int .i64 a0_5, .string a0_6, .string a0_7] 27 (0, 0))) ∧ zab (Below w.heap.size w wc))
                 case first =>
                  have H := HC90.out
                  clear HC90
                  by_cases c91 : a0_0 = 4
                  ·rw [if_pos c91] at H
                   have c91b0 : (a0_0 == 4) = true := beq_iff_eq.mpr c91
                   have c91b1 : (a0_0 != 4) = false := bne_eq_false_iff_eq.mpr c91
                   clear c91
                   (first | rw [c91b0] | (simp only [i64_w, i32_w]; rw [c91b0]) | skip)
                   have H' := zab.mk H
                   clear H
                   have hcz92_0 : wc.cell? ⟨gb590, 0, none⟩ = some (.int .i64 a0_0) := (zaa BK590.o 0).trans rfl
                   have hcz92_1 : wc.cell? ⟨gb590, 1, none⟩ = some (.slice A0_1 l0_1.length c0_1) := (zaa BK590.o 1).trans rfl
                   have hcz92_2 : wc.cell? ⟨gb590, 2, none⟩ = some (.int .i64 a0_2) := (zaa BK590.o 2).trans rfl
                   have hcz92_3 : wc.cell? ⟨gb590, 3, none⟩ = some (.int .i64 a0_3) := (zaa BK590.o 3).trans rfl
                   have hcz92_4 : wc.cell? ⟨gb590, 4, none⟩ = some (.slice A0_4 l0_4.length c0_4) := (zaa BK590.o 4).trans rfl
                   have hcz92_5 : wc.cell? ⟨gb590, 5, none⟩ = some (.int .i64 a0_5) := (zaa BK590.o 5).trans rfl
                   have hcz92_6 : wc.cell? ⟨gb590, 6, none⟩ = some (.string a0_6) := (zaa BK590.o 6).trans rfl
                   have hcz92_7 : wc.cell? ⟨gb590, 7, none⟩ = some (.string a0_7) := (zaa BK590.o 7).trans rfl
                   have hfz92_0 := zac BK590.o 0
                   have hfz92_1 := zac BK590.o 1
                   have hfz92_2 := zac BK590.o 2
                   have hfz92_3 := zac BK590.o 3
                   have hfz92_4 := zac BK590.o 4
                   have hfz92_5 := zac BK590.o 5
                   have hfz92_6 := zac BK590.o 6
                   have hfz92_7 := zac BK590.o 7
                   go_wp2
                   go_meet
                   case rel => exact ⟨_, ((a1 == a0_2)), (by first | rfl | (simp; done) | (simp [*]; done)), H', ⟨by have := HJ26.out; have := HJ47.out; have := HJ68.out; have := HJ79.out; first | omega | exact Nat.le_refl _⟩, ⟨by (with_reducible repeat (first | apply Kd.R_alloc | apply Kd.R_drewN | apply Kd.R_drew)); exact HO_10.o⟩, ⟨by (with_reducible repeat (first | refine zaj ?_ _ | refine zah ?_ | refine zai ?_ _)); exact BK590.o⟩, ⟨by repeat (first | (with_reducible first | exact HB.o | apply zad | apply zaf | apply zae | refine zag ?_ GE590.o) | exact HB.o)⟩⟩
                  ·rw [if_neg c91] at H
                   have c91b0 : (a0_0 == 4) = false := beq_eq_false_iff_ne.mpr c91
                   have c91b1 : (a0_0 != 4) = true := bne_iff_ne.mpr c91
                   (first | rw [c91b0] | (simp only [i64_w, i32_w]; rw [c91b0]) | skip)
                   have H' := zab.mk H
                   clear H
                   have hcz93_0 : wc.cell? ⟨gb590, 0, none⟩ = some (.int .i64 a0_0) := (zaa BK590.o 0).trans rfl
                   have hcz93_1 : wc.cell? ⟨gb590, 1, none⟩ = some (.slice A0_1 l0_1.length c0_1) := (zaa BK590.o 1).trans rfl
                   have hcz93_2 : wc.cell? ⟨gb590, 2, none⟩ = some (.int .i64 a0_2) := (zaa BK590.o 2).trans rfl
                   have hcz93_3 : wc.cell? ⟨gb590, 3, none⟩ = some (.int .i64 a0_3) := (zaa BK590.o 3).trans rfl
                   have hcz93_4 : wc.cell? ⟨gb590, 4, none⟩ = some (.slice A0_4 l0_4.length c0_4) := (zaa BK590.o 4).trans rfl
                   have hcz93_5 : wc.cell? ⟨gb590, 5, none⟩ = some (.int .i64 a0_5) := (zaa BK590.o 5).trans rfl
                   have hcz93_6 : wc.cell? ⟨gb590, 6, none⟩ = some (.string a0_6) := (zaa BK590.o 6).trans rfl
                   have hcz93_7 : wc.cell? ⟨gb590, 7, none⟩ = some (.string a0_7) := (zaa BK590.o 7).trans rfl
                   have hfz93_0 := zac BK590.o 0
                   have hfz93_1 := zac BK590.o 1
                   have hfz93_2 := zac BK590.o 2
                   have hfz93_3 := zac BK590.o 3
                   have hfz93_4 := zac BK590.o 4
                   have hfz93_5 := zac BK590.o 5
                   have hfz93_6 := zac BK590.o 6
                   have hfz93_7 := zac BK590.o 7
                   go_wp2
                   go_meet
                   case rel => exact ⟨_, (false), (by first | rfl | (simp; done) | (simp [*]; done)), H', ⟨by have := HJ26.out; have := HJ47.out; have := HJ68.out; have := HJ79.out; first | omega | exact Nat.le_refl _⟩, ⟨by (with_reducible repeat (first | apply Kd.R_alloc | apply Kd.R_drewN | apply Kd.R_drew)); exact HO_10.o⟩, ⟨by (with_reducible repeat (first | refine zaj ?_ _ | refine zah ?_ | refine zai ?_ _)); exact BK590.o⟩, ⟨by repeat (first | (with_reducible first | exact HB.o | apply zad | apply zaf | apply zae | refine zag ?_ GE590.o) | exact HB.o)⟩⟩
                 case rest =>
                  clear HC90
                  try clear c1
                  try clear p2
                  try clear c3
                  try clear c4
                  try clear c5
                  try clear c5b0
                  try clear c6
                  try clear p6
                  try clear c7
                  try clear c8
                  try clear c9
                  try clear c15
                  try clear c15b0
                  try clear c15b1
                  try clear c16
                  try clear c17
                  try clear c33
                  try clear c33b0
                  try clear c33b1
                  try clear c36
                  try clear c40
                  try clear c40b0
                  try clear c40b1
                  try clear c41
                  try clear c42
                  try clear c47
                  try clear c50
                  try clear c50b0
                  try clear c50b1
                  try clear c53
                  try clear c54
                  try clear c55
                  try clear c61
                  try clear c61b0
                  try clear c61b1
                  try clear c62
                  try clear c63
                  try clear p64
                  try clear c71
                  try clear c71b0
                  try clear c71b1
                  try clear c72
                  try clear c72b0
                  try clear c72b1
                  try clear c76
                  try clear c81
                  try clear c81b0
                  try clear c81b1
                  try clear c82
                  try clear c82b0
                  try clear c82b1
                  try clear c86
                  try clear c91
                  try clear c91b0
                  try clear c91b1
                  try clear hcz12_0
                  try clear hcz12_1
                  try clear hcz12_2
                  try clear hcz12_3
                  try clear hcz12_4
                  try clear hcz12_5
                  try clear hcz12_6
                  try clear hcz12_7
                  try clear hcz19_0
                  try clear hcz19_1
                  try clear hcz19_2
                  try clear hcz19_3
                  try clear hcz19_4
                  try clear hcz19_5
                  try clear hcz19_6
                  try clear hcz19_7
                  try clear hcz22_0
                  try clear hcz22_1
                  try clear hcz22_2
                  try clear hcz22_3
                  try clear hcz22_4
                  try clear hcz22_5
                  try clear hcz22_6
                  try clear hcz22_7
                  try clear hcz29_0
                  try clear hcz29_1
                  try clear hcz29_2
                  try clear hcz29_3
                  try clear hcz29_4
                  try clear hcz29_5
                  try clear hcz29_6
                  try clear hcz29_7
                  try clear hcz32_0
                  try clear hcz32_1
                  try clear hcz32_2
                  try clear hcz32_3
                  try clear hcz32_4
                  try clear hcz32_5
                  try clear hcz32_6
                  try clear hcz32_7
                  try clear hcz34_0
                  try clear hcz34_1
                  try clear hcz34_2
                  try clear hcz34_3
                  try clear hcz34_4
                  try clear hcz34_5
                  try clear hcz34_6
                  try clear hcz34_7
                  try clear hcz35_0
                  try clear hcz35_1
                  try clear hcz35_2
                  try clear hcz35_3
                  try clear hcz35_4
                  try clear hcz35_5
                  try clear hcz35_6
                  try clear hcz35_7
                  try clear hcz37_0
                  try clear hcz37_1
                  try clear hcz37_2
                  try clear hcz37_3
                  try clear hcz37_4
                  try clear hcz37_5
                  try clear hcz37_6
                  try clear hcz37_7
                  try clear hcz43_0
                  try clear hcz43_1
                  try clear hcz43_2
                  try clear hcz43_3
                  try clear hcz43_4
                  try clear hcz43_5
                  try clear hcz43_6
                  try clear hcz43_7
                  try clear hcz49_0
                  try clear hcz49_1
                  try clear hcz49_2
                  try clear hcz49_3
                  try clear hcz49_4
                  try clear hcz49_5
                  try clear hcz49_6
                  try clear hcz49_7
                  try clear hcz51_0
                  try clear hcz51_1
                  try clear hcz51_2
                  try clear hcz51_3
                  try clear hcz51_4
                  try clear hcz51_5
                  try clear hcz51_6
                  try clear hcz51_7
                  try clear hcz52_0
                  try clear hcz52_1
                  try clear hcz52_2
                  try clear hcz52_3
                  try clear hcz52_4
                  try clear hcz52_5
                  try clear hcz52_6
                  try clear hcz52_7
                  try clear hcz56_0
                  try clear hcz56_1
                  try clear hcz56_2
                  try clear hcz56_3
                  try clear hcz56_4
                  try clear hcz56_5
                  try clear hcz56_6
                  try clear hcz56_7
                  try clear hcz64_0
                  try clear hcz64_1
                  try clear hcz64_2
                  try clear hcz64_3
                  try clear hcz64_4
                  try clear hcz64_5
                  try clear hcz64_6
                  try clear hcz64_7
                  try clear hcz70_0
                  try clear hcz70_1
                  try clear hcz70_2
                  try clear hcz70_3
                  try clear hcz70_4
                  try clear hcz70_5
                  try clear hcz70_6
                  try clear hcz70_7
                  try clear hcz73_0
                  try clear hcz73_1
                  try clear hcz73_2
                  try clear hcz73_3
                  try clear hcz73_4
                  try clear hcz73_5
                  try clear hcz73_6
                  try clear hcz73_7
                  try clear hcz74_0
                  try clear hcz74_1
                  try clear hcz74_2
                  try clear hcz74_3
                  try clear hcz74_4
                  try clear hcz74_5
                  try clear hcz74_6
                  try clear hcz74_7
                  try clear hcz75_0
                  try clear hcz75_1
                  try clear hcz75_2
                  try clear hcz75_3
                  try clear hcz75_4
                  try clear hcz75_5
                  try clear hcz75_6
                  try clear hcz75_7
                  try clear hcz77_0
                  try clear hcz77_1
                  try clear hcz77_2
                  try clear hcz77_3
                  try clear hcz77_4
                  try clear hcz77_5
                  try clear hcz77_6
                  try clear hcz77_7
                  try clear hcz83_0
                  try clear hcz83_1
                  try clear hcz83_2
                  try clear hcz83_3
                  try clear hcz83_4
                  try clear hcz83_5
                  try clear hcz83_6
                  try clear hcz83_7
                  try clear hcz84_0
                  try clear hcz84_1
                  try clear hcz84_2
                  try clear hcz84_3
                  try clear hcz84_4
                  try clear hcz84_5
                  try clear hcz84_6
                  try clear hcz84_7
                  try clear hcz85_0
                  try clear hcz85_1
                  try clear hcz85_2
                  try clear hcz85_3
                  try clear hcz85_4
                  try clear hcz85_5
                  try clear hcz85_6
                  try clear hcz85_7
                  try clear hcz87_0
                  try clear hcz87_1
                  try clear hcz87_2
                  try clear hcz87_3
                  try clear hcz87_4
                  try clear hcz87_5
                  try clear hcz87_6
                  try clear hcz87_7
                  try clear hcz92_0
                  try clear hcz92_1
                  try clear hcz92_2
                  try clear hcz92_3
                  try clear hcz92_4
                  try clear hcz92_5
                  try clear hcz92_6
                  try clear hcz92_7
                  try clear hcz93_0
                  try clear hcz93_1
                  try clear hcz93_2
                  try clear hcz93_3
                  try clear hcz93_4
                  try clear hcz93_5
                  try clear hcz93_6
                  try clear hcz93_7
                  try clear hcz9_0
                  try clear hcz9_1
                  try clear hcz9_2
                  try clear hcz9_3
                  try clear hcz9_4
                  try clear hcz9_5
                  try clear hcz9_6
                  try clear hcz9_7
                  try clear hfz12_0
                  try clear hfz12_1
                  try clear hfz12_2
                  try clear hfz12_3
                  try clear hfz12_4
                  try clear hfz12_5
                  try clear hfz12_6
                  try clear hfz12_7
                  try clear hfz19_0
                  try clear hfz19_1
                  try clear hfz19_2
                  try clear hfz19_3
                  try clear hfz19_4
                  try clear hfz19_5
                  try clear hfz19_6
                  try clear hfz19_7
                  try clear hfz22_0
                  try clear hfz22_1
                  try clear hfz22_2
                  try clear hfz22_3
                  try clear hfz22_4
                  try clear hfz22_5
                  try clear hfz22_6
                  try clear hfz22_7
                  try clear hfz29_0
                  try clear hfz29_1
                  try clear hfz29_2
                  try clear hfz29_3
                  try clear hfz29_4
                  try clear hfz29_5
                  try clear hfz29_6
                  try clear hfz29_7
                  try clear hfz32_0
                  try clear hfz32_1
                  try clear hfz32_2
                  try clear hfz32_3
                  try clear hfz32_4
                  try clear hfz32_5
                  try clear hfz32_6
                  try clear hfz32_7
                  try clear hfz34_0
                  try clear hfz34_1
                  try clear hfz34_2
                  try clear hfz34_3
                  try clear hfz34_4
                  try clear hfz34_5
                  try clear hfz34_6
                  try clear hfz34_7
                  try clear hfz35_0
                  try clear hfz35_1
                  try clear hfz35_2
                  try clear hfz35_3
                  try clear hfz35_4
                  try clear hfz35_5
                  try clear hfz35_6
                  try clear hfz35_7
                  try clear hfz37_0
                  try clear hfz37_1
                  try clear hfz37_2
                  try clear hfz37_3
                  try clear hfz37_4
                  try clear hfz37_5
                  try clear hfz37_6
                  try clear hfz37_7
                  try clear hfz43_0
                  try clear hfz43_1
                  try clear hfz43_2
                  try clear hfz43_3
                  try clear hfz43_4
                  try clear hfz43_5
                  try clear hfz43_6
                  try clear hfz43_7
                  try clear hfz49_0
                  try clear hfz49_1
                  try clear hfz49_2
                  try clear hfz49_3
                  try clear hfz49_4
                  try clear hfz49_5
                  try clear hfz49_6
                  try clear hfz49_7
                  try clear hfz51_0
                  try clear hfz51_1
                  try clear hfz51_2
                  try clear hfz51_3
                  try clear hfz51_4
                  try clear hfz51_5
                  try clear hfz51_6
                  try clear hfz51_7
                  try clear hfz52_0
                  try clear hfz52_1
                  try clear hfz52_2
                  try clear hfz52_3
                  try clear hfz52_4
                  try clear hfz52_5
                  try clear hfz52_6
                  try clear hfz52_7
                  try clear hfz56_0
                  try clear hfz56_1
                  try clear hfz56_2
                  try clear hfz56_3
                  try clear hfz56_4
                  try clear hfz56_5
                  try clear hfz56_6
                  try clear hfz56_7
                  try clear hfz64_0
                  try clear hfz64_1
                  try clear hfz64_2
                  try clear hfz64_3
                  try clear hfz64_4
                  try clear hfz64_5
                  try clear hfz64_6
                  try clear hfz64_7
                  try clear hfz70_0
                  try clear hfz70_1
                  try clear hfz70_2
                  try clear hfz70_3
                  try clear hfz70_4
                  try clear hfz70_5
                  try clear hfz70_6
                  try clear hfz70_7
                  try clear hfz73_0
                  try clear hfz73_1
                  try clear hfz73_2
                  try clear hfz73_3
                  try clear hfz73_4
                  try clear hfz73_5
                  try clear hfz73_6
                  try clear hfz73_7
                  try clear hfz74_0
                  try clear hfz74_1
                  try clear hfz74_2
                  try clear hfz74_3
                  try clear hfz74_4
                  try clear hfz74_5
                  try clear hfz74_6
                  try clear hfz74_7
                  try clear hfz75_0
                  try clear hfz75_1
                  try clear hfz75_2
                  try clear hfz75_3
                  try clear hfz75_4
                  try clear hfz75_5
                  try clear hfz75_6
                  try clear hfz75_7
                  try clear hfz77_0
                  try clear hfz77_1
                  try clear hfz77_2
                  try clear hfz77_3
                  try clear hfz77_4
                  try clear hfz77_5
                  try clear hfz77_6
                  try clear hfz77_7
                  try clear hfz83_0
                  try clear hfz83_1
                  try clear hfz83_2
                  try clear hfz83_3
                  try clear hfz83_4
                  try clear hfz83_5
                  try clear hfz83_6
                  try clear hfz83_7
                  try clear hfz84_0
                  try clear hfz84_1
                  try clear hfz84_2
                  try clear hfz84_3
                  try clear hfz84_4
                  try clear hfz84_5
                  try clear hfz84_6
                  try clear hfz84_7
                  try clear hfz85_0
                  try clear hfz85_1
                  try clear hfz85_2
                  try clear hfz85_3
                  try clear hfz85_4
                  try clear hfz85_5
                  try clear hfz85_6
                  try clear hfz85_7
                  try clear hfz87_0
                  try clear hfz87_1
                  try clear hfz87_2
                  try clear hfz87_3
                  try clear hfz87_4
                  try clear hfz87_5
                  try clear hfz87_6
                  try clear hfz87_7
                  try clear hfz92_0
                  try clear hfz92_1
                  try clear hfz92_2
                  try clear hfz92_3
                  try clear hfz92_4
                  try clear hfz92_5
                  try clear hfz92_6
                  try clear hfz92_7
                  try clear hfz93_0
                  try clear hfz93_1
                  try clear hfz93_2
                  try clear hfz93_3
                  try clear hfz93_4
                  try clear hfz93_5
                  try clear hfz93_6
                  try clear hfz93_7
                  try clear hfz9_0
                  try clear hfz9_1
                  try clear hfz9_2
                  try clear hfz9_3
                  try clear hfz9_4
                  try clear hfz9_5
                  try clear hfz9_6
                  try clear hfz9_7
                  try clear p2
                  try clear p6
                  try clear p64
                  obtain ⟨kq, x125_89, rfl, HA, HJ89, HO_10, BK590, HB⟩ := hcut
                  cases kq with
                  | zero => exact absurd HA.o (by simp [vinculumref13_inside.j4])
                  | succ kj89 =>
                   have H := HA.o
                   clear HA
                   simp only [vinculumref13_inside.j4] at H
                   by_cases c94 : x125_89 = true
                   ·subst c94
                    have H1 : (if 0 < (l3.length : Int) then ((some (([wrap64 (a0_2 + (rd l3 0))] : List Int) : List Int)).bind fun y646 => (if 1 ≤ (l3.length : Int) then (if y646.length + (l3.drop 1).length < 17592186044416 then (some (y646 ++ (l3.drop 1))) else (none)) else (none))) else (none)) = some r := by rw [if_pos rfl] at H; exact H
                    clear H
                    have H := H1
                    clear H1
                    by_cases c95 : 0 < (l3.length : Int)
                    ·rw [if_pos c95] at H
                     have c95b0 : decide (0 < (l3.length : Int)) = true := decide_eq_true c95
                     have c95b1 : decide (0 < l3.length) = true := decide_eq_true (by omega)
                     clear c95
                     obtain ⟨y646, hy646⟩ : ∃ y_ : List Int, y_ = (([wrap64 (a0_2 + (rd l3 0))] : List Int)) := ⟨_, rfl⟩
                     replace H : (if 1 ≤ (l3.length : Int) then (if y646.length + (l3.drop 1).length < 17592186044416 then (some (y646 ++ (l3.drop 1))) else (none)) else (none)) = some r := by first | (rw [hy646]; with_reducible exact H) | (have H2_ := (Option.bind_some _ _).symm.trans H; rw [hy646]; with_reducible exact H2_) | (have H2_ := (Option.bind_some _ _).symm.trans H; with_reducible exact H2_) | with_reducible exact H | (rw [hy646]; exact H) | exact H
                     have Ny646 := zab.mk hy646
                     clear hy646
                     by_cases c96 : 1 ≤ (l3.length : Int)
                     ·rw [if_pos c96] at H
                      have c96b0 := eq_true c96
                      have c96b1 : decide (1 ≤ (l3.length : Int)) = true := decide_eq_true c96
                      clear c96
                      by_cases c97 : y646.length + (l3.drop 1).length < 17592186044416
                      ·rw [if_pos c97] at H
                       have LMc97 := zab.mk c97
                       clear c97
                       obtain ⟨y650, hy650⟩ : ∃ y_ : List Int, y_ = (y646 ++ (l3.drop 1)) := ⟨_, rfl⟩
                       replace H : (some y650) = some r := by first | (rw [hy650]; with_reducible exact H) | (have H2_ := (Option.bind_some _ _).symm.trans H; rw [hy650]; with_reducible exact H2_) | (have H2_ := (Option.bind_some _ _).symm.trans H; with_reducible exact H2_) | with_reducible exact H | (rw [hy650]; exact H) | exact H
                       have Ny650 := zab.mk hy650
                       clear hy650
                       obtain rfl := Option.some.inj H
                       try go_wp2
                       have n0_ := zab.mk (Kd.R_drew HO_10.o)
                       have n1_ := zab.mk (zah BK590.o)
                       have n2_ := zab.mk (zae HB.o)
                       clear HO_10
                       clear BK590
                       clear HB
                       have HO_10 := n0_
                       have BK590 := n1_
                       have HB := n2_
                       clear n0_ n1_ n2_
                       have p645 : 0 ≤ (0 : Int) := (by omega)
                       have q645 : 0 < (l3.length : Int) := of_decide_eq_true (by first | (with_reducible assumption) | assumption)
                       obtain ⟨ad645, e645, hx645_0⟩ := Kd.at_int HR3.o 0 p645 q645
                       have hw645_0 := hx645_0
                       (try rw [show ((0 : Int)).toNat = 0 from rfl] at hw645_0)
                       (try rw [show 0 * 1 = 0 from rfl] at hw645_0)
                       (try rw [Addr.add_zero'] at hw645_0)
                       cases e645
                       have qi645 : (0 < l3.length) = True := eq_true (by omega)
                       (try rw [show ((0 : Int)).toNat = 0 from rfl] at hx645_0)
                       (try rw [Addr.add_zero'] at hx645_0)
                       replace hx645_0 := (HB.o.cell (World.block_lt_of_cell? w _ hx645_0)).trans hx645_0
                       replace p645 := eq_true p645
                       replace q645 := eq_true q645
                       obtain ⟨i099, hi099, _, hsz99, _⟩ := info_parts info3
                       obtain ⟨A99, hcut99, hA99, hC99⟩ := print_drop_of (P := Try.prog) (Value.int .i64) 0 25 3 .i64 Try.underlying25 hi099 hsz99 (some ad645) c3 l3 1 (by omega) (of_decide_eq_true (by first | (with_reducible assumption) | assumption)) HC3.out
                       have HR649 := zab.mk (Kd.C_of_reads (h1 := fun _ => rfl) (hA99 _ (Kd.reads_of_C HR3.o)))
                       have HC649 := zab.mk hC99
                       clear hA99 hC99 hi099 hsz99
                       refine zaN (n := 11) (S := fun w' => w'.cell? ⟨gb590, 0, none⟩ = some (.int .i64 a0_0) ∧ w'.cell? ⟨gb590, 1, none⟩ = some (.slice A0_1 l0_1.length c0_1) ∧ w'.cell? ⟨gb590, 2, none⟩ = some (.int .i64 a0_2) ∧ w'.cell? ⟨gb590, 3, none⟩ = some (.int .i64 a0_3) ∧ w'.cell? ⟨gb590, 4, none⟩ = some (.slice A0_4 l0_4.length c0_4) ∧ w'.cell? ⟨gb590, 5, none⟩ = some (.int .i64 a0_5) ∧ w'.cell? ⟨gb590, 6, none⟩ = some (.string a0_6) ∧ w'.cell? ⟨gb590, 7, none⟩ = some (.string a0_7) ∧ w'.cell? ad645 = some (.int .i64 (rd l3 0))) (ds := []) #[false, false, false, false, false, false, false, false, false, false, false] (by kernel_rfl) rfl rfl ⟨(zaa BK590.o 0).trans rfl, (zaa BK590.o 1).trans rfl, (zaa BK590.o 2).trans rfl, (zaa BK590.o 3).trans rfl, (zaa BK590.o 4).trans rfl, (zaa BK590.o 5).trans rfl, (zaa BK590.o 6).trans rfl, (zaa BK590.o 7).trans rfl, ((HB.o.cell (World.block_lt_of_cell? w _ hw645_0)).trans hw645_0)⟩ (fun hHeld => ?_); refine zaP vinculumref13_inside.tab19 vinculumref13_inside.bits19 (fun HT_ HW_ => ?_)
                       generalize wc.drew = w98 at HO_10 BK590 HB HR649 hx645_0 hHeld ⊢
                       refine pure_ (i := 0) (N := some 135) (v := ?_) (a' := ?_) #[true, false, false, false, false, false, false, false, false, false, false] rfl rfl (zan HT_.out (by kernel_rfl)) (fun _ _ _ h => h) (Or.inl ⟨by rfl, ?_⟩) ?_ ?_
                       rotate_left
                       ·intro w'
                        go_simp
                        with_reducible rfl
                       rotate_left
                       ·simp only [Act.put, List.setIfInBounds_toArray, List.set_cons_zero, List.set_cons_succ, i64_w, i32_w]
                        rfl
                       refine pure_ (i := 2) (N := some 137) (v := ?_) (a' := ?_) #[true, false, true, false, false, false, false, false, false, false, false] rfl rfl (zan HT_.out (by kernel_rfl)) (fun _ _ _ h => h) (Or.inl ⟨by rfl, ?_⟩) ?_ ?_
                       rotate_left
                       ·intro w'
                        go_simp
                        with_reducible rfl
                       rotate_left
                       ·simp only [Act.put, List.setIfInBounds_toArray, List.set_cons_zero, List.set_cons_succ, i64_w, i32_w]
                        rfl
                       refine pure_ (i := 3) (N := some 138) (v := ?_) (a' := ?_) #[true, false, true, true, false, false, false, false, false, false, false] rfl rfl (zan HT_.out (by kernel_rfl)) (fun _ _ _ h => h) (Or.inl ⟨by rfl, ?_⟩) ?_ ?_
                       rotate_left
                       ·intro w'
                        go_simp
                        with_reducible rfl
                       rotate_left
                       ·simp only [Act.put, List.setIfInBounds_toArray, List.set_cons_zero, List.set_cons_succ, i64_w, i32_w]
                        rfl
                       refine pure_ (i := 7) (N := some 142) (v := ?_) (a' := ?_) #[true, false, true, true, false, false, false, true, false, false, false] rfl rfl (zan HT_.out (by kernel_rfl)) (fun _ _ _ h => h) (Or.inl ⟨by rfl, ?_⟩) ?_ ?_
                       rotate_left
                       ·intro w'
                        go_simp
                        with_reducible rfl
                       rotate_left
                       ·simp only [Act.put, List.setIfInBounds_toArray, List.set_cons_zero, List.set_cons_succ, i64_w, i32_w]
                        rfl
                       refine pure_ (i := 8) (N := some 143) (v := ?_) (a' := ?_) #[true, false, true, true, false, false, false, true, true, false, false] rfl rfl (zan HT_.out (by kernel_rfl)) (fun _ _ _ h => h) (Or.inl ⟨by rfl, ?_⟩) ?_ ?_
                       rotate_left
                       ·intro w'
                        go_simp
                        with_reducible rfl
                       rotate_left
                       ·simp only [Act.put, List.setIfInBounds_toArray, List.set_cons_zero, List.set_cons_succ, i64_w, i32_w]
                        rfl
                       refine take_ (i := 1) (N := some 136) (v := ?_) (a' := ?_) #[true, true, true, true, false, false, false, true, true, false, false] rfl rfl (zav HT_.out HW_.out (by kernel_rfl)) (fun _ _ _ h => h) (Or.inl ⟨by rfl, ?_⟩) hHeld ?_ ?_
                       rotate_left
                       ·rintro w' ⟨s0, s1, s2, s3, s4, s5, s6, s7, s8⟩
                        go_simp
                        with_reducible rfl
                       rotate_left
                       ·simp only [Act.put, List.setIfInBounds_toArray, List.set_cons_zero, List.set_cons_succ, i64_w, i32_w]
                        rfl
                       refine take_ (i := 4) (N := some 139) (v := ?_) (a' := ?_) #[true, true, true, true, true, false, false, true, true, false, false] rfl rfl (zav HT_.out HW_.out (by kernel_rfl)) (fun _ _ _ h => h) (Or.inl ⟨by rfl, ?_⟩) hHeld ?_ ?_
                       rotate_left
                       ·rintro w' ⟨s0, s1, s2, s3, s4, s5, s6, s7, s8⟩
                        go_simp
                        with_reducible rfl
                       rotate_left
                       ·simp only [Act.put, List.setIfInBounds_toArray, List.set_cons_zero, List.set_cons_succ, i64_w, i32_w]
                        rfl
                       refine pure_ (i := 5) (N := some 140) (v := ?_) (a' := ?_) #[true, true, true, true, true, true, false, true, true, false, false] rfl rfl (zan HT_.out (by kernel_rfl)) (fun _ _ _ h => h) (Or.inl ⟨by rfl, ?_⟩) ?_ ?_
                       rotate_left
                       ·intro w'
                        go_simp
                        with_reducible rfl
                       rotate_left
                       ·simp only [Act.put, List.setIfInBounds_toArray, List.set_cons_zero, List.set_cons_succ, i64_w, i32_w]
                        rfl
                       refine one_ (i := 6) (N := some 141) #[true, true, true, true, true, true, true, true, true, false, false] rfl rfl (zaJ HT_.out (by kernel_rfl)) (by decide) (fun K hK => ?_)
                       refine Kd.R_lit_step (Kd.int .i64) _ 3 ?hg (N := 141) ?hd (xs := ([wrap64 (a0_2 + (rd l3 0))] : List Int)) (inner := [.int .i64 (wrap64 (a0_2 + (rd l3 0)))]) (ok := fun _ => True) (okp := fun _ => True) ?hr ?hp (fun _ hk => hk) trivial (Below.refl _ _) (Nat.le_refl _) (by simp) ?_; (case hd => rfl); (case hg => rfl); (case hr => first | (go_simp; done) | (go_simp; rfl)); (case hp => exact (Reps.one (show Kd.M (Kd.int .i64) _ _ _ (wrap64 (a0_2 + (rd l3 0))) [.int .i64 (wrap64 (a0_2 + (rd l3 0)))] from rfl) (Reps.none _ _)))
                       intro v647 w100 ho101 hb hg_ hnew_
                       clear hg_ hnew_
                       (first | rw [← Ny646.out] at ho101 | (simp only [Int.reduceToNat] at ho101; rw [← Ny646.out] at ho101))
                       have n0_ := zab.mk (Kd.R_elder' (by (with_reducible repeat (first | apply Kd.R_alloc | apply Kd.R_drewN | apply Kd.R_drew)); exact HO_10.o) (Kd.R_base ho101) hb)
                       have n1_ := zab.mk (Kd.R_lower (Kd.R_new' ho101 (Kd.R_lt (by (with_reducible repeat (first | apply Kd.R_alloc | apply Kd.R_drewN | apply Kd.R_drew)); exact HO_10.o))) (zak (by repeat (first | (with_reducible first | exact HB.o | apply zad | apply zaf | apply zae | refine zag ?_ GE590.o) | exact HB.o))))
                       have n2_ := zab.mk (zam (by (with_reducible repeat (first | refine zaj ?_ _ | refine zah ?_ | refine zai ?_ _)); exact BK590.o) hb)
                       have n3_ := zab.mk (zal (by repeat (first | (with_reducible first | exact HB.o | apply zad | apply zaf | apply zae | refine zag ?_ GE590.o) | exact HB.o)) hb)
                       clear HO_10
                       clear BK590
                       clear HB
                       have HO_10 := n0_
                       have HO648 := n1_
                       have BK590 := n2_
                       have HB := n3_
                       clear n0_ n1_ n2_ n3_
                       clear hb ho101
                       refine hK.out _ _ ⟨(zaa BK590.o 0).trans rfl, (zaa BK590.o 1).trans rfl, (zaa BK590.o 2).trans rfl, (zaa BK590.o 3).trans rfl, (zaa BK590.o 4).trans rfl, (zaa BK590.o 5).trans rfl, (zaa BK590.o 6).trans rfl, (zaa BK590.o 7).trans rfl, ((HB.o.cell (World.block_lt_of_cell? w _ hw645_0)).trans hw645_0)⟩ (fun hHeld => ?_)
                       clear hK K
                       refine norm_ (a' := ?_) ?_ ?_
                       rotate_left
                       ·show Act.put _ (some 141) _ = _
                        simp only [Act.put, List.setIfInBounds_toArray, List.set_cons_zero, List.set_cons_succ, i64_w, i32_w]
                        rfl
                       refine one_ (i := 9) (N := some 144) #[true, true, true, true, true, true, true, true, true, true, false] rfl rfl (zaJ HT_.out (by kernel_rfl)) (by decide) (fun K hK => ?_)
                       refine Kd.R_append_rows_step (Kd.int .i64) (w0 := w) w.heap.size (by rfl) (.tmp 141) (.tmp 143) 25 3 (.int .i64 0) 8 rfl Try.underlying25 info3 rfl (by decide) (by omega) v647 y646 (l3.drop 1) _ _ _ (fun k_ => some k_ ≠ (v592 : Value).ownBlock) (fun _ => False) rfl rfl ?aO ?aR (fun _ _ h => h) (fun _ h => h.elim) ?aF ?aB ?aS ?aL ?_
                       (case aR => first | (rw [← show (l3.drop 1).length = (l3.length - 1) from List.length_drop]; repeat (first | exact (Kd.C_below HR649.o HB.o) | (with_reducible first | refine Kd.C_alloc ?_ _ | refine Kd.C_drewN ?_ _ | refine Kd.C_drew ?_))) | (repeat (first | exact (Kd.C_below HR649.o HB.o) | (with_reducible first | refine Kd.C_alloc ?_ _ | refine Kd.C_drewN ?_ _ | refine Kd.C_drew ?_))))
                       (case aB => exact (by repeat (first | (with_reducible first | exact HB.o | apply zad | apply zaf | apply zae | refine zag ?_ GE590.o) | exact HB.o)))
                       (case aF => exact (fun k_ hk => Kd.fresh' (Kd.R_lt (by (with_reducible repeat (first | apply Kd.R_alloc | apply Kd.R_drewN | apply Kd.R_drew)); exact HO_10.o)) k_ hk))
                       (case aO => exact (by (with_reducible repeat (first | apply Kd.R_alloc | apply Kd.R_drewN | apply Kd.R_drew)); exact Kd.R_mono HO648.o (fun _ hk => hk.2)))
                       (case aS => exact (zak (by repeat (first | (with_reducible first | exact HB.o | apply zad | apply zaf | apply zae | refine zag ?_ GE590.o) | exact HB.o))))
                       (case aL => have := LMc97.out; have hlx_ := (show (l3.drop 1).length = (l3.length - 1) from List.length_drop); omega)
                       intro v651 w102 ho hb hg hat
                       rw [← Ny650.out] at ho
                       have n0_ := zab.mk (Kd.R_after (ok := (fun _ => True)) (by (with_reducible repeat (first | apply Kd.R_alloc | apply Kd.R_drewN | apply Kd.R_drew)); exact HO_10.o) hg hat)
                       have n1_ := zab.mk (zaK (by (with_reducible repeat (first | refine zaj ?_ _ | refine zah ?_ | refine zai ?_ _)); exact BK590.o) hg (Kd.R_ne HO648.o BK590.o (by decide)))
                       have n2_ := zab.mk (hb)
                       have n3_ := zab.mk (ho)
                       clear HO_10
                       clear BK590
                       clear HB
                       clear HO648
                       have HO_10 := n0_
                       have BK590 := n1_
                       have HB := n2_
                       have HO652 := n3_
                       clear n0_ n1_ n2_ n3_
                       clear ho hb hg hat
                       refine hK.out _ _ ⟨(zaa BK590.o 0).trans rfl, (zaa BK590.o 1).trans rfl, (zaa BK590.o 2).trans rfl, (zaa BK590.o 3).trans rfl, (zaa BK590.o 4).trans rfl, (zaa BK590.o 5).trans rfl, (zaa BK590.o 6).trans rfl, (zaa BK590.o 7).trans rfl, ((HB.o.cell (World.block_lt_of_cell? w _ hw645_0)).trans hw645_0)⟩ (fun hHeld => ?_)
                       clear hK K
                       refine norm_ (a' := ?_) ?_ ?_
                       rotate_left
                       ·show Act.put _ (some 144) _ = _
                        simp only [Act.put, List.setIfInBounds_toArray, List.set_cons_zero, List.set_cons_succ, i64_w, i32_w]
                        rfl
                       refine pure_ (i := 10) (N := some 8) (v := ?_) (a' := ?_) #[true, true, true, true, true, true, true, true, true, true, true] rfl rfl (zan HT_.out (by kernel_rfl)) (fun _ _ _ h => h) (Or.inl ⟨by rfl, ?_⟩) ?_ ?_
                       rotate_left
                       ·intro w'
                        go_simp
                        with_reducible rfl
                       rotate_left
                       ·simp only [Act.put, List.setIfInBounds_toArray, List.set_cons_zero, List.set_cons_succ, i64_w, i32_w]
                        rfl
                       refine done_ (zaQ HT_.out (by kernel_rfl)) ?_
                       try go_wp2
                       go_ret
                       exact ⟨_, by first | rfl | (simp [errW_none, errW_some] <;> rfl) | (simp [*, errW_none, errW_some] <;> rfl), by (with_reducible repeat (first | apply Kd.R_alloc | apply Kd.R_drewN | apply Kd.R_drew)); exact Kd.R_mono HO652.o (fun _ hk => trivial), by repeat (first | (with_reducible first | exact HB.o | apply zad | apply zaf | apply zae | refine zag ?_ GE590.o) | exact HB.o)⟩
                      ·rw [if_neg c97] at H
                       exact absurd H (by simp)
                     ·rw [if_neg c96] at H
                      exact absurd H (by simp)
                    ·rw [if_neg c95] at H
                     exact absurd H (by simp)
                   ·replace c94 := Bool.eq_false_iff.mpr c94
                    subst c94
                    have H1 : (if a0_0 = 4 then ((some (([wrap64 ((wrap64 (a1 - 1)) + a0_3)] : List Int) : List Int)).bind fun y653 => (if y653.length < 17592186044416 then ((some (y653 ++ [a2] : List Int)).bind fun y656 => (if y656.length + l3.length < 17592186044416 then (some (y656 ++ l3)) else (none))) else (none))) else (if y591.length < 17592186044416 then ((some (y591 ++ [a2] : List Int)).bind fun y662 => (if y662.length + l3.length < 17592186044416 then (some (y662 ++ l3)) else (none))) else (none))) = some r := by rw [if_neg (show ¬ (false = true) by decide)] at H; exact H
                    clear H
                    have H := H1
                    clear H1
                    by_cases c103 : a0_0 = 4
                    ·rw [if_pos c103] at H
                     have c103b0 : (a0_0 == 4) = true := beq_iff_eq.mpr c103
                     have c103b1 : (a0_0 != 4) = false := bne_eq_false_iff_eq.mpr c103
                     clear c103
                     obtain ⟨y653, hy653⟩ : ∃ y_ : List Int, y_ = (([wrap64 ((wrap64 (a1 - 1)) + a0_3)] : List Int)) := ⟨_, rfl⟩
                     replace H : (if y653.length < 17592186044416 then ((some (y653 ++ [a2] : List Int)).bind fun y656 => (if y656.length + l3.length < 17592186044416 then (some (y656 ++ l3)) else (none))) else (none)) = some r := by first | (rw [hy653]; with_reducible exact H) | (have H2_ := (Option.bind_some _ _).symm.trans H; rw [hy653]; with_reducible exact H2_) | (have H2_ := (Option.bind_some _ _).symm.trans H; with_reducible exact H2_) | with_reducible exact H | (rw [hy653]; exact H) | exact H
                     have Ny653 := zab.mk hy653
                     clear hy653
                     by_cases c104 : y653.length < 17592186044416
                     ·rw [if_pos c104] at H
                      have LMc104 := zab.mk c104
                      clear c104
                      obtain ⟨y656, hy656⟩ : ∃ y_ : List Int, y_ = (y653 ++ [a2]) := ⟨_, rfl⟩
                      replace H : (if y656.length + l3.length < 17592186044416 then (some (y656 ++ l3)) else (none)) = some r := by first | (rw [hy656]; with_reducible exact H) | (have H2_ := (Option.bind_some _ _).symm.trans H; rw [hy656]; with_reducible exact H2_) | (have H2_ := (Option.bind_some _ _).symm.trans H; with_reducible exact H2_) | with_reducible exact H | (rw [hy656]; exact H) | exact H
                      have Ny656 := zab.mk hy656
                      clear hy656
                      by_cases c105 : y656.length + l3.length < 17592186044416
                      ·rw [if_pos c105] at H
                       have LMc105 := zab.mk c105
                       clear c105
                       obtain ⟨y659, hy659⟩ : ∃ y_ : List Int, y_ = (y656 ++ l3) := ⟨_, rfl⟩
                       replace H : (some y659) = some r := by first | (rw [hy659]; with_reducible exact H) | (have H2_ := (Option.bind_some _ _).symm.trans H; rw [hy659]; with_reducible exact H2_) | (have H2_ := (Option.bind_some _ _).symm.trans H; with_reducible exact H2_) | with_reducible exact H | (rw [hy659]; exact H) | exact H
                       have Ny659 := zab.mk hy659
                       clear hy659
                       obtain rfl := Option.some.inj H
                       have hcz106_0 : wc.cell? ⟨gb590, 0, none⟩ = some (.int .i64 a0_0) := (zaa BK590.o 0).trans rfl
                       have hcz106_1 : wc.cell? ⟨gb590, 1, none⟩ = some (.slice A0_1 l0_1.length c0_1) := (zaa BK590.o 1).trans rfl
                       have hcz106_2 : wc.cell? ⟨gb590, 2, none⟩ = some (.int .i64 a0_2) := (zaa BK590.o 2).trans rfl
                       have hcz106_3 : wc.cell? ⟨gb590, 3, none⟩ = some (.int .i64 a0_3) := (zaa BK590.o 3).trans rfl
                       have hcz106_4 : wc.cell? ⟨gb590, 4, none⟩ = some (.slice A0_4 l0_4.length c0_4) := (zaa BK590.o 4).trans rfl
                       have hcz106_5 : wc.cell? ⟨gb590, 5, none⟩ = some (.int .i64 a0_5) := (zaa BK590.o 5).trans rfl
                       have hcz106_6 : wc.cell? ⟨gb590, 6, none⟩ = some (.string a0_6) := (zaa BK590.o 6).trans rfl
                       have hcz106_7 : wc.cell? ⟨gb590, 7, none⟩ = some (.string a0_7) := (zaa BK590.o 7).trans rfl
                       have hfz106_0 := zac BK590.o 0
                       have hfz106_1 := zac BK590.o 1
                       have hfz106_2 := zac BK590.o 2
                       have hfz106_3 := zac BK590.o 3
                       have hfz106_4 := zac BK590.o 4
                       have hfz106_5 := zac BK590.o 5
                       have hfz106_6 := zac BK590.o 6
                       have hfz106_7 := zac BK590.o 7
                       go_wp2_with (first | ((with_reducible refine zaq (N := 154) rfl ?_); refine Kd.R_lit (Kd.int .i64) _ 3 ?hg (N := 154) ?hd (xs := ([wrap64 ((wrap64 (a1 - 1)) + a0_3)] : List Int)) (inner := [.int .i64 (wrap64 ((wrap64 (a1 - 1)) + a0_3))]) (ok := fun _ => True) (okp := fun _ => True) ?hr ?hp (fun _ hk => hk) trivial (Below.refl _ _) (Nat.le_refl _) (by simp) ?_; (case hd => rfl); (case hg => rfl); (case hr => first | (go_simp; done) | (go_simp; rfl)); (case hp => exact (Reps.one (show Kd.M (Kd.int .i64) _ _ _ (wrap64 ((wrap64 (a1 - 1)) + a0_3)) [.int .i64 (wrap64 ((wrap64 (a1 - 1)) + a0_3))] from rfl) (Reps.none _ _))); intro v654 w107 ho108 hb hg_ hnew_; clear hg_ hnew_; (first | rw [← Ny653.out] at ho108 | (simp only [Int.reduceToNat] at ho108; rw [← Ny653.out] at ho108)); have n0_ := zab.mk (Kd.R_elder' (by (with_reducible repeat (first | apply Kd.R_alloc | apply Kd.R_drewN | apply Kd.R_drew)); exact HO_10.o) (Kd.R_base ho108) hb); have n1_ := zab.mk (Kd.R_lower (Kd.R_new' ho108 (Kd.R_lt (by (with_reducible repeat (first | apply Kd.R_alloc | apply Kd.R_drewN | apply Kd.R_drew)); exact HO_10.o))) (zak (by repeat (first | (with_reducible first | exact HB.o | apply zad | apply zaf | apply zae | refine zag ?_ GE590.o) | exact HB.o)))); have n2_ := zab.mk (zam (by (with_reducible repeat (first | refine zaj ?_ _ | refine zah ?_ | refine zai ?_ _)); exact BK590.o) hb); have n3_ := zab.mk (zal (by repeat (first | (with_reducible first | exact HB.o | apply zad | apply zaf | apply zae | refine zag ?_ GE590.o) | exact HB.o)) hb); clear HO_10; clear BK590; clear HB; have HO_10 := n0_; have HO655 := n1_; have BK590 := n2_; have HB := n3_; clear n0_ n1_ n2_ n3_; clear hb ho108) | ((with_reducible refine zaM (b := .append) (xs := #[.tmp 155, .tmp 157]) rfl ?_); at_builtin; refine Kd.R_append (Kd.int .i64) (w0 := w) w.heap.size rfl (.tmp 155) (.tmp 157) 25 3 (.int .i64 0) 8 rfl Try.underlying25 info3 rfl (by decide) (by omega) v654 y653 a2 [.int .i64 a2] (fun k_ => some k_ ≠ (v592 : Value).ownBlock) (fun _ => False) rfl rfl ?aP (fun _ hk => hk.elim) ?aF ?aO ?aB ?aS ?aL ?_; (case aP => exact rfl); (case aB => exact (by repeat (first | (with_reducible first | exact HB.o | apply zad | apply zaf | apply zae | refine zag ?_ GE590.o) | exact HB.o))); (case aF => exact (fun k_ hk => Kd.fresh' (Kd.R_lt (by (with_reducible repeat (first | apply Kd.R_alloc | apply Kd.R_drewN | apply Kd.R_drew)); exact HO_10.o)) k_ hk)); (case aO => exact (by (with_reducible repeat (first | apply Kd.R_alloc | apply Kd.R_drewN | apply Kd.R_drew)); exact Kd.R_mono HO655.o (fun _ hk => hk.2))); (case aS => exact (zak (by repeat (first | (with_reducible first | exact HB.o | apply zad | apply zaf | apply zae | refine zag ?_ GE590.o) | exact HB.o)))); (case aL => have := LMc104.out; omega); intro v657 w109 ho hb hg hat; rw [← Ny656.out] at ho; have n0_ := zab.mk (Kd.R_after (ok := (fun _ => True)) (by (with_reducible repeat (first | apply Kd.R_alloc | apply Kd.R_drewN | apply Kd.R_drew)); exact HO_10.o) hg hat); have n1_ := zab.mk (zaK (by (with_reducible repeat (first | refine zaj ?_ _ | refine zah ?_ | refine zai ?_ _)); exact BK590.o) hg (Kd.R_ne HO655.o BK590.o (by decide))); have n2_ := zab.mk (hb); have n3_ := zab.mk (ho); clear HO_10; clear BK590; clear HB; clear HO655; have HO_10 := n0_; have BK590 := n1_; have HB := n2_; have HO658 := n3_; clear n0_ n1_ n2_ n3_; clear ho hb hg hat) | ((with_reducible refine zaM (b := .append) (xs := #[.tmp 158, .tmp 159]) rfl ?_); at_builtin; refine Kd.R_append_rows (Kd.int .i64) (w0 := w) w.heap.size rfl (.tmp 158) (.tmp 159) 25 3 (.int .i64 0) 8 rfl Try.underlying25 info3 rfl (by decide) (by omega) v657 y656 l3 _ _ _ (fun k_ => some k_ ≠ (v592 : Value).ownBlock) (fun _ => False) rfl rfl ?aO ?aR (fun _ _ h => h) (fun _ h => h.elim) ?aF ?aB ?aS ?aL ?_; (case aR => repeat (first | exact (Kd.C_below HR3.o HB.o) | (with_reducible first | refine Kd.C_alloc ?_ _ | refine Kd.C_drewN ?_ _ | refine Kd.C_drew ?_))); (case aB => exact (by repeat (first | (with_reducible first | exact HB.o | apply zad | apply zaf | apply zae | refine zag ?_ GE590.o) | exact HB.o))); (case aF => exact (fun k_ hk => Kd.fresh' (Kd.R_lt (by (with_reducible repeat (first | apply Kd.R_alloc | apply Kd.R_drewN | apply Kd.R_drew)); exact HO_10.o)) k_ hk)); (case aO => exact (by (with_reducible repeat (first | apply Kd.R_alloc | apply Kd.R_drewN | apply Kd.R_drew)); exact HO658.o)); (case aS => exact (zak (by repeat (first | (with_reducible first | exact HB.o | apply zad | apply zaf | apply zae | refine zag ?_ GE590.o) | exact HB.o)))); (case aL => have := LMc105.out; omega); intro v660 w110 ho hb hg hat; rw [← Ny659.out] at ho; have n0_ := zab.mk (Kd.R_after (ok := (fun _ => True)) (by (with_reducible repeat (first | apply Kd.R_alloc | apply Kd.R_drewN | apply Kd.R_drew)); exact HO_10.o) hg hat); have n1_ := zab.mk (zaK (by (with_reducible repeat (first | refine zaj ?_ _ | refine zah ?_ | refine zai ?_ _)); exact BK590.o) hg (Kd.R_ne HO658.o BK590.o (by decide))); have n2_ := zab.mk (hb); have n3_ := zab.mk (ho); clear HO_10; clear BK590; clear HB; clear HO658; have HO_10 := n0_; have BK590 := n1_; have HB := n2_; have HO661 := n3_; clear n0_ n1_ n2_ n3_; clear ho hb hg hat))
                       go_ret
                       exact ⟨_, by first | rfl | (simp [errW_none, errW_some] <;> rfl) | (simp [*, errW_none, errW_some] <;> rfl), by (with_reducible repeat (first | apply Kd.R_alloc | apply Kd.R_drewN | apply Kd.R_drew)); exact Kd.R_mono HO661.o (fun _ hk => trivial), by repeat (first | (with_reducible first | exact HB.o | apply zad | apply zaf | apply zae | refine zag ?_ GE590.o) | exact HB.o)⟩
                      ·rw [if_neg c105] at H
                       exact absurd H (by simp)
                     ·rw [if_neg c104] at H
                      exact absurd H (by simp)
                    ·rw [if_neg c103] at H
                     have c103b0 : (a0_0 == 4) = false := beq_eq_false_iff_ne.mpr c103
                     have c103b1 : (a0_0 != 4) = true := bne_iff_ne.mpr c103
                     by_cases c111 : y591.length < 17592186044416
                     ·rw [if_pos c111] at H
                      have LMc111 := zab.mk c111
                      clear c111
                      obtain ⟨y662, hy662⟩ : ∃ y_ : List Int, y_ = (y591 ++ [a2]) := ⟨_, rfl⟩
                      replace H : (if y662.length + l3.length < 17592186044416 then (some (y662 ++ l3)) else (none)) = some r := by first | (rw [hy662]; with_reducible exact H) | (have H2_ := (Option.bind_some _ _).symm.trans H; rw [hy662]; with_reducible exact H2_) | (have H2_ := (Option.bind_some _ _).symm.trans H; with_reducible exact H2_) | with_reducible exact H | (rw [hy662]; exact H) | exact H
                      have Ny662 := zab.mk hy662
                      clear hy662
                      by_cases c112 : y662.length + l3.length < 17592186044416
                      ·rw [if_pos c112] at H
                       have LMc112 := zab.mk c112
                       clear c112
                       obtain ⟨y665, hy665⟩ : ∃ y_ : List Int, y_ = (y662 ++ l3) := ⟨_, rfl⟩
                       replace H : (some y665) = some r := by first | (rw [hy665]; with_reducible exact H) | (have H2_ := (Option.bind_some _ _).symm.trans H; rw [hy665]; with_reducible exact H2_) | (have H2_ := (Option.bind_some _ _).symm.trans H; with_reducible exact H2_) | with_reducible exact H | (rw [hy665]; exact H) | exact H
                       have Ny665 := zab.mk hy665
                       clear hy665
                       obtain rfl := Option.some.inj H
                       have hcz113_0 : wc.cell? ⟨gb590, 0, none⟩ = some (.int .i64 a0_0) := (zaa BK590.o 0).trans rfl
                       have hcz113_1 : wc.cell? ⟨gb590, 1, none⟩ = some (.slice A0_1 l0_1.length c0_1) := (zaa BK590.o 1).trans rfl
                       have hcz113_2 : wc.cell? ⟨gb590, 2, none⟩ = some (.int .i64 a0_2) := (zaa BK590.o 2).trans rfl
                       have hcz113_3 : wc.cell? ⟨gb590, 3, none⟩ = some (.int .i64 a0_3) := (zaa BK590.o 3).trans rfl
                       have hcz113_4 : wc.cell? ⟨gb590, 4, none⟩ = some (.slice A0_4 l0_4.length c0_4) := (zaa BK590.o 4).trans rfl
                       have hcz113_5 : wc.cell? ⟨gb590, 5, none⟩ = some (.int .i64 a0_5) := (zaa BK590.o 5).trans rfl
                       have hcz113_6 : wc.cell? ⟨gb590, 6, none⟩ = some (.string a0_6) := (zaa BK590.o 6).trans rfl
                       have hcz113_7 : wc.cell? ⟨gb590, 7, none⟩ = some (.string a0_7) := (zaa BK590.o 7).trans rfl
                       have hfz113_0 := zac BK590.o 0
                       have hfz113_1 := zac BK590.o 1
                       have hfz113_2 := zac BK590.o 2
                       have hfz113_3 := zac BK590.o 3
                       have hfz113_4 := zac BK590.o 4
                       have hfz113_5 := zac BK590.o 5
                       have hfz113_6 := zac BK590.o 6
                       have hfz113_7 := zac BK590.o 7
                       go_wp2_with (first | ((with_reducible refine zaM (b := .append) (xs := #[.tmp 155, .tmp 157]) rfl ?_); at_builtin; refine Kd.R_append (Kd.int .i64) (w0 := w) w.heap.size rfl (.tmp 155) (.tmp 157) 25 3 (.int .i64 0) 8 rfl Try.underlying25 info3 rfl (by decide) (by omega) v592 y591 a2 [.int .i64 a2] (fun _ => True) (fun _ => False) rfl rfl ?aP (fun _ hk => hk.elim) ?aF ?aO ?aB ?aS ?aL ?_; (case aP => exact rfl); (case aB => exact (by repeat (first | (with_reducible first | exact HB.o | apply zad | apply zaf | apply zae | refine zag ?_ GE590.o) | exact HB.o))); (case aF => exact (fun _ _ => trivial)); (case aO => exact (by (with_reducible repeat (first | apply Kd.R_alloc | apply Kd.R_drewN | apply Kd.R_drew)); exact HO_10.o)); (case aS => exact (zak (by repeat (first | (with_reducible first | exact HB.o | apply zad | apply zaf | apply zae | refine zag ?_ GE590.o) | exact HB.o)))); (case aL => have := LMc111.out; omega); intro v663 w114 ho hb hg hat; rw [← Ny662.out] at ho; have n0_ := zab.mk (zaK (by (with_reducible repeat (first | refine zaj ?_ _ | refine zah ?_ | refine zai ?_ _)); exact BK590.o) hg (Kd.R_ne HO_10.o BK590.o (by decide))); have n1_ := zab.mk (hb); have n2_ := zab.mk (ho); clear BK590; clear HB; clear HO_10; have BK590 := n0_; have HB := n1_; have HO664 := n2_; clear n0_ n1_ n2_; clear ho hb hg hat) | ((with_reducible refine zaM (b := .append) (xs := #[.tmp 158, .tmp 159]) rfl ?_); at_builtin; refine Kd.R_append_rows (Kd.int .i64) (w0 := w) w.heap.size rfl (.tmp 158) (.tmp 159) 25 3 (.int .i64 0) 8 rfl Try.underlying25 info3 rfl (by decide) (by omega) v663 y662 l3 _ _ _ (fun _ => True) (fun _ => False) rfl rfl ?aO ?aR (fun _ _ h => h) (fun _ h => h.elim) ?aF ?aB ?aS ?aL ?_; (case aR => repeat (first | exact (Kd.C_below HR3.o HB.o) | (with_reducible first | refine Kd.C_alloc ?_ _ | refine Kd.C_drewN ?_ _ | refine Kd.C_drew ?_))); (case aB => exact (by repeat (first | (with_reducible first | exact HB.o | apply zad | apply zaf | apply zae | refine zag ?_ GE590.o) | exact HB.o))); (case aF => exact (fun _ _ => trivial)); (case aO => exact (by (with_reducible repeat (first | apply Kd.R_alloc | apply Kd.R_drewN | apply Kd.R_drew)); exact HO664.o)); (case aS => exact (zak (by repeat (first | (with_reducible first | exact HB.o | apply zad | apply zaf | apply zae | refine zag ?_ GE590.o) | exact HB.o)))); (case aL => have := LMc112.out; omega); intro v666 w115 ho hb hg hat; rw [← Ny665.out] at ho; have n0_ := zab.mk (zaK (by (with_reducible repeat (first | refine zaj ?_ _ | refine zah ?_ | refine zai ?_ _)); exact BK590.o) hg (Kd.R_ne HO664.o BK590.o (by decide))); have n1_ := zab.mk (hb); have n2_ := zab.mk (ho); clear BK590; clear HB; clear HO664; have BK590 := n0_; have HB := n1_; have HO667 := n2_; clear n0_ n1_ n2_; clear ho hb hg hat))
                       go_ret
                       exact ⟨_, by first | rfl | (simp [errW_none, errW_some] <;> rfl) | (simp [*, errW_none, errW_some] <;> rfl), by (with_reducible repeat (first | apply Kd.R_alloc | apply Kd.R_drewN | apply Kd.R_drew)); exact HO667.o, by repeat (first | (with_reducible first | exact HB.o | apply zad | apply zaf | apply zae | refine zag ?_ GE590.o) | exact HB.o)⟩
                      ·rw [if_neg c112] at H
                       exact absurd H (by simp)
                     ·rw [if_neg c111] at H
                      exact absurd H (by simp)

end Go.Proofs.Ytikgflpobacndaa.P
