/- Written by wip/tool/hprint.py (the kit's print.py with hand-proved contracts set in): contracts of the functions that the statements of this seat reach, without conditions beyond those named in each theorem. -/
import Derived.Test.YtnnhhkjcjkinpaaP0
import Derived.Test.YtnnhhkjcjkinpaaP10
namespace Go.Proofs.Ytnnhhkjcjkinpaa.P
open Go.RowKit Go.Proofs.YtnnhhkjcjkinpaaW.PrintWords Go.Proofs.YtnnhhkjcjkinpaaW.PrintLast Go.Proofs.YtnnhhkjcjkinpaaW.PrintMore
attribute [local go_sem] max2_int min2_int max_two min_two max_three min_three max_four min_four   -- for this text's walks alone
set_option linter.unusedVariables false
set_option linter.unusedSimpArgs false

/-! ### vinculumref28_Equal: function 17 -/
mutual
def vinculumref28_Equal.j0 : Nat → Bool → Int → ByteArray → Int → Int → Int → Int → Int → Int → List (S28) → Int → List Int → Int → ByteArray → Int → Int → Int → Int → Int → Int → List (S28) → Int → List Int → Option (Bool)
  | 0, _, _, _, _, _, _, _, _, _, _, _, _, _, _, _, _, _, _, _, _, _, _, _ => none
  | k + 1, x83, x181000, x181001, x181002, x181003, x181004, x181005, x181006, x181007, x181008, x181009, x181010, x182000, x182001, x182002, x182003, x182004, x182005, x182006, x182007, x182008, x182009, x182010 => if x83 = true then (some false) else (vinculumref28_Equal.l0 k 0 x181000 x181001 x181002 x181003 x181004 x181005 x181006 x181007 x181008 x181009 x181010 x182000 x182001 x182002 x182003 x182004 x182005 x182006 x182007 x182008 x182009 x182010)
def vinculumref28_Equal.l0 : Nat → Int → Int → ByteArray → Int → Int → Int → Int → Int → Int → List (S28) → Int → List Int → Int → ByteArray → Int → Int → Int → Int → Int → Int → List (S28) → Int → List Int → Option (Bool)
  | 0, _, _, _, _, _, _, _, _, _, _, _, _, _, _, _, _, _, _, _, _, _, _, _ => none
  | k + 1, x5, x181000, x181001, x181002, x181003, x181004, x181005, x181006, x181007, x181008, x181009, x181010, x182000, x182001, x182002, x182003, x182004, x182005, x182006, x182007, x182008, x182009, x182010 => if x5 < (x181008.length : Int) then (if 0 ≤ x5 then (if x5 < (x182008.length : Int) then ((vinculumref28_Equal.f k ((rd_T28 x181008 x5).f0) ((rd_T28 x181008 x5).f1) ((rd_T28 x181008 x5).f2) ((rd_T28 x181008 x5).f3) ((rd_T28 x181008 x5).f4) ((rd_T28 x181008 x5).f5) ((rd_T28 x181008 x5).f6) ((rd_T28 x181008 x5).f7) ((rd_T28 x181008 x5).f8) ((rd_T28 x181008 x5).f9) ((rd_T28 x181008 x5).f10) ((rd_T28 x182008 x5).f0) ((rd_T28 x182008 x5).f1) ((rd_T28 x182008 x5).f2) ((rd_T28 x182008 x5).f3) ((rd_T28 x182008 x5).f4) ((rd_T28 x182008 x5).f5) ((rd_T28 x182008 x5).f6) ((rd_T28 x182008 x5).f7) ((rd_T28 x182008 x5).f8) ((rd_T28 x182008 x5).f9) ((rd_T28 x182008 x5).f10)).bind fun t185 => (if t185 = true then (vinculumref28_Equal.l0 k (wrap64 (x5 + 1)) x181000 x181001 x181002 x181003 x181004 x181005 x181006 x181007 x181008 x181009 x181010 x182000 x182001 x182002 x182003 x182004 x182005 x182006 x182007 x182008 x182009 x182010) else (some false))) else (none)) else (none)) else (some true)
def vinculumref28_Equal.f : Nat → Int → ByteArray → Int → Int → Int → Int → Int → Int → List (S28) → Int → List Int → Int → ByteArray → Int → Int → Int → Int → Int → Int → List (S28) → Int → List Int → Option (Bool)
  | 0, _, _, _, _, _, _, _, _, _, _, _, _, _, _, _, _, _, _, _, _, _, _ => none
  | k + 1, a0_0, a0_1, a0_2, a0_3, a0_4, a0_5, a0_6, a0_7, l0_8, a0_9, l0_10, a1_0, a1_1, a1_2, a1_3, a1_4, a1_5, a1_6, a1_7, l1_8, a1_9, l1_10 => if a0_0 = a1_0 then (if a0_1.toList = a1_1.toList then (if a0_2 = a1_2 then (if a0_3 = a1_3 then (if a0_4 = a1_4 then (if a0_5 = a1_5 then (if a0_6 = a1_6 then (if a0_7 = a1_7 then (if a0_9 = a1_9 then ((vinculumref28_SameInts.f k l0_10 l1_10).bind fun t182 => (if t182 = true then (vinculumref28_Equal.j0 k ((l0_8.length : Int) != (l1_8.length : Int)) a0_0 a0_1 a0_2 a0_3 a0_4 a0_5 a0_6 a0_7 l0_8 a0_9 l0_10 a1_0 a1_1 a1_2 a1_3 a1_4 a1_5 a1_6 a1_7 l1_8 a1_9 l1_10) else (vinculumref28_Equal.j0 k true a0_0 a0_1 a0_2 a0_3 a0_4 a0_5 a0_6 a0_7 l0_8 a0_9 l0_10 a1_0 a1_1 a1_2 a1_3 a1_4 a1_5 a1_6 a1_7 l1_8 a1_9 l1_10))) else (vinculumref28_Equal.j0 k true a0_0 a0_1 a0_2 a0_3 a0_4 a0_5 a0_6 a0_7 l0_8 a0_9 l0_10 a1_0 a1_1 a1_2 a1_3 a1_4 a1_5 a1_6 a1_7 l1_8 a1_9 l1_10)) else (vinculumref28_Equal.j0 k true a0_0 a0_1 a0_2 a0_3 a0_4 a0_5 a0_6 a0_7 l0_8 a0_9 l0_10 a1_0 a1_1 a1_2 a1_3 a1_4 a1_5 a1_6 a1_7 l1_8 a1_9 l1_10)) else (vinculumref28_Equal.j0 k true a0_0 a0_1 a0_2 a0_3 a0_4 a0_5 a0_6 a0_7 l0_8 a0_9 l0_10 a1_0 a1_1 a1_2 a1_3 a1_4 a1_5 a1_6 a1_7 l1_8 a1_9 l1_10)) else (vinculumref28_Equal.j0 k true a0_0 a0_1 a0_2 a0_3 a0_4 a0_5 a0_6 a0_7 l0_8 a0_9 l0_10 a1_0 a1_1 a1_2 a1_3 a1_4 a1_5 a1_6 a1_7 l1_8 a1_9 l1_10)) else (vinculumref28_Equal.j0 k true a0_0 a0_1 a0_2 a0_3 a0_4 a0_5 a0_6 a0_7 l0_8 a0_9 l0_10 a1_0 a1_1 a1_2 a1_3 a1_4 a1_5 a1_6 a1_7 l1_8 a1_9 l1_10)) else (vinculumref28_Equal.j0 k true a0_0 a0_1 a0_2 a0_3 a0_4 a0_5 a0_6 a0_7 l0_8 a0_9 l0_10 a1_0 a1_1 a1_2 a1_3 a1_4 a1_5 a1_6 a1_7 l1_8 a1_9 l1_10)) else (vinculumref28_Equal.j0 k true a0_0 a0_1 a0_2 a0_3 a0_4 a0_5 a0_6 a0_7 l0_8 a0_9 l0_10 a1_0 a1_1 a1_2 a1_3 a1_4 a1_5 a1_6 a1_7 l1_8 a1_9 l1_10)) else (vinculumref28_Equal.j0 k true a0_0 a0_1 a0_2 a0_3 a0_4 a0_5 a0_6 a0_7 l0_8 a0_9 l0_10 a1_0 a1_1 a1_2 a1_3 a1_4 a1_5 a1_6 a1_7 l1_8 a1_9 l1_10)) else (vinculumref28_Equal.j0 k true a0_0 a0_1 a0_2 a0_3 a0_4 a0_5 a0_6 a0_7 l0_8 a0_9 l0_10 a1_0 a1_1 a1_2 a1_3 a1_4 a1_5 a1_6 a1_7 l1_8 a1_9 l1_10)
end
theorem vinculumref28_Equal.mono_l : ∀ k, (∀ y0 y1 y2 y3 y4 y5 y6 y7 y8 y9 y10 y11 y12 y13 y14 y15 y16 y17 y18 y19 y20 y21, LeO (vinculumref28_Equal.f k y0 y1 y2 y3 y4 y5 y6 y7 y8 y9 y10 y11 y12 y13 y14 y15 y16 y17 y18 y19 y20 y21) (vinculumref28_Equal.f (k + 1) y0 y1 y2 y3 y4 y5 y6 y7 y8 y9 y10 y11 y12 y13 y14 y15 y16 y17 y18 y19 y20 y21)) ∧ (∀ y0 y1 y2 y3 y4 y5 y6 y7 y8 y9 y10 y11 y12 y13 y14 y15 y16 y17 y18 y19 y20 y21 y22, LeO (vinculumref28_Equal.j0 k y0 y1 y2 y3 y4 y5 y6 y7 y8 y9 y10 y11 y12 y13 y14 y15 y16 y17 y18 y19 y20 y21 y22) (vinculumref28_Equal.j0 (k + 1) y0 y1 y2 y3 y4 y5 y6 y7 y8 y9 y10 y11 y12 y13 y14 y15 y16 y17 y18 y19 y20 y21 y22)) ∧ (∀ y0 y1 y2 y3 y4 y5 y6 y7 y8 y9 y10 y11 y12 y13 y14 y15 y16 y17 y18 y19 y20 y21 y22, LeO (vinculumref28_Equal.l0 k y0 y1 y2 y3 y4 y5 y6 y7 y8 y9 y10 y11 y12 y13 y14 y15 y16 y17 y18 y19 y20 y21 y22) (vinculumref28_Equal.l0 (k + 1) y0 y1 y2 y3 y4 y5 y6 y7 y8 y9 y10 y11 y12 y13 y14 y15 y16 y17 y18 y19 y20 y21 y22))
  | 0 => ⟨fun _ _ _ _ _ _ _ _ _ _ _ _ _ _ _ _ _ _ _ _ _ _ r h => by simp [vinculumref28_Equal.f] at h, fun _ _ _ _ _ _ _ _ _ _ _ _ _ _ _ _ _ _ _ _ _ _ _ r h => by simp [vinculumref28_Equal.j0] at h, fun _ _ _ _ _ _ _ _ _ _ _ _ _ _ _ _ _ _ _ _ _ _ _ r h => by simp [vinculumref28_Equal.l0] at h⟩
  | k + 1 => by
    obtain ⟨ih0, ih1, ih2⟩ := vinculumref28_Equal.mono_l k
    refine ⟨?_, ?_, ?_⟩
    · intro y0 y1 y2 y3 y4 y5 y6 y7 y8 y9 y10 y11 y12 y13 y14 y15 y16 y17 y18 y19 y20 y21
      unfold vinculumref28_Equal.f
      repeat' first
      | (with_reducible exact ih0 _ _ _ _ _ _ _ _ _ _ _ _ _ _ _ _ _ _ _ _ _ _)
      | (with_reducible exact ih1 _ _ _ _ _ _ _ _ _ _ _ _ _ _ _ _ _ _ _ _ _ _ _)
      | (with_reducible exact ih2 _ _ _ _ _ _ _ _ _ _ _ _ _ _ _ _ _ _ _ _ _ _ _)
      | (with_reducible exact vinculumref28_SameInts.mono _ _ _)
      | (with_reducible exact LeO.refl _)
      | (with_reducible exact LeO.none _)
      | (with_reducible refine LeO.ite ?_ ?_)
      | (with_reducible refine LeO.bind ?_ (fun _ => ?_))
      | exact ih0 _ _ _ _ _ _ _ _ _ _ _ _ _ _ _ _ _ _ _ _ _ _
      | exact ih1 _ _ _ _ _ _ _ _ _ _ _ _ _ _ _ _ _ _ _ _ _ _ _
      | exact ih2 _ _ _ _ _ _ _ _ _ _ _ _ _ _ _ _ _ _ _ _ _ _ _
      | exact vinculumref28_SameInts.mono _ _ _
      | exact LeO.none _
      | refine LeO.ite ?_ ?_
      | refine LeO.bind ?_ (fun _ => ?_)
    · intro y0 y1 y2 y3 y4 y5 y6 y7 y8 y9 y10 y11 y12 y13 y14 y15 y16 y17 y18 y19 y20 y21 y22
      unfold vinculumref28_Equal.j0
      repeat' first
      | (with_reducible exact ih0 _ _ _ _ _ _ _ _ _ _ _ _ _ _ _ _ _ _ _ _ _ _)
      | (with_reducible exact ih1 _ _ _ _ _ _ _ _ _ _ _ _ _ _ _ _ _ _ _ _ _ _ _)
      | (with_reducible exact ih2 _ _ _ _ _ _ _ _ _ _ _ _ _ _ _ _ _ _ _ _ _ _ _)
      | (with_reducible exact vinculumref28_SameInts.mono _ _ _)
      | (with_reducible exact LeO.refl _)
      | (with_reducible exact LeO.none _)
      | (with_reducible refine LeO.ite ?_ ?_)
      | (with_reducible refine LeO.bind ?_ (fun _ => ?_))
      | exact ih0 _ _ _ _ _ _ _ _ _ _ _ _ _ _ _ _ _ _ _ _ _ _
      | exact ih1 _ _ _ _ _ _ _ _ _ _ _ _ _ _ _ _ _ _ _ _ _ _ _
      | exact ih2 _ _ _ _ _ _ _ _ _ _ _ _ _ _ _ _ _ _ _ _ _ _ _
      | exact vinculumref28_SameInts.mono _ _ _
      | exact LeO.none _
      | refine LeO.ite ?_ ?_
      | refine LeO.bind ?_ (fun _ => ?_)
    · intro y0 y1 y2 y3 y4 y5 y6 y7 y8 y9 y10 y11 y12 y13 y14 y15 y16 y17 y18 y19 y20 y21 y22
      unfold vinculumref28_Equal.l0
      repeat' first
      | (with_reducible exact ih0 _ _ _ _ _ _ _ _ _ _ _ _ _ _ _ _ _ _ _ _ _ _)
      | (with_reducible exact ih1 _ _ _ _ _ _ _ _ _ _ _ _ _ _ _ _ _ _ _ _ _ _ _)
      | (with_reducible exact ih2 _ _ _ _ _ _ _ _ _ _ _ _ _ _ _ _ _ _ _ _ _ _ _)
      | (with_reducible exact vinculumref28_SameInts.mono _ _ _)
      | (with_reducible exact LeO.refl _)
      | (with_reducible exact LeO.none _)
      | (with_reducible refine LeO.ite ?_ ?_)
      | (with_reducible refine LeO.bind ?_ (fun _ => ?_))
      | exact ih0 _ _ _ _ _ _ _ _ _ _ _ _ _ _ _ _ _ _ _ _ _ _
      | exact ih1 _ _ _ _ _ _ _ _ _ _ _ _ _ _ _ _ _ _ _ _ _ _ _
      | exact ih2 _ _ _ _ _ _ _ _ _ _ _ _ _ _ _ _ _ _ _ _ _ _ _
      | exact vinculumref28_SameInts.mono _ _ _
      | exact LeO.none _
      | refine LeO.ite ?_ ?_
      | refine LeO.bind ?_ (fun _ => ?_)
theorem vinculumref28_Equal.mono : ∀ a0 a1 a2 a3 a4 a5 a6 a7 a8 a9 a10 a11 a12 a13 a14 a15 a16 a17 a18 a19 a20 a21 k, LeO (vinculumref28_Equal.f k a0 a1 a2 a3 a4 a5 a6 a7 a8 a9 a10 a11 a12 a13 a14 a15 a16 a17 a18 a19 a20 a21) (vinculumref28_Equal.f (k + 1) a0 a1 a2 a3 a4 a5 a6 a7 a8 a9 a10 a11 a12 a13 a14 a15 a16 a17 a18 a19 a20 a21) := by
  intro a0 a1 a2 a3 a4 a5 a6 a7 a8 a9 a10 a11 a12 a13 a14 a15 a16 a17 a18 a19 a20 a21 k
  obtain ⟨ih0, ih1, ih2⟩ := vinculumref28_Equal.mono_l k
  exact ih0 a0 a1 a2 a3 a4 a5 a6 a7 a8 a9 a10 a11 a12 a13 a14 a15 a16 a17 a18 a19 a20 a21
def vinculumref28_Equal.T6 : Bool × List (List Nat × List Nat) := (true, [([], []), ([0], [0]), ([], []), ([1, 2], [1, 2]), ([3], [3]), ([], []), ([5], [5]), ([], []), ([6, 7], [6, 7]), ([8], [8]), ([4, 9], [4, 9]), ([10], [10])])
def vinculumref28_Equal.B6 : List Nat := [0, 1, 0, 7, 15, 0, 32, 0, 224, 480, 1023, 2047]
theorem vinculumref28_Equal.tab6 : rtab .any (opsOf Try.f17 6) = vinculumref28_Equal.T6 := by kernel_rfl
theorem vinculumref28_Equal.bits6 : waitsOk vinculumref28_Equal.T6.2 vinculumref28_Equal.B6 = true := by kernel_rfl
set_option maxHeartbeats 8000000 in
set_option maxRecDepth 100000 in
theorem vinculumref28_Equal.calls (k : Nat) : ∀ (a0_0 : Int) (a0_1 : ByteArray) (a0_2 : Int) (a0_3 : Int) (a0_4 : Int) (a0_5 : Int) (a0_6 : Int) (a0_7 : Int) (A0_8 : Option Addr) (c0_8 : Nat) (l0_8 : List (S28)) (a0_9 : Int) (A0_10 : Option Addr) (c0_10 : Nat) (l0_10 : List Int) (a1_0 : Int) (a1_1 : ByteArray) (a1_2 : Int) (a1_3 : Int) (a1_4 : Int) (a1_5 : Int) (a1_6 : Int) (a1_7 : Int) (A1_8 : Option Addr) (c1_8 : Nat) (l1_8 : List (S28)) (a1_9 : Int) (A1_10 : Option Addr) (c1_10 : Nat) (l1_10 : List Int) (r : Bool) (w : World) (hr0_8 : Kd.C k28 w A0_8 l0_8.length l0_8) (hc0_8 : l0_8.length ≤ c0_8) (hr0_10 : Kd.C (Kd.int .i64) w A0_10 l0_10.length l0_10) (hc0_10 : l0_10.length ≤ c0_10) (hr1_8 : Kd.C k28 w A1_8 l1_8.length l1_8) (hc1_8 : l1_8.length ≤ c1_8) (hr1_10 : Kd.C (Kd.int .i64) w A1_10 l1_10.length l1_10) (hc1_10 : l1_10.length ≤ c1_10) (h : vinculumref28_Equal.f k a0_0 a0_1 a0_2 a0_3 a0_4 a0_5 a0_6 a0_7 l0_8 a0_9 l0_10 a1_0 a1_1 a1_2 a1_3 a1_4 a1_5 a1_6 a1_7 l1_8 a1_9 l1_10 = some r),
    Calls Try.prog 17 #[.agg #[.int .i64 a0_0, .string a0_1, .int .i64 a0_2, .int .i64 a0_3, .int .i64 a0_4, .int .i64 a0_5, .int .i64 a0_6, .int .i64 a0_7, .slice A0_8 l0_8.length c0_8, .int .i64 a0_9, .slice A0_10 l0_10.length c0_10], .agg #[.int .i64 a1_0, .string a1_1, .int .i64 a1_2, .int .i64 a1_3, .int .i64 a1_4, .int .i64 a1_5, .int .i64 a1_6, .int .i64 a1_7, .slice A1_8 l1_8.length c1_8, .int .i64 a1_9, .slice A1_10 l1_10.length c1_10]] w fun e w' => e = .returned (.bool r) ∧ Below w.heap.size w w' := by
  induction k using Nat.strongRecOn with
  | _ k ih =>
  intro a0_0 a0_1 a0_2 a0_3 a0_4 a0_5 a0_6 a0_7 A0_8 c0_8 l0_8 a0_9 A0_10 c0_10 l0_10 a1_0 a1_1 a1_2 a1_3 a1_4 a1_5 a1_6 a1_7 A1_8 c1_8 l1_8 a1_9 A1_10 c1_10 l1_10 r w hr0_8 hc0_8 hr0_10 hc0_10 hr1_8 hc1_8 hr1_10 hc1_10 h
  cases k with
  | zero => exact absurd h (by simp [vinculumref28_Equal.f])
  | succ k =>
  simp only [vinculumref28_Equal.f] at h
  have hu28 := Try.underlying28
  have HR0_8 := Aside0.mk hr0_8
  have HC0_8 := Aside0.mk hc0_8
  clear hr0_8 hc0_8
  have HR0_10 := Aside0.mk hr0_10
  have HC0_10 := Aside0.mk hc0_10
  clear hr0_10 hc0_10
  have HR1_8 := Aside0.mk hr1_8
  have HC1_8 := Aside0.mk hc1_8
  clear hr1_8 hc1_8
  have HR1_10 := Aside0.mk hr1_10
  have HC1_10 := Aside0.mk hc1_10
  clear hr1_10 hc1_10
  have HB := Aside0.mk (Below.refl w.heap.size w)
  have H : (if a0_0 = a1_0 then (if a0_1.toList = a1_1.toList then (if a0_2 = a1_2 then (if a0_3 = a1_3 then (if a0_4 = a1_4 then (if a0_5 = a1_5 then (if a0_6 = a1_6 then (if a0_7 = a1_7 then (if a0_9 = a1_9 then ((vinculumref28_SameInts.f k l0_10 l1_10).bind fun t182 => (if t182 = true then (vinculumref28_Equal.j0 k ((l0_8.length : Int) != (l1_8.length : Int)) a0_0 a0_1 a0_2 a0_3 a0_4 a0_5 a0_6 a0_7 l0_8 a0_9 l0_10 a1_0 a1_1 a1_2 a1_3 a1_4 a1_5 a1_6 a1_7 l1_8 a1_9 l1_10) else (vinculumref28_Equal.j0 k true a0_0 a0_1 a0_2 a0_3 a0_4 a0_5 a0_6 a0_7 l0_8 a0_9 l0_10 a1_0 a1_1 a1_2 a1_3 a1_4 a1_5 a1_6 a1_7 l1_8 a1_9 l1_10))) else (vinculumref28_Equal.j0 k true a0_0 a0_1 a0_2 a0_3 a0_4 a0_5 a0_6 a0_7 l0_8 a0_9 l0_10 a1_0 a1_1 a1_2 a1_3 a1_4 a1_5 a1_6 a1_7 l1_8 a1_9 l1_10)) else (vinculumref28_Equal.j0 k true a0_0 a0_1 a0_2 a0_3 a0_4 a0_5 a0_6 a0_7 l0_8 a0_9 l0_10 a1_0 a1_1 a1_2 a1_3 a1_4 a1_5 a1_6 a1_7 l1_8 a1_9 l1_10)) else (vinculumref28_Equal.j0 k true a0_0 a0_1 a0_2 a0_3 a0_4 a0_5 a0_6 a0_7 l0_8 a0_9 l0_10 a1_0 a1_1 a1_2 a1_3 a1_4 a1_5 a1_6 a1_7 l1_8 a1_9 l1_10)) else (vinculumref28_Equal.j0 k true a0_0 a0_1 a0_2 a0_3 a0_4 a0_5 a0_6 a0_7 l0_8 a0_9 l0_10 a1_0 a1_1 a1_2 a1_3 a1_4 a1_5 a1_6 a1_7 l1_8 a1_9 l1_10)) else (vinculumref28_Equal.j0 k true a0_0 a0_1 a0_2 a0_3 a0_4 a0_5 a0_6 a0_7 l0_8 a0_9 l0_10 a1_0 a1_1 a1_2 a1_3 a1_4 a1_5 a1_6 a1_7 l1_8 a1_9 l1_10)) else (vinculumref28_Equal.j0 k true a0_0 a0_1 a0_2 a0_3 a0_4 a0_5 a0_6 a0_7 l0_8 a0_9 l0_10 a1_0 a1_1 a1_2 a1_3 a1_4 a1_5 a1_6 a1_7 l1_8 a1_9 l1_10)) else (vinculumref28_Equal.j0 k true a0_0 a0_1 a0_2 a0_3 a0_4 a0_5 a0_6 a0_7 l0_8 a0_9 l0_10 a1_0 a1_1 a1_2 a1_3 a1_4 a1_5 a1_6 a1_7 l1_8 a1_9 l1_10)) else (vinculumref28_Equal.j0 k true a0_0 a0_1 a0_2 a0_3 a0_4 a0_5 a0_6 a0_7 l0_8 a0_9 l0_10 a1_0 a1_1 a1_2 a1_3 a1_4 a1_5 a1_6 a1_7 l1_8 a1_9 l1_10)) else (vinculumref28_Equal.j0 k true a0_0 a0_1 a0_2 a0_3 a0_4 a0_5 a0_6 a0_7 l0_8 a0_9 l0_10 a1_0 a1_1 a1_2 a1_3 a1_4 a1_5 a1_6 a1_7 l1_8 a1_9 l1_10)) = some r := h
  clear h
  have HC3 := Aside0.mk H
  clear H
  go_enter Try.func17, Try.ntmps17
  go_upto_region 1 with (first | ((with_reducible refine gate_dst (N := 2) rfl ?_); (try (refine gate_guard (by rfl) ?_; dsimp only)); refine box_event ?hg (N := 2) ?hd (cs := #[.int .i64 a0_0, .string a0_1, .int .i64 a0_2, .int .i64 a0_3, .int .i64 a0_4, .int .i64 a0_5, .int .i64 a0_6, .int .i64 a0_7, .slice A0_8 l0_8.length c0_8, .int .i64 a0_9, .slice A0_10 l0_10.length c0_10]) (t := 28) ?hr ?_; (case hd => rfl); (case hg => rfl); (case hr => first | (go_simp; done) | (go_simp; rfl)); intro gb180 hg w4 hbox hb; have n0_ := Aside0.mk (below_step (by repeat (first | (with_reducible first | exact HB.out | apply below_alloc | apply pw_below_drewN | apply below_drew1) | exact HB.out)) hb); have n1_ := Aside0.mk (hbox); have n2_ := Aside0.mk ((by rw [hg]; exact (below_size (by repeat (first | (with_reducible first | exact HB.out | apply below_alloc | apply pw_below_drewN | apply below_drew1) | exact HB.out))) : w.heap.size ≤ gb180)); have n3_ := Aside0.mk ((by rw [hg]; exact (below_size (by repeat (first | (with_reducible first | exact HB.out | apply below_alloc | apply pw_below_drewN | apply below_drew1) | exact HB.out))) : w.heap.size ≤ gb180)); clear HB; have HB := n0_; have BK180 := n1_; have GW180 := n2_; have GE180 := n3_; clear n0_ n1_ n2_ n3_; clear hb hbox hg) | ((with_reducible refine gate_dst (N := 3) rfl ?_); (try (refine gate_guard (by rfl) ?_; dsimp only)); refine box_event ?hg (N := 3) ?hd (cs := #[.int .i64 a1_0, .string a1_1, .int .i64 a1_2, .int .i64 a1_3, .int .i64 a1_4, .int .i64 a1_5, .int .i64 a1_6, .int .i64 a1_7, .slice A1_8 l1_8.length c1_8, .int .i64 a1_9, .slice A1_10 l1_10.length c1_10]) (t := 28) ?hr ?_; (case hd => rfl); (case hg => rfl); (case hr => first | (go_simp; done) | (go_simp; rfl)); intro gb181 hg w5 hbox hb; have n0_ := Aside0.mk (blk_below (g := gb180) (o := .cells #[.int .i64 a0_0, .string a0_1, .int .i64 a0_2, .int .i64 a0_3, .int .i64 a0_4, .int .i64 a0_5, .int .i64 a0_6, .int .i64 a0_7, .slice A0_8 l0_8.length c0_8, .int .i64 a0_9, .slice A0_10 l0_10.length c0_10] 28 (0, 0)) (by (with_reducible repeat (first | refine blk_drewN ?_ _ | refine blk_drew ?_ | refine blk_alloc ?_ _)); exact BK180.out) hb); have n1_ := Aside0.mk (below_step (by repeat (first | (with_reducible first | exact HB.out | apply below_alloc | apply pw_below_drewN | apply below_drew1 | refine below_set ?_ GE180.out) | exact HB.out)) hb); have n2_ := Aside0.mk (hbox); have n3_ := Aside0.mk ((by rw [hg]; exact (below_size (by repeat (first | (with_reducible first | exact HB.out | apply below_alloc | apply pw_below_drewN | apply below_drew1 | refine below_set ?_ GE180.out) | exact HB.out))) : w.heap.size ≤ gb181)); have n4_ := Aside0.mk ((by rw [hg]; exact (below_size (by repeat (first | (with_reducible first | exact HB.out | apply below_alloc | apply pw_below_drewN | apply below_drew1 | refine below_set ?_ GE180.out) | exact HB.out))) : w.heap.size ≤ gb181)); have n5_ := Aside0.mk ((by rw [hg]; exact Nat.ne_of_lt (blk_lt (g := gb180) (o := .cells #[.int .i64 a0_0, .string a0_1, .int .i64 a0_2, .int .i64 a0_3, .int .i64 a0_4, .int .i64 a0_5, .int .i64 a0_6, .int .i64 a0_7, .slice A0_8 l0_8.length c0_8, .int .i64 a0_9, .slice A0_10 l0_10.length c0_10] 28 (0, 0)) (by (with_reducible repeat (first | refine blk_drewN ?_ _ | refine blk_drew ?_ | refine blk_alloc ?_ _)); exact BK180.out)) : gb180 ≠ gb181)); have n6_ := Aside0.mk ((by rw [hg]; exact Nat.ne_of_gt (blk_lt (g := gb180) (o := .cells #[.int .i64 a0_0, .string a0_1, .int .i64 a0_2, .int .i64 a0_3, .int .i64 a0_4, .int .i64 a0_5, .int .i64 a0_6, .int .i64 a0_7, .slice A0_8 l0_8.length c0_8, .int .i64 a0_9, .slice A0_10 l0_10.length c0_10] 28 (0, 0)) (by (with_reducible repeat (first | refine blk_drewN ?_ _ | refine blk_drew ?_ | refine blk_alloc ?_ _)); exact BK180.out)) : gb181 ≠ gb180)); clear BK180; clear HB; have BK180 := n0_; have HB := n1_; have BK181 := n2_; have GW181 := n3_; have GE181 := n4_; have NB180_181 := n5_; have NB181_180 := n6_; clear n0_ n1_ n2_ n3_ n4_ n5_ n6_; clear hb hbox hg))
  (try simp only [Act.put, List.setIfInBounds_toArray, List.set_cons_zero, List.set_cons_succ])
  go_cut [83] (fun v83 wc => ∃ (kq : Nat) (x83_2 : Bool), v83 = .bool x83_2 ∧ Aside0 (vinculumref28_Equal.j0 kq x83_2 a0_0 a0_1 a0_2 a0_3 a0_4 a0_5 a0_6 a0_7 l0_8 a0_9 l0_10 a1_0 a1_1 a1_2 a1_3 a1_4 a1_5 a1_6 a1_7 l1_8 a1_9 l1_10 = some r) ∧ Aside0 (kq ≤ k) ∧ Aside0 (wc.heap[gb180]? = some (.cells #[.int .i64 a0_0, .string a0_1, .int .i64 a0_2, .int .i64 a0_3, .int .i64 a0_4, .int .i64 a0_5, .int .i64 a0_6, .int .i64 a0_7, (.slice A0_8 l0_8.length c0_8), .int .i64 a0_9, (.slice A0_10 l0_10.length c0_10)] 28 (0, 0))) ∧ Aside0 (wc.heap[gb181]? = some (.cells #[.int .i64 a1_0, .string a1_1, .int .i64 a1_2, .int .i64 a1_3, .int .i64 a1_4, .int .i64 a1_5, .int .i64 a1_6, .int .i64 a1_7, (.slice A1_8 l1_8.length c1_8), .int .i64 a1_9, (.slice A1_10 l1_10.length c1_10)] 28 (0, 0))) ∧ Aside0 (Below w.heap.size w wc))
  case first =>
    have H := HC3.out
    clear HC3
    by_cases c6 : a0_0 = a1_0
    · rw [if_pos c6] at H
      have c6b0 : (a0_0 == a1_0) = true := beq_iff_eq.mpr c6
      have c6b1 : (a0_0 != a1_0) = false := bne_eq_false_iff_eq.mpr c6
      clear c6
      (first | rw [c6b0] | (simp only [i64_w, i32_w]; rw [c6b0]) | skip)
      by_cases c7 : a0_1.toList = a1_1.toList
      · rw [if_pos c7] at H
        have c7b0 : (a0_1.toList == a1_1.toList) = true := beq_iff_eq.mpr c7
        have c7b1 : (a0_1.toList != a1_1.toList) = false := bne_eq_false_iff_eq.mpr c7
        clear c7
        by_cases c8 : a0_2 = a1_2
        · rw [if_pos c8] at H
          have c8b0 : (a0_2 == a1_2) = true := beq_iff_eq.mpr c8
          have c8b1 : (a0_2 != a1_2) = false := bne_eq_false_iff_eq.mpr c8
          clear c8
          by_cases c9 : a0_3 = a1_3
          · rw [if_pos c9] at H
            have c9b0 : (a0_3 == a1_3) = true := beq_iff_eq.mpr c9
            have c9b1 : (a0_3 != a1_3) = false := bne_eq_false_iff_eq.mpr c9
            clear c9
            by_cases c10 : a0_4 = a1_4
            · rw [if_pos c10] at H
              have c10b0 : (a0_4 == a1_4) = true := beq_iff_eq.mpr c10
              have c10b1 : (a0_4 != a1_4) = false := bne_eq_false_iff_eq.mpr c10
              clear c10
              by_cases c11 : a0_5 = a1_5
              · rw [if_pos c11] at H
                have c11b0 : (a0_5 == a1_5) = true := beq_iff_eq.mpr c11
                have c11b1 : (a0_5 != a1_5) = false := bne_eq_false_iff_eq.mpr c11
                clear c11
                by_cases c12 : a0_6 = a1_6
                · rw [if_pos c12] at H
                  have c12b0 : (a0_6 == a1_6) = true := beq_iff_eq.mpr c12
                  have c12b1 : (a0_6 != a1_6) = false := bne_eq_false_iff_eq.mpr c12
                  clear c12
                  by_cases c13 : a0_7 = a1_7
                  · rw [if_pos c13] at H
                    have c13b0 : (a0_7 == a1_7) = true := beq_iff_eq.mpr c13
                    have c13b1 : (a0_7 != a1_7) = false := bne_eq_false_iff_eq.mpr c13
                    clear c13
                    by_cases c14 : a0_9 = a1_9
                    · rw [if_pos c14] at H
                      have c14b0 : (a0_9 == a1_9) = true := beq_iff_eq.mpr c14
                      have c14b1 : (a0_9 != a1_9) = false := bne_eq_false_iff_eq.mpr c14
                      clear c14
                      replace H := Option.bind_eq_some_iff.mp H
                      obtain ⟨t182, A150, H⟩ := H
                      replace H : (if t182 = true then (vinculumref28_Equal.j0 k ((l0_8.length : Int) != (l1_8.length : Int)) a0_0 a0_1 a0_2 a0_3 a0_4 a0_5 a0_6 a0_7 l0_8 a0_9 l0_10 a1_0 a1_1 a1_2 a1_3 a1_4 a1_5 a1_6 a1_7 l1_8 a1_9 l1_10) else (vinculumref28_Equal.j0 k true a0_0 a0_1 a0_2 a0_3 a0_4 a0_5 a0_6 a0_7 l0_8 a0_9 l0_10 a1_0 a1_1 a1_2 a1_3 a1_4 a1_5 a1_6 a1_7 l1_8 a1_9 l1_10)) = some r := H
                      have A15 := Aside0.mk A150
                      clear A150
                      by_cases c16 : t182 = true
                      · subst c16
                        have H1 : (vinculumref28_Equal.j0 k ((l0_8.length : Int) != (l1_8.length : Int)) a0_0 a0_1 a0_2 a0_3 a0_4 a0_5 a0_6 a0_7 l0_8 a0_9 l0_10 a1_0 a1_1 a1_2 a1_3 a1_4 a1_5 a1_6 a1_7 l1_8 a1_9 l1_10) = some r := by rw [if_pos rfl] at H; exact H
                        clear H
                        have H := H1
                        clear H1
                        have H' := Aside0.mk H
                        clear H
                        have hnb17 := NB180_181.out
                        have hnc17 := NB181_180.out
                        have hcz18_0 : w5.cell? ⟨gb180, 0, none⟩ = some (.int .i64 a0_0) := (blk_cell BK180.out 0).trans rfl
                        have hcz18_1 : w5.cell? ⟨gb180, 1, none⟩ = some (.string a0_1) := (blk_cell BK180.out 1).trans rfl
                        have hcz18_2 : w5.cell? ⟨gb180, 2, none⟩ = some (.int .i64 a0_2) := (blk_cell BK180.out 2).trans rfl
                        have hcz18_3 : w5.cell? ⟨gb180, 3, none⟩ = some (.int .i64 a0_3) := (blk_cell BK180.out 3).trans rfl
                        have hcz18_4 : w5.cell? ⟨gb180, 4, none⟩ = some (.int .i64 a0_4) := (blk_cell BK180.out 4).trans rfl
                        have hcz18_5 : w5.cell? ⟨gb180, 5, none⟩ = some (.int .i64 a0_5) := (blk_cell BK180.out 5).trans rfl
                        have hcz18_6 : w5.cell? ⟨gb180, 6, none⟩ = some (.int .i64 a0_6) := (blk_cell BK180.out 6).trans rfl
                        have hcz18_7 : w5.cell? ⟨gb180, 7, none⟩ = some (.int .i64 a0_7) := (blk_cell BK180.out 7).trans rfl
                        have hcz18_8 : w5.cell? ⟨gb180, 8, none⟩ = some (.slice A0_8 l0_8.length c0_8) := (blk_cell BK180.out 8).trans rfl
                        have hcz18_9 : w5.cell? ⟨gb180, 9, none⟩ = some (.int .i64 a0_9) := (blk_cell BK180.out 9).trans rfl
                        have hcz18_10 : w5.cell? ⟨gb180, 10, none⟩ = some (.slice A0_10 l0_10.length c0_10) := (blk_cell BK180.out 10).trans rfl
                        have hfz18_0 := blk_frozen BK180.out 0
                        have hfz18_1 := blk_frozen BK180.out 1
                        have hfz18_2 := blk_frozen BK180.out 2
                        have hfz18_3 := blk_frozen BK180.out 3
                        have hfz18_4 := blk_frozen BK180.out 4
                        have hfz18_5 := blk_frozen BK180.out 5
                        have hfz18_6 := blk_frozen BK180.out 6
                        have hfz18_7 := blk_frozen BK180.out 7
                        have hfz18_8 := blk_frozen BK180.out 8
                        have hfz18_9 := blk_frozen BK180.out 9
                        have hfz18_10 := blk_frozen BK180.out 10
                        have hcz19_0 : w5.cell? ⟨gb181, 0, none⟩ = some (.int .i64 a1_0) := (blk_cell BK181.out 0).trans rfl
                        have hcz19_1 : w5.cell? ⟨gb181, 1, none⟩ = some (.string a1_1) := (blk_cell BK181.out 1).trans rfl
                        have hcz19_2 : w5.cell? ⟨gb181, 2, none⟩ = some (.int .i64 a1_2) := (blk_cell BK181.out 2).trans rfl
                        have hcz19_3 : w5.cell? ⟨gb181, 3, none⟩ = some (.int .i64 a1_3) := (blk_cell BK181.out 3).trans rfl
                        have hcz19_4 : w5.cell? ⟨gb181, 4, none⟩ = some (.int .i64 a1_4) := (blk_cell BK181.out 4).trans rfl
                        have hcz19_5 : w5.cell? ⟨gb181, 5, none⟩ = some (.int .i64 a1_5) := (blk_cell BK181.out 5).trans rfl
                        have hcz19_6 : w5.cell? ⟨gb181, 6, none⟩ = some (.int .i64 a1_6) := (blk_cell BK181.out 6).trans rfl
                        have hcz19_7 : w5.cell? ⟨gb181, 7, none⟩ = some (.int .i64 a1_7) := (blk_cell BK181.out 7).trans rfl
                        have hcz19_8 : w5.cell? ⟨gb181, 8, none⟩ = some (.slice A1_8 l1_8.length c1_8) := (blk_cell BK181.out 8).trans rfl
                        have hcz19_9 : w5.cell? ⟨gb181, 9, none⟩ = some (.int .i64 a1_9) := (blk_cell BK181.out 9).trans rfl
                        have hcz19_10 : w5.cell? ⟨gb181, 10, none⟩ = some (.slice A1_10 l1_10.length c1_10) := (blk_cell BK181.out 10).trans rfl
                        have hfz19_0 := blk_frozen BK181.out 0
                        have hfz19_1 := blk_frozen BK181.out 1
                        have hfz19_2 := blk_frozen BK181.out 2
                        have hfz19_3 := blk_frozen BK181.out 3
                        have hfz19_4 := blk_frozen BK181.out 4
                        have hfz19_5 := blk_frozen BK181.out 5
                        have hfz19_6 := blk_frozen BK181.out 6
                        have hfz19_7 := blk_frozen BK181.out 7
                        have hfz19_8 := blk_frozen BK181.out 8
                        have hfz19_9 := blk_frozen BK181.out 9
                        have hfz19_10 := blk_frozen BK181.out 10
                        go_wp2_with (first | (go_at_call 44; (with_reducible refine (vinculumref28_SameInts.calls k _ _ l0_10 _ _ l1_10 true _ ?side1 ?side2 ?side3 ?side4 A15.out).mono ?_); (case side1 => repeat (first | exact (Kd.C_below HR0_10.out HB.out) | (with_reducible refine Kd.C_alloc ?_ _) | (with_reducible refine Kd.C_drewN ?_ _) | (with_reducible refine Kd.C_drew ?_))); (case side2 => exact HC0_10.out); (case side3 => repeat (first | exact (Kd.C_below HR1_10.out HB.out) | (with_reducible refine Kd.C_alloc ?_ _) | (with_reducible refine Kd.C_drewN ?_ _) | (with_reducible refine Kd.C_drew ?_))); (case side4 => exact HC1_10.out); rintro e w' ⟨rfl, ⟨nd, rfl⟩⟩))
                        go_meet
                        case rel => exact ⟨_, (((l0_8.length : Int) != (l1_8.length : Int))), (by first | rfl | (simp; done) | (simp [*]; done)), H', ⟨by first | omega | exact Nat.le_refl _⟩, ⟨by (with_reducible repeat (first | refine blk_drewN ?_ _ | refine blk_drew ?_ | refine blk_alloc ?_ _)); exact BK180.out⟩, ⟨by (with_reducible repeat (first | refine blk_drewN ?_ _ | refine blk_drew ?_ | refine blk_alloc ?_ _)); exact BK181.out⟩, ⟨by repeat (first | (with_reducible first | exact HB.out | apply below_alloc | apply pw_below_drewN | apply below_drew1 | refine below_set ?_ GE180.out | refine below_set ?_ GE181.out) | exact HB.out)⟩⟩
                      · replace c16 := Bool.eq_false_iff.mpr c16
                        subst c16
                        have H1 : (vinculumref28_Equal.j0 k true a0_0 a0_1 a0_2 a0_3 a0_4 a0_5 a0_6 a0_7 l0_8 a0_9 l0_10 a1_0 a1_1 a1_2 a1_3 a1_4 a1_5 a1_6 a1_7 l1_8 a1_9 l1_10) = some r := by rw [if_neg (show ¬ (false = true) by decide)] at H; exact H
                        clear H
                        have H := H1
                        clear H1
                        have H' := Aside0.mk H
                        clear H
                        have hnb20 := NB180_181.out
                        have hnc20 := NB181_180.out
                        have hcz21_0 : w5.cell? ⟨gb180, 0, none⟩ = some (.int .i64 a0_0) := (blk_cell BK180.out 0).trans rfl
                        have hcz21_1 : w5.cell? ⟨gb180, 1, none⟩ = some (.string a0_1) := (blk_cell BK180.out 1).trans rfl
                        have hcz21_2 : w5.cell? ⟨gb180, 2, none⟩ = some (.int .i64 a0_2) := (blk_cell BK180.out 2).trans rfl
                        have hcz21_3 : w5.cell? ⟨gb180, 3, none⟩ = some (.int .i64 a0_3) := (blk_cell BK180.out 3).trans rfl
                        have hcz21_4 : w5.cell? ⟨gb180, 4, none⟩ = some (.int .i64 a0_4) := (blk_cell BK180.out 4).trans rfl
                        have hcz21_5 : w5.cell? ⟨gb180, 5, none⟩ = some (.int .i64 a0_5) := (blk_cell BK180.out 5).trans rfl
                        have hcz21_6 : w5.cell? ⟨gb180, 6, none⟩ = some (.int .i64 a0_6) := (blk_cell BK180.out 6).trans rfl
                        have hcz21_7 : w5.cell? ⟨gb180, 7, none⟩ = some (.int .i64 a0_7) := (blk_cell BK180.out 7).trans rfl
                        have hcz21_8 : w5.cell? ⟨gb180, 8, none⟩ = some (.slice A0_8 l0_8.length c0_8) := (blk_cell BK180.out 8).trans rfl
                        have hcz21_9 : w5.cell? ⟨gb180, 9, none⟩ = some (.int .i64 a0_9) := (blk_cell BK180.out 9).trans rfl
                        have hcz21_10 : w5.cell? ⟨gb180, 10, none⟩ = some (.slice A0_10 l0_10.length c0_10) := (blk_cell BK180.out 10).trans rfl
                        have hfz21_0 := blk_frozen BK180.out 0
                        have hfz21_1 := blk_frozen BK180.out 1
                        have hfz21_2 := blk_frozen BK180.out 2
                        have hfz21_3 := blk_frozen BK180.out 3
                        have hfz21_4 := blk_frozen BK180.out 4
                        have hfz21_5 := blk_frozen BK180.out 5
                        have hfz21_6 := blk_frozen BK180.out 6
                        have hfz21_7 := blk_frozen BK180.out 7
                        have hfz21_8 := blk_frozen BK180.out 8
                        have hfz21_9 := blk_frozen BK180.out 9
                        have hfz21_10 := blk_frozen BK180.out 10
                        have hcz22_0 : w5.cell? ⟨gb181, 0, none⟩ = some (.int .i64 a1_0) := (blk_cell BK181.out 0).trans rfl
                        have hcz22_1 : w5.cell? ⟨gb181, 1, none⟩ = some (.string a1_1) := (blk_cell BK181.out 1).trans rfl
                        have hcz22_2 : w5.cell? ⟨gb181, 2, none⟩ = some (.int .i64 a1_2) := (blk_cell BK181.out 2).trans rfl
                        have hcz22_3 : w5.cell? ⟨gb181, 3, none⟩ = some (.int .i64 a1_3) := (blk_cell BK181.out 3).trans rfl
                        have hcz22_4 : w5.cell? ⟨gb181, 4, none⟩ = some (.int .i64 a1_4) := (blk_cell BK181.out 4).trans rfl
                        have hcz22_5 : w5.cell? ⟨gb181, 5, none⟩ = some (.int .i64 a1_5) := (blk_cell BK181.out 5).trans rfl
                        have hcz22_6 : w5.cell? ⟨gb181, 6, none⟩ = some (.int .i64 a1_6) := (blk_cell BK181.out 6).trans rfl
                        have hcz22_7 : w5.cell? ⟨gb181, 7, none⟩ = some (.int .i64 a1_7) := (blk_cell BK181.out 7).trans rfl
                        have hcz22_8 : w5.cell? ⟨gb181, 8, none⟩ = some (.slice A1_8 l1_8.length c1_8) := (blk_cell BK181.out 8).trans rfl
                        have hcz22_9 : w5.cell? ⟨gb181, 9, none⟩ = some (.int .i64 a1_9) := (blk_cell BK181.out 9).trans rfl
                        have hcz22_10 : w5.cell? ⟨gb181, 10, none⟩ = some (.slice A1_10 l1_10.length c1_10) := (blk_cell BK181.out 10).trans rfl
                        have hfz22_0 := blk_frozen BK181.out 0
                        have hfz22_1 := blk_frozen BK181.out 1
                        have hfz22_2 := blk_frozen BK181.out 2
                        have hfz22_3 := blk_frozen BK181.out 3
                        have hfz22_4 := blk_frozen BK181.out 4
                        have hfz22_5 := blk_frozen BK181.out 5
                        have hfz22_6 := blk_frozen BK181.out 6
                        have hfz22_7 := blk_frozen BK181.out 7
                        have hfz22_8 := blk_frozen BK181.out 8
                        have hfz22_9 := blk_frozen BK181.out 9
                        have hfz22_10 := blk_frozen BK181.out 10
                        go_wp2_with (first | (go_at_call 44; (with_reducible refine (vinculumref28_SameInts.calls k _ _ l0_10 _ _ l1_10 false _ ?side1 ?side2 ?side3 ?side4 A15.out).mono ?_); (case side1 => repeat (first | exact (Kd.C_below HR0_10.out HB.out) | (with_reducible refine Kd.C_alloc ?_ _) | (with_reducible refine Kd.C_drewN ?_ _) | (with_reducible refine Kd.C_drew ?_))); (case side2 => exact HC0_10.out); (case side3 => repeat (first | exact (Kd.C_below HR1_10.out HB.out) | (with_reducible refine Kd.C_alloc ?_ _) | (with_reducible refine Kd.C_drewN ?_ _) | (with_reducible refine Kd.C_drew ?_))); (case side4 => exact HC1_10.out); rintro e w' ⟨rfl, ⟨nd, rfl⟩⟩))
                        go_meet
                        case rel => exact ⟨_, (true), (by first | rfl | (simp; done) | (simp [*]; done)), H', ⟨by first | omega | exact Nat.le_refl _⟩, ⟨by (with_reducible repeat (first | refine blk_drewN ?_ _ | refine blk_drew ?_ | refine blk_alloc ?_ _)); exact BK180.out⟩, ⟨by (with_reducible repeat (first | refine blk_drewN ?_ _ | refine blk_drew ?_ | refine blk_alloc ?_ _)); exact BK181.out⟩, ⟨by repeat (first | (with_reducible first | exact HB.out | apply below_alloc | apply pw_below_drewN | apply below_drew1 | refine below_set ?_ GE180.out | refine below_set ?_ GE181.out) | exact HB.out)⟩⟩
                    · rw [if_neg c14] at H
                      have c14b0 : (a0_9 == a1_9) = false := beq_eq_false_iff_ne.mpr c14
                      have c14b1 : (a0_9 != a1_9) = true := bne_iff_ne.mpr c14
                      have H' := Aside0.mk H
                      clear H
                      have hnb23 := NB180_181.out
                      have hnc23 := NB181_180.out
                      have hcz24_0 : w5.cell? ⟨gb180, 0, none⟩ = some (.int .i64 a0_0) := (blk_cell BK180.out 0).trans rfl
                      have hcz24_1 : w5.cell? ⟨gb180, 1, none⟩ = some (.string a0_1) := (blk_cell BK180.out 1).trans rfl
                      have hcz24_2 : w5.cell? ⟨gb180, 2, none⟩ = some (.int .i64 a0_2) := (blk_cell BK180.out 2).trans rfl
                      have hcz24_3 : w5.cell? ⟨gb180, 3, none⟩ = some (.int .i64 a0_3) := (blk_cell BK180.out 3).trans rfl
                      have hcz24_4 : w5.cell? ⟨gb180, 4, none⟩ = some (.int .i64 a0_4) := (blk_cell BK180.out 4).trans rfl
                      have hcz24_5 : w5.cell? ⟨gb180, 5, none⟩ = some (.int .i64 a0_5) := (blk_cell BK180.out 5).trans rfl
                      have hcz24_6 : w5.cell? ⟨gb180, 6, none⟩ = some (.int .i64 a0_6) := (blk_cell BK180.out 6).trans rfl
                      have hcz24_7 : w5.cell? ⟨gb180, 7, none⟩ = some (.int .i64 a0_7) := (blk_cell BK180.out 7).trans rfl
                      have hcz24_8 : w5.cell? ⟨gb180, 8, none⟩ = some (.slice A0_8 l0_8.length c0_8) := (blk_cell BK180.out 8).trans rfl
                      have hcz24_9 : w5.cell? ⟨gb180, 9, none⟩ = some (.int .i64 a0_9) := (blk_cell BK180.out 9).trans rfl
                      have hcz24_10 : w5.cell? ⟨gb180, 10, none⟩ = some (.slice A0_10 l0_10.length c0_10) := (blk_cell BK180.out 10).trans rfl
                      have hfz24_0 := blk_frozen BK180.out 0
                      have hfz24_1 := blk_frozen BK180.out 1
                      have hfz24_2 := blk_frozen BK180.out 2
                      have hfz24_3 := blk_frozen BK180.out 3
                      have hfz24_4 := blk_frozen BK180.out 4
                      have hfz24_5 := blk_frozen BK180.out 5
                      have hfz24_6 := blk_frozen BK180.out 6
                      have hfz24_7 := blk_frozen BK180.out 7
                      have hfz24_8 := blk_frozen BK180.out 8
                      have hfz24_9 := blk_frozen BK180.out 9
                      have hfz24_10 := blk_frozen BK180.out 10
                      have hcz25_0 : w5.cell? ⟨gb181, 0, none⟩ = some (.int .i64 a1_0) := (blk_cell BK181.out 0).trans rfl
                      have hcz25_1 : w5.cell? ⟨gb181, 1, none⟩ = some (.string a1_1) := (blk_cell BK181.out 1).trans rfl
                      have hcz25_2 : w5.cell? ⟨gb181, 2, none⟩ = some (.int .i64 a1_2) := (blk_cell BK181.out 2).trans rfl
                      have hcz25_3 : w5.cell? ⟨gb181, 3, none⟩ = some (.int .i64 a1_3) := (blk_cell BK181.out 3).trans rfl
                      have hcz25_4 : w5.cell? ⟨gb181, 4, none⟩ = some (.int .i64 a1_4) := (blk_cell BK181.out 4).trans rfl
                      have hcz25_5 : w5.cell? ⟨gb181, 5, none⟩ = some (.int .i64 a1_5) := (blk_cell BK181.out 5).trans rfl
                      have hcz25_6 : w5.cell? ⟨gb181, 6, none⟩ = some (.int .i64 a1_6) := (blk_cell BK181.out 6).trans rfl
                      have hcz25_7 : w5.cell? ⟨gb181, 7, none⟩ = some (.int .i64 a1_7) := (blk_cell BK181.out 7).trans rfl
                      have hcz25_8 : w5.cell? ⟨gb181, 8, none⟩ = some (.slice A1_8 l1_8.length c1_8) := (blk_cell BK181.out 8).trans rfl
                      have hcz25_9 : w5.cell? ⟨gb181, 9, none⟩ = some (.int .i64 a1_9) := (blk_cell BK181.out 9).trans rfl
                      have hcz25_10 : w5.cell? ⟨gb181, 10, none⟩ = some (.slice A1_10 l1_10.length c1_10) := (blk_cell BK181.out 10).trans rfl
                      have hfz25_0 := blk_frozen BK181.out 0
                      have hfz25_1 := blk_frozen BK181.out 1
                      have hfz25_2 := blk_frozen BK181.out 2
                      have hfz25_3 := blk_frozen BK181.out 3
                      have hfz25_4 := blk_frozen BK181.out 4
                      have hfz25_5 := blk_frozen BK181.out 5
                      have hfz25_6 := blk_frozen BK181.out 6
                      have hfz25_7 := blk_frozen BK181.out 7
                      have hfz25_8 := blk_frozen BK181.out 8
                      have hfz25_9 := blk_frozen BK181.out 9
                      have hfz25_10 := blk_frozen BK181.out 10
                      go_wp2
                      go_meet
                      case rel => exact ⟨_, (true), (by first | rfl | (simp; done) | (simp [*]; done)), H', ⟨by first | omega | exact Nat.le_refl _⟩, ⟨by (with_reducible repeat (first | refine blk_drewN ?_ _ | refine blk_drew ?_ | refine blk_alloc ?_ _)); exact BK180.out⟩, ⟨by (with_reducible repeat (first | refine blk_drewN ?_ _ | refine blk_drew ?_ | refine blk_alloc ?_ _)); exact BK181.out⟩, ⟨by repeat (first | (with_reducible first | exact HB.out | apply below_alloc | apply pw_below_drewN | apply below_drew1 | refine below_set ?_ GE180.out | refine below_set ?_ GE181.out) | exact HB.out)⟩⟩
                  · rw [if_neg c13] at H
                    have c13b0 : (a0_7 == a1_7) = false := beq_eq_false_iff_ne.mpr c13
                    have c13b1 : (a0_7 != a1_7) = true := bne_iff_ne.mpr c13
                    have H' := Aside0.mk H
                    clear H
                    have hnb26 := NB180_181.out
                    have hnc26 := NB181_180.out
                    have hcz27_0 : w5.cell? ⟨gb180, 0, none⟩ = some (.int .i64 a0_0) := (blk_cell BK180.out 0).trans rfl
                    have hcz27_1 : w5.cell? ⟨gb180, 1, none⟩ = some (.string a0_1) := (blk_cell BK180.out 1).trans rfl
                    have hcz27_2 : w5.cell? ⟨gb180, 2, none⟩ = some (.int .i64 a0_2) := (blk_cell BK180.out 2).trans rfl
                    have hcz27_3 : w5.cell? ⟨gb180, 3, none⟩ = some (.int .i64 a0_3) := (blk_cell BK180.out 3).trans rfl
                    have hcz27_4 : w5.cell? ⟨gb180, 4, none⟩ = some (.int .i64 a0_4) := (blk_cell BK180.out 4).trans rfl
                    have hcz27_5 : w5.cell? ⟨gb180, 5, none⟩ = some (.int .i64 a0_5) := (blk_cell BK180.out 5).trans rfl
                    have hcz27_6 : w5.cell? ⟨gb180, 6, none⟩ = some (.int .i64 a0_6) := (blk_cell BK180.out 6).trans rfl
                    have hcz27_7 : w5.cell? ⟨gb180, 7, none⟩ = some (.int .i64 a0_7) := (blk_cell BK180.out 7).trans rfl
                    have hcz27_8 : w5.cell? ⟨gb180, 8, none⟩ = some (.slice A0_8 l0_8.length c0_8) := (blk_cell BK180.out 8).trans rfl
                    have hcz27_9 : w5.cell? ⟨gb180, 9, none⟩ = some (.int .i64 a0_9) := (blk_cell BK180.out 9).trans rfl
                    have hcz27_10 : w5.cell? ⟨gb180, 10, none⟩ = some (.slice A0_10 l0_10.length c0_10) := (blk_cell BK180.out 10).trans rfl
                    have hfz27_0 := blk_frozen BK180.out 0
                    have hfz27_1 := blk_frozen BK180.out 1
                    have hfz27_2 := blk_frozen BK180.out 2
                    have hfz27_3 := blk_frozen BK180.out 3
                    have hfz27_4 := blk_frozen BK180.out 4
                    have hfz27_5 := blk_frozen BK180.out 5
                    have hfz27_6 := blk_frozen BK180.out 6
                    have hfz27_7 := blk_frozen BK180.out 7
                    have hfz27_8 := blk_frozen BK180.out 8
                    have hfz27_9 := blk_frozen BK180.out 9
                    have hfz27_10 := blk_frozen BK180.out 10
                    have hcz28_0 : w5.cell? ⟨gb181, 0, none⟩ = some (.int .i64 a1_0) := (blk_cell BK181.out 0).trans rfl
                    have hcz28_1 : w5.cell? ⟨gb181, 1, none⟩ = some (.string a1_1) := (blk_cell BK181.out 1).trans rfl
                    have hcz28_2 : w5.cell? ⟨gb181, 2, none⟩ = some (.int .i64 a1_2) := (blk_cell BK181.out 2).trans rfl
                    have hcz28_3 : w5.cell? ⟨gb181, 3, none⟩ = some (.int .i64 a1_3) := (blk_cell BK181.out 3).trans rfl
                    have hcz28_4 : w5.cell? ⟨gb181, 4, none⟩ = some (.int .i64 a1_4) := (blk_cell BK181.out 4).trans rfl
                    have hcz28_5 : w5.cell? ⟨gb181, 5, none⟩ = some (.int .i64 a1_5) := (blk_cell BK181.out 5).trans rfl
                    have hcz28_6 : w5.cell? ⟨gb181, 6, none⟩ = some (.int .i64 a1_6) := (blk_cell BK181.out 6).trans rfl
                    have hcz28_7 : w5.cell? ⟨gb181, 7, none⟩ = some (.int .i64 a1_7) := (blk_cell BK181.out 7).trans rfl
                    have hcz28_8 : w5.cell? ⟨gb181, 8, none⟩ = some (.slice A1_8 l1_8.length c1_8) := (blk_cell BK181.out 8).trans rfl
                    have hcz28_9 : w5.cell? ⟨gb181, 9, none⟩ = some (.int .i64 a1_9) := (blk_cell BK181.out 9).trans rfl
                    have hcz28_10 : w5.cell? ⟨gb181, 10, none⟩ = some (.slice A1_10 l1_10.length c1_10) := (blk_cell BK181.out 10).trans rfl
                    have hfz28_0 := blk_frozen BK181.out 0
                    have hfz28_1 := blk_frozen BK181.out 1
                    have hfz28_2 := blk_frozen BK181.out 2
                    have hfz28_3 := blk_frozen BK181.out 3
                    have hfz28_4 := blk_frozen BK181.out 4
                    have hfz28_5 := blk_frozen BK181.out 5
                    have hfz28_6 := blk_frozen BK181.out 6
                    have hfz28_7 := blk_frozen BK181.out 7
                    have hfz28_8 := blk_frozen BK181.out 8
                    have hfz28_9 := blk_frozen BK181.out 9
                    have hfz28_10 := blk_frozen BK181.out 10
                    go_wp2
                    go_meet
                    case rel => exact ⟨_, (true), (by first | rfl | (simp; done) | (simp [*]; done)), H', ⟨by first | omega | exact Nat.le_refl _⟩, ⟨by (with_reducible repeat (first | refine blk_drewN ?_ _ | refine blk_drew ?_ | refine blk_alloc ?_ _)); exact BK180.out⟩, ⟨by (with_reducible repeat (first | refine blk_drewN ?_ _ | refine blk_drew ?_ | refine blk_alloc ?_ _)); exact BK181.out⟩, ⟨by repeat (first | (with_reducible first | exact HB.out | apply below_alloc | apply pw_below_drewN | apply below_drew1 | refine below_set ?_ GE180.out | refine below_set ?_ GE181.out) | exact HB.out)⟩⟩
                · rw [if_neg c12] at H
                  have c12b0 : (a0_6 == a1_6) = false := beq_eq_false_iff_ne.mpr c12
                  have c12b1 : (a0_6 != a1_6) = true := bne_iff_ne.mpr c12
                  have H' := Aside0.mk H
                  clear H
                  have hnb29 := NB180_181.out
                  have hnc29 := NB181_180.out
                  have hcz30_0 : w5.cell? ⟨gb180, 0, none⟩ = some (.int .i64 a0_0) := (blk_cell BK180.out 0).trans rfl
                  have hcz30_1 : w5.cell? ⟨gb180, 1, none⟩ = some (.string a0_1) := (blk_cell BK180.out 1).trans rfl
                  have hcz30_2 : w5.cell? ⟨gb180, 2, none⟩ = some (.int .i64 a0_2) := (blk_cell BK180.out 2).trans rfl
                  have hcz30_3 : w5.cell? ⟨gb180, 3, none⟩ = some (.int .i64 a0_3) := (blk_cell BK180.out 3).trans rfl
                  have hcz30_4 : w5.cell? ⟨gb180, 4, none⟩ = some (.int .i64 a0_4) := (blk_cell BK180.out 4).trans rfl
                  have hcz30_5 : w5.cell? ⟨gb180, 5, none⟩ = some (.int .i64 a0_5) := (blk_cell BK180.out 5).trans rfl
                  have hcz30_6 : w5.cell? ⟨gb180, 6, none⟩ = some (.int .i64 a0_6) := (blk_cell BK180.out 6).trans rfl
                  have hcz30_7 : w5.cell? ⟨gb180, 7, none⟩ = some (.int .i64 a0_7) := (blk_cell BK180.out 7).trans rfl
                  have hcz30_8 : w5.cell? ⟨gb180, 8, none⟩ = some (.slice A0_8 l0_8.length c0_8) := (blk_cell BK180.out 8).trans rfl
                  have hcz30_9 : w5.cell? ⟨gb180, 9, none⟩ = some (.int .i64 a0_9) := (blk_cell BK180.out 9).trans rfl
                  have hcz30_10 : w5.cell? ⟨gb180, 10, none⟩ = some (.slice A0_10 l0_10.length c0_10) := (blk_cell BK180.out 10).trans rfl
                  have hfz30_0 := blk_frozen BK180.out 0
                  have hfz30_1 := blk_frozen BK180.out 1
                  have hfz30_2 := blk_frozen BK180.out 2
                  have hfz30_3 := blk_frozen BK180.out 3
                  have hfz30_4 := blk_frozen BK180.out 4
                  have hfz30_5 := blk_frozen BK180.out 5
                  have hfz30_6 := blk_frozen BK180.out 6
                  have hfz30_7 := blk_frozen BK180.out 7
                  have hfz30_8 := blk_frozen BK180.out 8
                  have hfz30_9 := blk_frozen BK180.out 9
                  have hfz30_10 := blk_frozen BK180.out 10
                  have hcz31_0 : w5.cell? ⟨gb181, 0, none⟩ = some (.int .i64 a1_0) := (blk_cell BK181.out 0).trans rfl
                  have hcz31_1 : w5.cell? ⟨gb181, 1, none⟩ = some (.string a1_1) := (blk_cell BK181.out 1).trans rfl
                  have hcz31_2 : w5.cell? ⟨gb181, 2, none⟩ = some (.int .i64 a1_2) := (blk_cell BK181.out 2).trans rfl
                  have hcz31_3 : w5.cell? ⟨gb181, 3, none⟩ = some (.int .i64 a1_3) := (blk_cell BK181.out 3).trans rfl
                  have hcz31_4 : w5.cell? ⟨gb181, 4, none⟩ = some (.int .i64 a1_4) := (blk_cell BK181.out 4).trans rfl
                  have hcz31_5 : w5.cell? ⟨gb181, 5, none⟩ = some (.int .i64 a1_5) := (blk_cell BK181.out 5).trans rfl
                  have hcz31_6 : w5.cell? ⟨gb181, 6, none⟩ = some (.int .i64 a1_6) := (blk_cell BK181.out 6).trans rfl
                  have hcz31_7 : w5.cell? ⟨gb181, 7, none⟩ = some (.int .i64 a1_7) := (blk_cell BK181.out 7).trans rfl
                  have hcz31_8 : w5.cell? ⟨gb181, 8, none⟩ = some (.slice A1_8 l1_8.length c1_8) := (blk_cell BK181.out 8).trans rfl
                  have hcz31_9 : w5.cell? ⟨gb181, 9, none⟩ = some (.int .i64 a1_9) := (blk_cell BK181.out 9).trans rfl
                  have hcz31_10 : w5.cell? ⟨gb181, 10, none⟩ = some (.slice A1_10 l1_10.length c1_10) := (blk_cell BK181.out 10).trans rfl
                  have hfz31_0 := blk_frozen BK181.out 0
                  have hfz31_1 := blk_frozen BK181.out 1
                  have hfz31_2 := blk_frozen BK181.out 2
                  have hfz31_3 := blk_frozen BK181.out 3
                  have hfz31_4 := blk_frozen BK181.out 4
                  have hfz31_5 := blk_frozen BK181.out 5
                  have hfz31_6 := blk_frozen BK181.out 6
                  have hfz31_7 := blk_frozen BK181.out 7
                  have hfz31_8 := blk_frozen BK181.out 8
                  have hfz31_9 := blk_frozen BK181.out 9
                  have hfz31_10 := blk_frozen BK181.out 10
                  go_wp2
                  go_meet
                  case rel => exact ⟨_, (true), (by first | rfl | (simp; done) | (simp [*]; done)), H', ⟨by first | omega | exact Nat.le_refl _⟩, ⟨by (with_reducible repeat (first | refine blk_drewN ?_ _ | refine blk_drew ?_ | refine blk_alloc ?_ _)); exact BK180.out⟩, ⟨by (with_reducible repeat (first | refine blk_drewN ?_ _ | refine blk_drew ?_ | refine blk_alloc ?_ _)); exact BK181.out⟩, ⟨by repeat (first | (with_reducible first | exact HB.out | apply below_alloc | apply pw_below_drewN | apply below_drew1 | refine below_set ?_ GE180.out | refine below_set ?_ GE181.out) | exact HB.out)⟩⟩
              · rw [if_neg c11] at H
                have c11b0 : (a0_5 == a1_5) = false := beq_eq_false_iff_ne.mpr c11
                have c11b1 : (a0_5 != a1_5) = true := bne_iff_ne.mpr c11
                have H' := Aside0.mk H
                clear H
                have hnb32 := NB180_181.out
                have hnc32 := NB181_180.out
                have hcz33_0 : w5.cell? ⟨gb180, 0, none⟩ = some (.int .i64 a0_0) := (blk_cell BK180.out 0).trans rfl
                have hcz33_1 : w5.cell? ⟨gb180, 1, none⟩ = some (.string a0_1) := (blk_cell BK180.out 1).trans rfl
                have hcz33_2 : w5.cell? ⟨gb180, 2, none⟩ = some (.int .i64 a0_2) := (blk_cell BK180.out 2).trans rfl
                have hcz33_3 : w5.cell? ⟨gb180, 3, none⟩ = some (.int .i64 a0_3) := (blk_cell BK180.out 3).trans rfl
                have hcz33_4 : w5.cell? ⟨gb180, 4, none⟩ = some (.int .i64 a0_4) := (blk_cell BK180.out 4).trans rfl
                have hcz33_5 : w5.cell? ⟨gb180, 5, none⟩ = some (.int .i64 a0_5) := (blk_cell BK180.out 5).trans rfl
                have hcz33_6 : w5.cell? ⟨gb180, 6, none⟩ = some (.int .i64 a0_6) := (blk_cell BK180.out 6).trans rfl
                have hcz33_7 : w5.cell? ⟨gb180, 7, none⟩ = some (.int .i64 a0_7) := (blk_cell BK180.out 7).trans rfl
                have hcz33_8 : w5.cell? ⟨gb180, 8, none⟩ = some (.slice A0_8 l0_8.length c0_8) := (blk_cell BK180.out 8).trans rfl
                have hcz33_9 : w5.cell? ⟨gb180, 9, none⟩ = some (.int .i64 a0_9) := (blk_cell BK180.out 9).trans rfl
                have hcz33_10 : w5.cell? ⟨gb180, 10, none⟩ = some (.slice A0_10 l0_10.length c0_10) := (blk_cell BK180.out 10).trans rfl
                have hfz33_0 := blk_frozen BK180.out 0
                have hfz33_1 := blk_frozen BK180.out 1
                have hfz33_2 := blk_frozen BK180.out 2
                have hfz33_3 := blk_frozen BK180.out 3
                have hfz33_4 := blk_frozen BK180.out 4
                have hfz33_5 := blk_frozen BK180.out 5
                have hfz33_6 := blk_frozen BK180.out 6
                have hfz33_7 := blk_frozen BK180.out 7
                have hfz33_8 := blk_frozen BK180.out 8
                have hfz33_9 := blk_frozen BK180.out 9
                have hfz33_10 := blk_frozen BK180.out 10
                have hcz34_0 : w5.cell? ⟨gb181, 0, none⟩ = some (.int .i64 a1_0) := (blk_cell BK181.out 0).trans rfl
                have hcz34_1 : w5.cell? ⟨gb181, 1, none⟩ = some (.string a1_1) := (blk_cell BK181.out 1).trans rfl
                have hcz34_2 : w5.cell? ⟨gb181, 2, none⟩ = some (.int .i64 a1_2) := (blk_cell BK181.out 2).trans rfl
                have hcz34_3 : w5.cell? ⟨gb181, 3, none⟩ = some (.int .i64 a1_3) := (blk_cell BK181.out 3).trans rfl
                have hcz34_4 : w5.cell? ⟨gb181, 4, none⟩ = some (.int .i64 a1_4) := (blk_cell BK181.out 4).trans rfl
                have hcz34_5 : w5.cell? ⟨gb181, 5, none⟩ = some (.int .i64 a1_5) := (blk_cell BK181.out 5).trans rfl
                have hcz34_6 : w5.cell? ⟨gb181, 6, none⟩ = some (.int .i64 a1_6) := (blk_cell BK181.out 6).trans rfl
                have hcz34_7 : w5.cell? ⟨gb181, 7, none⟩ = some (.int .i64 a1_7) := (blk_cell BK181.out 7).trans rfl
                have hcz34_8 : w5.cell? ⟨gb181, 8, none⟩ = some (.slice A1_8 l1_8.length c1_8) := (blk_cell BK181.out 8).trans rfl
                have hcz34_9 : w5.cell? ⟨gb181, 9, none⟩ = some (.int .i64 a1_9) := (blk_cell BK181.out 9).trans rfl
                have hcz34_10 : w5.cell? ⟨gb181, 10, none⟩ = some (.slice A1_10 l1_10.length c1_10) := (blk_cell BK181.out 10).trans rfl
                have hfz34_0 := blk_frozen BK181.out 0
                have hfz34_1 := blk_frozen BK181.out 1
                have hfz34_2 := blk_frozen BK181.out 2
                have hfz34_3 := blk_frozen BK181.out 3
                have hfz34_4 := blk_frozen BK181.out 4
                have hfz34_5 := blk_frozen BK181.out 5
                have hfz34_6 := blk_frozen BK181.out 6
                have hfz34_7 := blk_frozen BK181.out 7
                have hfz34_8 := blk_frozen BK181.out 8
                have hfz34_9 := blk_frozen BK181.out 9
                have hfz34_10 := blk_frozen BK181.out 10
                go_wp2
                go_meet
                case rel => exact ⟨_, (true), (by first | rfl | (simp; done) | (simp [*]; done)), H', ⟨by first | omega | exact Nat.le_refl _⟩, ⟨by (with_reducible repeat (first | refine blk_drewN ?_ _ | refine blk_drew ?_ | refine blk_alloc ?_ _)); exact BK180.out⟩, ⟨by (with_reducible repeat (first | refine blk_drewN ?_ _ | refine blk_drew ?_ | refine blk_alloc ?_ _)); exact BK181.out⟩, ⟨by repeat (first | (with_reducible first | exact HB.out | apply below_alloc | apply pw_below_drewN | apply below_drew1 | refine below_set ?_ GE180.out | refine below_set ?_ GE181.out) | exact HB.out)⟩⟩
            · rw [if_neg c10] at H
              have c10b0 : (a0_4 == a1_4) = false := beq_eq_false_iff_ne.mpr c10
              have c10b1 : (a0_4 != a1_4) = true := bne_iff_ne.mpr c10
              have H' := Aside0.mk H
              clear H
              have hnb35 := NB180_181.out
              have hnc35 := NB181_180.out
              have hcz36_0 : w5.cell? ⟨gb180, 0, none⟩ = some (.int .i64 a0_0) := (blk_cell BK180.out 0).trans rfl
              have hcz36_1 : w5.cell? ⟨gb180, 1, none⟩ = some (.string a0_1) := (blk_cell BK180.out 1).trans rfl
              have hcz36_2 : w5.cell? ⟨gb180, 2, none⟩ = some (.int .i64 a0_2) := (blk_cell BK180.out 2).trans rfl
              have hcz36_3 : w5.cell? ⟨gb180, 3, none⟩ = some (.int .i64 a0_3) := (blk_cell BK180.out 3).trans rfl
              have hcz36_4 : w5.cell? ⟨gb180, 4, none⟩ = some (.int .i64 a0_4) := (blk_cell BK180.out 4).trans rfl
              have hcz36_5 : w5.cell? ⟨gb180, 5, none⟩ = some (.int .i64 a0_5) := (blk_cell BK180.out 5).trans rfl
              have hcz36_6 : w5.cell? ⟨gb180, 6, none⟩ = some (.int .i64 a0_6) := (blk_cell BK180.out 6).trans rfl
              have hcz36_7 : w5.cell? ⟨gb180, 7, none⟩ = some (.int .i64 a0_7) := (blk_cell BK180.out 7).trans rfl
              have hcz36_8 : w5.cell? ⟨gb180, 8, none⟩ = some (.slice A0_8 l0_8.length c0_8) := (blk_cell BK180.out 8).trans rfl
              have hcz36_9 : w5.cell? ⟨gb180, 9, none⟩ = some (.int .i64 a0_9) := (blk_cell BK180.out 9).trans rfl
              have hcz36_10 : w5.cell? ⟨gb180, 10, none⟩ = some (.slice A0_10 l0_10.length c0_10) := (blk_cell BK180.out 10).trans rfl
              have hfz36_0 := blk_frozen BK180.out 0
              have hfz36_1 := blk_frozen BK180.out 1
              have hfz36_2 := blk_frozen BK180.out 2
              have hfz36_3 := blk_frozen BK180.out 3
              have hfz36_4 := blk_frozen BK180.out 4
              have hfz36_5 := blk_frozen BK180.out 5
              have hfz36_6 := blk_frozen BK180.out 6
              have hfz36_7 := blk_frozen BK180.out 7
              have hfz36_8 := blk_frozen BK180.out 8
              have hfz36_9 := blk_frozen BK180.out 9
              have hfz36_10 := blk_frozen BK180.out 10
              have hcz37_0 : w5.cell? ⟨gb181, 0, none⟩ = some (.int .i64 a1_0) := (blk_cell BK181.out 0).trans rfl
              have hcz37_1 : w5.cell? ⟨gb181, 1, none⟩ = some (.string a1_1) := (blk_cell BK181.out 1).trans rfl
              have hcz37_2 : w5.cell? ⟨gb181, 2, none⟩ = some (.int .i64 a1_2) := (blk_cell BK181.out 2).trans rfl
              have hcz37_3 : w5.cell? ⟨gb181, 3, none⟩ = some (.int .i64 a1_3) := (blk_cell BK181.out 3).trans rfl
              have hcz37_4 : w5.cell? ⟨gb181, 4, none⟩ = some (.int .i64 a1_4) := (blk_cell BK181.out 4).trans rfl
              have hcz37_5 : w5.cell? ⟨gb181, 5, none⟩ = some (.int .i64 a1_5) := (blk_cell BK181.out 5).trans rfl
              have hcz37_6 : w5.cell? ⟨gb181, 6, none⟩ = some (.int .i64 a1_6) := (blk_cell BK181.out 6).trans rfl
              have hcz37_7 : w5.cell? ⟨gb181, 7, none⟩ = some (.int .i64 a1_7) := (blk_cell BK181.out 7).trans rfl
              have hcz37_8 : w5.cell? ⟨gb181, 8, none⟩ = some (.slice A1_8 l1_8.length c1_8) := (blk_cell BK181.out 8).trans rfl
              have hcz37_9 : w5.cell? ⟨gb181, 9, none⟩ = some (.int .i64 a1_9) := (blk_cell BK181.out 9).trans rfl
              have hcz37_10 : w5.cell? ⟨gb181, 10, none⟩ = some (.slice A1_10 l1_10.length c1_10) := (blk_cell BK181.out 10).trans rfl
              have hfz37_0 := blk_frozen BK181.out 0
              have hfz37_1 := blk_frozen BK181.out 1
              have hfz37_2 := blk_frozen BK181.out 2
              have hfz37_3 := blk_frozen BK181.out 3
              have hfz37_4 := blk_frozen BK181.out 4
              have hfz37_5 := blk_frozen BK181.out 5
              have hfz37_6 := blk_frozen BK181.out 6
              have hfz37_7 := blk_frozen BK181.out 7
              have hfz37_8 := blk_frozen BK181.out 8
              have hfz37_9 := blk_frozen BK181.out 9
              have hfz37_10 := blk_frozen BK181.out 10
              go_wp2
              go_meet
              case rel => exact ⟨_, (true), (by first | rfl | (simp; done) | (simp [*]; done)), H', ⟨by first | omega | exact Nat.le_refl _⟩, ⟨by (with_reducible repeat (first | refine blk_drewN ?_ _ | refine blk_drew ?_ | refine blk_alloc ?_ _)); exact BK180.out⟩, ⟨by (with_reducible repeat (first | refine blk_drewN ?_ _ | refine blk_drew ?_ | refine blk_alloc ?_ _)); exact BK181.out⟩, ⟨by repeat (first | (with_reducible first | exact HB.out | apply below_alloc | apply pw_below_drewN | apply below_drew1 | refine below_set ?_ GE180.out | refine below_set ?_ GE181.out) | exact HB.out)⟩⟩
          · rw [if_neg c9] at H
            have c9b0 : (a0_3 == a1_3) = false := beq_eq_false_iff_ne.mpr c9
            have c9b1 : (a0_3 != a1_3) = true := bne_iff_ne.mpr c9
            have H' := Aside0.mk H
            clear H
            have hnb38 := NB180_181.out
            have hnc38 := NB181_180.out
            have hcz39_0 : w5.cell? ⟨gb180, 0, none⟩ = some (.int .i64 a0_0) := (blk_cell BK180.out 0).trans rfl
            have hcz39_1 : w5.cell? ⟨gb180, 1, none⟩ = some (.string a0_1) := (blk_cell BK180.out 1).trans rfl
            have hcz39_2 : w5.cell? ⟨gb180, 2, none⟩ = some (.int .i64 a0_2) := (blk_cell BK180.out 2).trans rfl
            have hcz39_3 : w5.cell? ⟨gb180, 3, none⟩ = some (.int .i64 a0_3) := (blk_cell BK180.out 3).trans rfl
            have hcz39_4 : w5.cell? ⟨gb180, 4, none⟩ = some (.int .i64 a0_4) := (blk_cell BK180.out 4).trans rfl
            have hcz39_5 : w5.cell? ⟨gb180, 5, none⟩ = some (.int .i64 a0_5) := (blk_cell BK180.out 5).trans rfl
            have hcz39_6 : w5.cell? ⟨gb180, 6, none⟩ = some (.int .i64 a0_6) := (blk_cell BK180.out 6).trans rfl
            have hcz39_7 : w5.cell? ⟨gb180, 7, none⟩ = some (.int .i64 a0_7) := (blk_cell BK180.out 7).trans rfl
            have hcz39_8 : w5.cell? ⟨gb180, 8, none⟩ = some (.slice A0_8 l0_8.length c0_8) := (blk_cell BK180.out 8).trans rfl
            have hcz39_9 : w5.cell? ⟨gb180, 9, none⟩ = some (.int .i64 a0_9) := (blk_cell BK180.out 9).trans rfl
            have hcz39_10 : w5.cell? ⟨gb180, 10, none⟩ = some (.slice A0_10 l0_10.length c0_10) := (blk_cell BK180.out 10).trans rfl
            have hfz39_0 := blk_frozen BK180.out 0
            have hfz39_1 := blk_frozen BK180.out 1
            have hfz39_2 := blk_frozen BK180.out 2
            have hfz39_3 := blk_frozen BK180.out 3
            have hfz39_4 := blk_frozen BK180.out 4
            have hfz39_5 := blk_frozen BK180.out 5
            have hfz39_6 := blk_frozen BK180.out 6
            have hfz39_7 := blk_frozen BK180.out 7
            have hfz39_8 := blk_frozen BK180.out 8
            have hfz39_9 := blk_frozen BK180.out 9
            have hfz39_10 := blk_frozen BK180.out 10
            have hcz40_0 : w5.cell? ⟨gb181, 0, none⟩ = some (.int .i64 a1_0) := (blk_cell BK181.out 0).trans rfl
            have hcz40_1 : w5.cell? ⟨gb181, 1, none⟩ = some (.string a1_1) := (blk_cell BK181.out 1).trans rfl
            have hcz40_2 : w5.cell? ⟨gb181, 2, none⟩ = some (.int .i64 a1_2) := (blk_cell BK181.out 2).trans rfl
            have hcz40_3 : w5.cell? ⟨gb181, 3, none⟩ = some (.int .i64 a1_3) := (blk_cell BK181.out 3).trans rfl
            have hcz40_4 : w5.cell? ⟨gb181, 4, none⟩ = some (.int .i64 a1_4) := (blk_cell BK181.out 4).trans rfl
            have hcz40_5 : w5.cell? ⟨gb181, 5, none⟩ = some (.int .i64 a1_5) := (blk_cell BK181.out 5).trans rfl
            have hcz40_6 : w5.cell? ⟨gb181, 6, none⟩ = some (.int .i64 a1_6) := (blk_cell BK181.out 6).trans rfl
            have hcz40_7 : w5.cell? ⟨gb181, 7, none⟩ = some (.int .i64 a1_7) := (blk_cell BK181.out 7).trans rfl
            have hcz40_8 : w5.cell? ⟨gb181, 8, none⟩ = some (.slice A1_8 l1_8.length c1_8) := (blk_cell BK181.out 8).trans rfl
            have hcz40_9 : w5.cell? ⟨gb181, 9, none⟩ = some (.int .i64 a1_9) := (blk_cell BK181.out 9).trans rfl
            have hcz40_10 : w5.cell? ⟨gb181, 10, none⟩ = some (.slice A1_10 l1_10.length c1_10) := (blk_cell BK181.out 10).trans rfl
            have hfz40_0 := blk_frozen BK181.out 0
            have hfz40_1 := blk_frozen BK181.out 1
            have hfz40_2 := blk_frozen BK181.out 2
            have hfz40_3 := blk_frozen BK181.out 3
            have hfz40_4 := blk_frozen BK181.out 4
            have hfz40_5 := blk_frozen BK181.out 5
            have hfz40_6 := blk_frozen BK181.out 6
            have hfz40_7 := blk_frozen BK181.out 7
            have hfz40_8 := blk_frozen BK181.out 8
            have hfz40_9 := blk_frozen BK181.out 9
            have hfz40_10 := blk_frozen BK181.out 10
            go_wp2
            go_meet
            case rel => exact ⟨_, (true), (by first | rfl | (simp; done) | (simp [*]; done)), H', ⟨by first | omega | exact Nat.le_refl _⟩, ⟨by (with_reducible repeat (first | refine blk_drewN ?_ _ | refine blk_drew ?_ | refine blk_alloc ?_ _)); exact BK180.out⟩, ⟨by (with_reducible repeat (first | refine blk_drewN ?_ _ | refine blk_drew ?_ | refine blk_alloc ?_ _)); exact BK181.out⟩, ⟨by repeat (first | (with_reducible first | exact HB.out | apply below_alloc | apply pw_below_drewN | apply below_drew1 | refine below_set ?_ GE180.out | refine below_set ?_ GE181.out) | exact HB.out)⟩⟩
        · rw [if_neg c8] at H
          have c8b0 : (a0_2 == a1_2) = false := beq_eq_false_iff_ne.mpr c8
          have c8b1 : (a0_2 != a1_2) = true := bne_iff_ne.mpr c8
          have H' := Aside0.mk H
          clear H
          have hnb41 := NB180_181.out
          have hnc41 := NB181_180.out
          have hcz42_0 : w5.cell? ⟨gb180, 0, none⟩ = some (.int .i64 a0_0) := (blk_cell BK180.out 0).trans rfl
          have hcz42_1 : w5.cell? ⟨gb180, 1, none⟩ = some (.string a0_1) := (blk_cell BK180.out 1).trans rfl
          have hcz42_2 : w5.cell? ⟨gb180, 2, none⟩ = some (.int .i64 a0_2) := (blk_cell BK180.out 2).trans rfl
          have hcz42_3 : w5.cell? ⟨gb180, 3, none⟩ = some (.int .i64 a0_3) := (blk_cell BK180.out 3).trans rfl
          have hcz42_4 : w5.cell? ⟨gb180, 4, none⟩ = some (.int .i64 a0_4) := (blk_cell BK180.out 4).trans rfl
          have hcz42_5 : w5.cell? ⟨gb180, 5, none⟩ = some (.int .i64 a0_5) := (blk_cell BK180.out 5).trans rfl
          have hcz42_6 : w5.cell? ⟨gb180, 6, none⟩ = some (.int .i64 a0_6) := (blk_cell BK180.out 6).trans rfl
          have hcz42_7 : w5.cell? ⟨gb180, 7, none⟩ = some (.int .i64 a0_7) := (blk_cell BK180.out 7).trans rfl
          have hcz42_8 : w5.cell? ⟨gb180, 8, none⟩ = some (.slice A0_8 l0_8.length c0_8) := (blk_cell BK180.out 8).trans rfl
          have hcz42_9 : w5.cell? ⟨gb180, 9, none⟩ = some (.int .i64 a0_9) := (blk_cell BK180.out 9).trans rfl
          have hcz42_10 : w5.cell? ⟨gb180, 10, none⟩ = some (.slice A0_10 l0_10.length c0_10) := (blk_cell BK180.out 10).trans rfl
          have hfz42_0 := blk_frozen BK180.out 0
          have hfz42_1 := blk_frozen BK180.out 1
          have hfz42_2 := blk_frozen BK180.out 2
          have hfz42_3 := blk_frozen BK180.out 3
          have hfz42_4 := blk_frozen BK180.out 4
          have hfz42_5 := blk_frozen BK180.out 5
          have hfz42_6 := blk_frozen BK180.out 6
          have hfz42_7 := blk_frozen BK180.out 7
          have hfz42_8 := blk_frozen BK180.out 8
          have hfz42_9 := blk_frozen BK180.out 9
          have hfz42_10 := blk_frozen BK180.out 10
          have hcz43_0 : w5.cell? ⟨gb181, 0, none⟩ = some (.int .i64 a1_0) := (blk_cell BK181.out 0).trans rfl
          have hcz43_1 : w5.cell? ⟨gb181, 1, none⟩ = some (.string a1_1) := (blk_cell BK181.out 1).trans rfl
          have hcz43_2 : w5.cell? ⟨gb181, 2, none⟩ = some (.int .i64 a1_2) := (blk_cell BK181.out 2).trans rfl
          have hcz43_3 : w5.cell? ⟨gb181, 3, none⟩ = some (.int .i64 a1_3) := (blk_cell BK181.out 3).trans rfl
          have hcz43_4 : w5.cell? ⟨gb181, 4, none⟩ = some (.int .i64 a1_4) := (blk_cell BK181.out 4).trans rfl
          have hcz43_5 : w5.cell? ⟨gb181, 5, none⟩ = some (.int .i64 a1_5) := (blk_cell BK181.out 5).trans rfl
          have hcz43_6 : w5.cell? ⟨gb181, 6, none⟩ = some (.int .i64 a1_6) := (blk_cell BK181.out 6).trans rfl
          have hcz43_7 : w5.cell? ⟨gb181, 7, none⟩ = some (.int .i64 a1_7) := (blk_cell BK181.out 7).trans rfl
          have hcz43_8 : w5.cell? ⟨gb181, 8, none⟩ = some (.slice A1_8 l1_8.length c1_8) := (blk_cell BK181.out 8).trans rfl
          have hcz43_9 : w5.cell? ⟨gb181, 9, none⟩ = some (.int .i64 a1_9) := (blk_cell BK181.out 9).trans rfl
          have hcz43_10 : w5.cell? ⟨gb181, 10, none⟩ = some (.slice A1_10 l1_10.length c1_10) := (blk_cell BK181.out 10).trans rfl
          have hfz43_0 := blk_frozen BK181.out 0
          have hfz43_1 := blk_frozen BK181.out 1
          have hfz43_2 := blk_frozen BK181.out 2
          have hfz43_3 := blk_frozen BK181.out 3
          have hfz43_4 := blk_frozen BK181.out 4
          have hfz43_5 := blk_frozen BK181.out 5
          have hfz43_6 := blk_frozen BK181.out 6
          have hfz43_7 := blk_frozen BK181.out 7
          have hfz43_8 := blk_frozen BK181.out 8
          have hfz43_9 := blk_frozen BK181.out 9
          have hfz43_10 := blk_frozen BK181.out 10
          go_wp2
          go_meet
          case rel => exact ⟨_, (true), (by first | rfl | (simp; done) | (simp [*]; done)), H', ⟨by first | omega | exact Nat.le_refl _⟩, ⟨by (with_reducible repeat (first | refine blk_drewN ?_ _ | refine blk_drew ?_ | refine blk_alloc ?_ _)); exact BK180.out⟩, ⟨by (with_reducible repeat (first | refine blk_drewN ?_ _ | refine blk_drew ?_ | refine blk_alloc ?_ _)); exact BK181.out⟩, ⟨by repeat (first | (with_reducible first | exact HB.out | apply below_alloc | apply pw_below_drewN | apply below_drew1 | refine below_set ?_ GE180.out | refine below_set ?_ GE181.out) | exact HB.out)⟩⟩
      · rw [if_neg c7] at H
        have c7b0 : (a0_1.toList == a1_1.toList) = false := beq_eq_false_iff_ne.mpr c7
        have c7b1 : (a0_1.toList != a1_1.toList) = true := bne_iff_ne.mpr c7
        have H' := Aside0.mk H
        clear H
        have hnb44 := NB180_181.out
        have hnc44 := NB181_180.out
        have hcz45_0 : w5.cell? ⟨gb180, 0, none⟩ = some (.int .i64 a0_0) := (blk_cell BK180.out 0).trans rfl
        have hcz45_1 : w5.cell? ⟨gb180, 1, none⟩ = some (.string a0_1) := (blk_cell BK180.out 1).trans rfl
        have hcz45_2 : w5.cell? ⟨gb180, 2, none⟩ = some (.int .i64 a0_2) := (blk_cell BK180.out 2).trans rfl
        have hcz45_3 : w5.cell? ⟨gb180, 3, none⟩ = some (.int .i64 a0_3) := (blk_cell BK180.out 3).trans rfl
        have hcz45_4 : w5.cell? ⟨gb180, 4, none⟩ = some (.int .i64 a0_4) := (blk_cell BK180.out 4).trans rfl
        have hcz45_5 : w5.cell? ⟨gb180, 5, none⟩ = some (.int .i64 a0_5) := (blk_cell BK180.out 5).trans rfl
        have hcz45_6 : w5.cell? ⟨gb180, 6, none⟩ = some (.int .i64 a0_6) := (blk_cell BK180.out 6).trans rfl
        have hcz45_7 : w5.cell? ⟨gb180, 7, none⟩ = some (.int .i64 a0_7) := (blk_cell BK180.out 7).trans rfl
        have hcz45_8 : w5.cell? ⟨gb180, 8, none⟩ = some (.slice A0_8 l0_8.length c0_8) := (blk_cell BK180.out 8).trans rfl
        have hcz45_9 : w5.cell? ⟨gb180, 9, none⟩ = some (.int .i64 a0_9) := (blk_cell BK180.out 9).trans rfl
        have hcz45_10 : w5.cell? ⟨gb180, 10, none⟩ = some (.slice A0_10 l0_10.length c0_10) := (blk_cell BK180.out 10).trans rfl
        have hfz45_0 := blk_frozen BK180.out 0
        have hfz45_1 := blk_frozen BK180.out 1
        have hfz45_2 := blk_frozen BK180.out 2
        have hfz45_3 := blk_frozen BK180.out 3
        have hfz45_4 := blk_frozen BK180.out 4
        have hfz45_5 := blk_frozen BK180.out 5
        have hfz45_6 := blk_frozen BK180.out 6
        have hfz45_7 := blk_frozen BK180.out 7
        have hfz45_8 := blk_frozen BK180.out 8
        have hfz45_9 := blk_frozen BK180.out 9
        have hfz45_10 := blk_frozen BK180.out 10
        have hcz46_0 : w5.cell? ⟨gb181, 0, none⟩ = some (.int .i64 a1_0) := (blk_cell BK181.out 0).trans rfl
        have hcz46_1 : w5.cell? ⟨gb181, 1, none⟩ = some (.string a1_1) := (blk_cell BK181.out 1).trans rfl
        have hcz46_2 : w5.cell? ⟨gb181, 2, none⟩ = some (.int .i64 a1_2) := (blk_cell BK181.out 2).trans rfl
        have hcz46_3 : w5.cell? ⟨gb181, 3, none⟩ = some (.int .i64 a1_3) := (blk_cell BK181.out 3).trans rfl
        have hcz46_4 : w5.cell? ⟨gb181, 4, none⟩ = some (.int .i64 a1_4) := (blk_cell BK181.out 4).trans rfl
        have hcz46_5 : w5.cell? ⟨gb181, 5, none⟩ = some (.int .i64 a1_5) := (blk_cell BK181.out 5).trans rfl
        have hcz46_6 : w5.cell? ⟨gb181, 6, none⟩ = some (.int .i64 a1_6) := (blk_cell BK181.out 6).trans rfl
        have hcz46_7 : w5.cell? ⟨gb181, 7, none⟩ = some (.int .i64 a1_7) := (blk_cell BK181.out 7).trans rfl
        have hcz46_8 : w5.cell? ⟨gb181, 8, none⟩ = some (.slice A1_8 l1_8.length c1_8) := (blk_cell BK181.out 8).trans rfl
        have hcz46_9 : w5.cell? ⟨gb181, 9, none⟩ = some (.int .i64 a1_9) := (blk_cell BK181.out 9).trans rfl
        have hcz46_10 : w5.cell? ⟨gb181, 10, none⟩ = some (.slice A1_10 l1_10.length c1_10) := (blk_cell BK181.out 10).trans rfl
        have hfz46_0 := blk_frozen BK181.out 0
        have hfz46_1 := blk_frozen BK181.out 1
        have hfz46_2 := blk_frozen BK181.out 2
        have hfz46_3 := blk_frozen BK181.out 3
        have hfz46_4 := blk_frozen BK181.out 4
        have hfz46_5 := blk_frozen BK181.out 5
        have hfz46_6 := blk_frozen BK181.out 6
        have hfz46_7 := blk_frozen BK181.out 7
        have hfz46_8 := blk_frozen BK181.out 8
        have hfz46_9 := blk_frozen BK181.out 9
        have hfz46_10 := blk_frozen BK181.out 10
        go_wp2
        go_meet
        case rel => exact ⟨_, (true), (by first | rfl | (simp; done) | (simp [*]; done)), H', ⟨by first | omega | exact Nat.le_refl _⟩, ⟨by (with_reducible repeat (first | refine blk_drewN ?_ _ | refine blk_drew ?_ | refine blk_alloc ?_ _)); exact BK180.out⟩, ⟨by (with_reducible repeat (first | refine blk_drewN ?_ _ | refine blk_drew ?_ | refine blk_alloc ?_ _)); exact BK181.out⟩, ⟨by repeat (first | (with_reducible first | exact HB.out | apply below_alloc | apply pw_below_drewN | apply below_drew1 | refine below_set ?_ GE180.out | refine below_set ?_ GE181.out) | exact HB.out)⟩⟩
    · rw [if_neg c6] at H
      have c6b0 : (a0_0 == a1_0) = false := beq_eq_false_iff_ne.mpr c6
      have c6b1 : (a0_0 != a1_0) = true := bne_iff_ne.mpr c6
      (first | rw [c6b0] | (simp only [i64_w, i32_w]; rw [c6b0]) | skip)
      have H' := Aside0.mk H
      clear H
      have hnb47 := NB180_181.out
      have hnc47 := NB181_180.out
      have hcz48_0 : w5.cell? ⟨gb180, 0, none⟩ = some (.int .i64 a0_0) := (blk_cell BK180.out 0).trans rfl
      have hcz48_1 : w5.cell? ⟨gb180, 1, none⟩ = some (.string a0_1) := (blk_cell BK180.out 1).trans rfl
      have hcz48_2 : w5.cell? ⟨gb180, 2, none⟩ = some (.int .i64 a0_2) := (blk_cell BK180.out 2).trans rfl
      have hcz48_3 : w5.cell? ⟨gb180, 3, none⟩ = some (.int .i64 a0_3) := (blk_cell BK180.out 3).trans rfl
      have hcz48_4 : w5.cell? ⟨gb180, 4, none⟩ = some (.int .i64 a0_4) := (blk_cell BK180.out 4).trans rfl
      have hcz48_5 : w5.cell? ⟨gb180, 5, none⟩ = some (.int .i64 a0_5) := (blk_cell BK180.out 5).trans rfl
      have hcz48_6 : w5.cell? ⟨gb180, 6, none⟩ = some (.int .i64 a0_6) := (blk_cell BK180.out 6).trans rfl
      have hcz48_7 : w5.cell? ⟨gb180, 7, none⟩ = some (.int .i64 a0_7) := (blk_cell BK180.out 7).trans rfl
      have hcz48_8 : w5.cell? ⟨gb180, 8, none⟩ = some (.slice A0_8 l0_8.length c0_8) := (blk_cell BK180.out 8).trans rfl
      have hcz48_9 : w5.cell? ⟨gb180, 9, none⟩ = some (.int .i64 a0_9) := (blk_cell BK180.out 9).trans rfl
      have hcz48_10 : w5.cell? ⟨gb180, 10, none⟩ = some (.slice A0_10 l0_10.length c0_10) := (blk_cell BK180.out 10).trans rfl
      have hfz48_0 := blk_frozen BK180.out 0
      have hfz48_1 := blk_frozen BK180.out 1
      have hfz48_2 := blk_frozen BK180.out 2
      have hfz48_3 := blk_frozen BK180.out 3
      have hfz48_4 := blk_frozen BK180.out 4
      have hfz48_5 := blk_frozen BK180.out 5
      have hfz48_6 := blk_frozen BK180.out 6
      have hfz48_7 := blk_frozen BK180.out 7
      have hfz48_8 := blk_frozen BK180.out 8
      have hfz48_9 := blk_frozen BK180.out 9
      have hfz48_10 := blk_frozen BK180.out 10
      have hcz49_0 : w5.cell? ⟨gb181, 0, none⟩ = some (.int .i64 a1_0) := (blk_cell BK181.out 0).trans rfl
      have hcz49_1 : w5.cell? ⟨gb181, 1, none⟩ = some (.string a1_1) := (blk_cell BK181.out 1).trans rfl
      have hcz49_2 : w5.cell? ⟨gb181, 2, none⟩ = some (.int .i64 a1_2) := (blk_cell BK181.out 2).trans rfl
      have hcz49_3 : w5.cell? ⟨gb181, 3, none⟩ = some (.int .i64 a1_3) := (blk_cell BK181.out 3).trans rfl
      have hcz49_4 : w5.cell? ⟨gb181, 4, none⟩ = some (.int .i64 a1_4) := (blk_cell BK181.out 4).trans rfl
      have hcz49_5 : w5.cell? ⟨gb181, 5, none⟩ = some (.int .i64 a1_5) := (blk_cell BK181.out 5).trans rfl
      have hcz49_6 : w5.cell? ⟨gb181, 6, none⟩ = some (.int .i64 a1_6) := (blk_cell BK181.out 6).trans rfl
      have hcz49_7 : w5.cell? ⟨gb181, 7, none⟩ = some (.int .i64 a1_7) := (blk_cell BK181.out 7).trans rfl
      have hcz49_8 : w5.cell? ⟨gb181, 8, none⟩ = some (.slice A1_8 l1_8.length c1_8) := (blk_cell BK181.out 8).trans rfl
      have hcz49_9 : w5.cell? ⟨gb181, 9, none⟩ = some (.int .i64 a1_9) := (blk_cell BK181.out 9).trans rfl
      have hcz49_10 : w5.cell? ⟨gb181, 10, none⟩ = some (.slice A1_10 l1_10.length c1_10) := (blk_cell BK181.out 10).trans rfl
      have hfz49_0 := blk_frozen BK181.out 0
      have hfz49_1 := blk_frozen BK181.out 1
      have hfz49_2 := blk_frozen BK181.out 2
      have hfz49_3 := blk_frozen BK181.out 3
      have hfz49_4 := blk_frozen BK181.out 4
      have hfz49_5 := blk_frozen BK181.out 5
      have hfz49_6 := blk_frozen BK181.out 6
      have hfz49_7 := blk_frozen BK181.out 7
      have hfz49_8 := blk_frozen BK181.out 8
      have hfz49_9 := blk_frozen BK181.out 9
      have hfz49_10 := blk_frozen BK181.out 10
      go_wp2
      go_meet
      case rel => exact ⟨_, (true), (by first | rfl | (simp; done) | (simp [*]; done)), H', ⟨by first | omega | exact Nat.le_refl _⟩, ⟨by (with_reducible repeat (first | refine blk_drewN ?_ _ | refine blk_drew ?_ | refine blk_alloc ?_ _)); exact BK180.out⟩, ⟨by (with_reducible repeat (first | refine blk_drewN ?_ _ | refine blk_drew ?_ | refine blk_alloc ?_ _)); exact BK181.out⟩, ⟨by repeat (first | (with_reducible first | exact HB.out | apply below_alloc | apply pw_below_drewN | apply below_drew1 | refine below_set ?_ GE180.out | refine below_set ?_ GE181.out) | exact HB.out)⟩⟩
  case rest =>
    clear HC3
    try clear c1
    try clear c2
    try clear p2
    try clear c3
    try clear c4
    try clear c6
    try clear c6b0
    try clear c6b1
    try clear c7
    try clear c7b0
    try clear c7b1
    try clear c8
    try clear c8b0
    try clear c8b1
    try clear c9
    try clear c9b0
    try clear c9b1
    try clear c10
    try clear c10b0
    try clear c10b1
    try clear c11
    try clear c11b0
    try clear c11b1
    try clear c12
    try clear c12b0
    try clear c12b1
    try clear c13
    try clear c13b0
    try clear c13b1
    try clear c14
    try clear c14b0
    try clear c14b1
    try clear c16
    try clear c17
    try clear c20
    try clear c23
    try clear c26
    try clear c29
    try clear c32
    try clear c35
    try clear c38
    try clear c41
    try clear c44
    try clear c47
    try clear hcz18_0
    try clear hcz18_1
    try clear hcz18_10
    try clear hcz18_2
    try clear hcz18_3
    try clear hcz18_4
    try clear hcz18_5
    try clear hcz18_6
    try clear hcz18_7
    try clear hcz18_8
    try clear hcz18_9
    try clear hcz19_0
    try clear hcz19_1
    try clear hcz19_10
    try clear hcz19_2
    try clear hcz19_3
    try clear hcz19_4
    try clear hcz19_5
    try clear hcz19_6
    try clear hcz19_7
    try clear hcz19_8
    try clear hcz19_9
    try clear hcz21_0
    try clear hcz21_1
    try clear hcz21_10
    try clear hcz21_2
    try clear hcz21_3
    try clear hcz21_4
    try clear hcz21_5
    try clear hcz21_6
    try clear hcz21_7
    try clear hcz21_8
    try clear hcz21_9
    try clear hcz22_0
    try clear hcz22_1
    try clear hcz22_10
    try clear hcz22_2
    try clear hcz22_3
    try clear hcz22_4
    try clear hcz22_5
    try clear hcz22_6
    try clear hcz22_7
    try clear hcz22_8
    try clear hcz22_9
    try clear hcz24_0
    try clear hcz24_1
    try clear hcz24_10
    try clear hcz24_2
    try clear hcz24_3
    try clear hcz24_4
    try clear hcz24_5
    try clear hcz24_6
    try clear hcz24_7
    try clear hcz24_8
    try clear hcz24_9
    try clear hcz25_0
    try clear hcz25_1
    try clear hcz25_10
    try clear hcz25_2
    try clear hcz25_3
    try clear hcz25_4
    try clear hcz25_5
    try clear hcz25_6
    try clear hcz25_7
    try clear hcz25_8
    try clear hcz25_9
    try clear hcz27_0
    try clear hcz27_1
    try clear hcz27_10
    try clear hcz27_2
    try clear hcz27_3
    try clear hcz27_4
    try clear hcz27_5
    try clear hcz27_6
    try clear hcz27_7
    try clear hcz27_8
    try clear hcz27_9
    try clear hcz28_0
    try clear hcz28_1
    try clear hcz28_10
    try clear hcz28_2
    try clear hcz28_3
    try clear hcz28_4
    try clear hcz28_5
    try clear hcz28_6
    try clear hcz28_7
    try clear hcz28_8
    try clear hcz28_9
    try clear hcz30_0
    try clear hcz30_1
    try clear hcz30_10
    try clear hcz30_2
    try clear hcz30_3
    try clear hcz30_4
    try clear hcz30_5
    try clear hcz30_6
    try clear hcz30_7
    try clear hcz30_8
    try clear hcz30_9
    try clear hcz31_0
    try clear hcz31_1
    try clear hcz31_10
    try clear hcz31_2
    try clear hcz31_3
    try clear hcz31_4
    try clear hcz31_5
    try clear hcz31_6
    try clear hcz31_7
    try clear hcz31_8
    try clear hcz31_9
    try clear hcz33_0
    try clear hcz33_1
    try clear hcz33_10
    try clear hcz33_2
    try clear hcz33_3
    try clear hcz33_4
    try clear hcz33_5
    try clear hcz33_6
    try clear hcz33_7
    try clear hcz33_8
    try clear hcz33_9
    try clear hcz34_0
    try clear hcz34_1
    try clear hcz34_10
    try clear hcz34_2
    try clear hcz34_3
    try clear hcz34_4
    try clear hcz34_5
    try clear hcz34_6
    try clear hcz34_7
    try clear hcz34_8
    try clear hcz34_9
    try clear hcz36_0
    try clear hcz36_1
    try clear hcz36_10
    try clear hcz36_2
    try clear hcz36_3
    try clear hcz36_4
    try clear hcz36_5
    try clear hcz36_6
    try clear hcz36_7
    try clear hcz36_8
    try clear hcz36_9
    try clear hcz37_0
    try clear hcz37_1
    try clear hcz37_10
    try clear hcz37_2
    try clear hcz37_3
    try clear hcz37_4
    try clear hcz37_5
    try clear hcz37_6
    try clear hcz37_7
    try clear hcz37_8
    try clear hcz37_9
    try clear hcz39_0
    try clear hcz39_1
    try clear hcz39_10
    try clear hcz39_2
    try clear hcz39_3
    try clear hcz39_4
    try clear hcz39_5
    try clear hcz39_6
    try clear hcz39_7
    try clear hcz39_8
    try clear hcz39_9
    try clear hcz40_0
    try clear hcz40_1
    try clear hcz40_10
    try clear hcz40_2
    try clear hcz40_3
    try clear hcz40_4
    try clear hcz40_5
    try clear hcz40_6
    try clear hcz40_7
    try clear hcz40_8
    try clear hcz40_9
    try clear hcz42_0
    try clear hcz42_1
    try clear hcz42_10
    try clear hcz42_2
    try clear hcz42_3
    try clear hcz42_4
    try clear hcz42_5
    try clear hcz42_6
    try clear hcz42_7
    try clear hcz42_8
    try clear hcz42_9
    try clear hcz43_0
    try clear hcz43_1
    try clear hcz43_10
    try clear hcz43_2
    try clear hcz43_3
    try clear hcz43_4
    try clear hcz43_5
    try clear hcz43_6
    try clear hcz43_7
    try clear hcz43_8
    try clear hcz43_9
    try clear hcz45_0
    try clear hcz45_1
    try clear hcz45_10
    try clear hcz45_2
    try clear hcz45_3
    try clear hcz45_4
    try clear hcz45_5
    try clear hcz45_6
    try clear hcz45_7
    try clear hcz45_8
    try clear hcz45_9
    try clear hcz46_0
    try clear hcz46_1
    try clear hcz46_10
    try clear hcz46_2
    try clear hcz46_3
    try clear hcz46_4
    try clear hcz46_5
    try clear hcz46_6
    try clear hcz46_7
    try clear hcz46_8
    try clear hcz46_9
    try clear hcz48_0
    try clear hcz48_1
    try clear hcz48_10
    try clear hcz48_2
    try clear hcz48_3
    try clear hcz48_4
    try clear hcz48_5
    try clear hcz48_6
    try clear hcz48_7
    try clear hcz48_8
    try clear hcz48_9
    try clear hcz49_0
    try clear hcz49_1
    try clear hcz49_10
    try clear hcz49_2
    try clear hcz49_3
    try clear hcz49_4
    try clear hcz49_5
    try clear hcz49_6
    try clear hcz49_7
    try clear hcz49_8
    try clear hcz49_9
    try clear hfz18_0
    try clear hfz18_1
    try clear hfz18_10
    try clear hfz18_2
    try clear hfz18_3
    try clear hfz18_4
    try clear hfz18_5
    try clear hfz18_6
    try clear hfz18_7
    try clear hfz18_8
    try clear hfz18_9
    try clear hfz19_0
    try clear hfz19_1
    try clear hfz19_10
    try clear hfz19_2
    try clear hfz19_3
    try clear hfz19_4
    try clear hfz19_5
    try clear hfz19_6
    try clear hfz19_7
    try clear hfz19_8
    try clear hfz19_9
    try clear hfz21_0
    try clear hfz21_1
    try clear hfz21_10
    try clear hfz21_2
    try clear hfz21_3
    try clear hfz21_4
    try clear hfz21_5
    try clear hfz21_6
    try clear hfz21_7
    try clear hfz21_8
    try clear hfz21_9
    try clear hfz22_0
    try clear hfz22_1
    try clear hfz22_10
    try clear hfz22_2
    try clear hfz22_3
    try clear hfz22_4
    try clear hfz22_5
    try clear hfz22_6
    try clear hfz22_7
    try clear hfz22_8
    try clear hfz22_9
    try clear hfz24_0
    try clear hfz24_1
    try clear hfz24_10
    try clear hfz24_2
    try clear hfz24_3
    try clear hfz24_4
    try clear hfz24_5
    try clear hfz24_6
    try clear hfz24_7
    try clear hfz24_8
    try clear hfz24_9
    try clear hfz25_0
    try clear hfz25_1
    try clear hfz25_10
    try clear hfz25_2
    try clear hfz25_3
    try clear hfz25_4
    try clear hfz25_5
    try clear hfz25_6
    try clear hfz25_7
    try clear hfz25_8
    try clear hfz25_9
    try clear hfz27_0
    try clear hfz27_1
    try clear hfz27_10
    try clear hfz27_2
    try clear hfz27_3
    try clear hfz27_4
    try clear hfz27_5
    try clear hfz27_6
    try clear hfz27_7
    try clear hfz27_8
    try clear hfz27_9
    try clear hfz28_0
    try clear hfz28_1
    try clear hfz28_10
    try clear hfz28_2
    try clear hfz28_3
    try clear hfz28_4
    try clear hfz28_5
    try clear hfz28_6
    try clear hfz28_7
    try clear hfz28_8
    try clear hfz28_9
    try clear hfz30_0
    try clear hfz30_1
    try clear hfz30_10
    try clear hfz30_2
    try clear hfz30_3
    try clear hfz30_4
    try clear hfz30_5
    try clear hfz30_6
    try clear hfz30_7
    try clear hfz30_8
    try clear hfz30_9
    try clear hfz31_0
    try clear hfz31_1
    try clear hfz31_10
    try clear hfz31_2
    try clear hfz31_3
    try clear hfz31_4
    try clear hfz31_5
    try clear hfz31_6
    try clear hfz31_7
    try clear hfz31_8
    try clear hfz31_9
    try clear hfz33_0
    try clear hfz33_1
    try clear hfz33_10
    try clear hfz33_2
    try clear hfz33_3
    try clear hfz33_4
    try clear hfz33_5
    try clear hfz33_6
    try clear hfz33_7
    try clear hfz33_8
    try clear hfz33_9
    try clear hfz34_0
    try clear hfz34_1
    try clear hfz34_10
    try clear hfz34_2
    try clear hfz34_3
    try clear hfz34_4
    try clear hfz34_5
    try clear hfz34_6
    try clear hfz34_7
    try clear hfz34_8
    try clear hfz34_9
    try clear hfz36_0
    try clear hfz36_1
    try clear hfz36_10
    try clear hfz36_2
    try clear hfz36_3
    try clear hfz36_4
    try clear hfz36_5
    try clear hfz36_6
    try clear hfz36_7
    try clear hfz36_8
    try clear hfz36_9
    try clear hfz37_0
    try clear hfz37_1
    try clear hfz37_10
    try clear hfz37_2
    try clear hfz37_3
    try clear hfz37_4
    try clear hfz37_5
    try clear hfz37_6
    try clear hfz37_7
    try clear hfz37_8
    try clear hfz37_9
    try clear hfz39_0
    try clear hfz39_1
    try clear hfz39_10
    try clear hfz39_2
    try clear hfz39_3
    try clear hfz39_4
    try clear hfz39_5
    try clear hfz39_6
    try clear hfz39_7
    try clear hfz39_8
    try clear hfz39_9
    try clear hfz40_0
    try clear hfz40_1
    try clear hfz40_10
    try clear hfz40_2
    try clear hfz40_3
    try clear hfz40_4
    try clear hfz40_5
    try clear hfz40_6
    try clear hfz40_7
    try clear hfz40_8
    try clear hfz40_9
    try clear hfz42_0
    try clear hfz42_1
    try clear hfz42_10
    try clear hfz42_2
    try clear hfz42_3
    try clear hfz42_4
    try clear hfz42_5
    try clear hfz42_6
    try clear hfz42_7
    try clear hfz42_8
    try clear hfz42_9
    try clear hfz43_0
    try clear hfz43_1
    try clear hfz43_10
    try clear hfz43_2
    try clear hfz43_3
    try clear hfz43_4
    try clear hfz43_5
    try clear hfz43_6
    try clear hfz43_7
    try clear hfz43_8
    try clear hfz43_9
    try clear hfz45_0
    try clear hfz45_1
    try clear hfz45_10
    try clear hfz45_2
    try clear hfz45_3
    try clear hfz45_4
    try clear hfz45_5
    try clear hfz45_6
    try clear hfz45_7
    try clear hfz45_8
    try clear hfz45_9
    try clear hfz46_0
    try clear hfz46_1
    try clear hfz46_10
    try clear hfz46_2
    try clear hfz46_3
    try clear hfz46_4
    try clear hfz46_5
    try clear hfz46_6
    try clear hfz46_7
    try clear hfz46_8
    try clear hfz46_9
    try clear hfz48_0
    try clear hfz48_1
    try clear hfz48_10
    try clear hfz48_2
    try clear hfz48_3
    try clear hfz48_4
    try clear hfz48_5
    try clear hfz48_6
    try clear hfz48_7
    try clear hfz48_8
    try clear hfz48_9
    try clear hfz49_0
    try clear hfz49_1
    try clear hfz49_10
    try clear hfz49_2
    try clear hfz49_3
    try clear hfz49_4
    try clear hfz49_5
    try clear hfz49_6
    try clear hfz49_7
    try clear hfz49_8
    try clear hfz49_9
    obtain ⟨kq, x83_2, rfl, HA, HJ2, BK180, BK181, HB⟩ := hcut
    cases kq with
    | zero => exact absurd HA.out (by simp [vinculumref28_Equal.j0])
    | succ kj2 =>
      have H := HA.out
      clear HA
      simp only [vinculumref28_Equal.j0] at H
      by_cases c50 : x83_2 = true
      · subst c50
        have H1 : (some false) = some r := by rw [if_pos rfl] at H; exact H
        clear H
        have H := H1
        clear H1
        obtain rfl := Option.some.inj H
        go_wp2
        go_ret
        exact ⟨by first | rfl | (simp [errW_none, errW_some] <;> rfl) | (simp [*, errW_none, errW_some] <;> rfl), by repeat (first | (with_reducible first | exact HB.out | apply below_alloc | apply pw_below_drewN | apply below_drew1 | refine below_set ?_ GE180.out | refine below_set ?_ GE181.out) | exact HB.out)⟩
      · replace c50 := Bool.eq_false_iff.mpr c50
        subst c50
        have H1 : (vinculumref28_Equal.l0 kj2 0 a0_0 a0_1 a0_2 a0_3 a0_4 a0_5 a0_6 a0_7 l0_8 a0_9 l0_10 a1_0 a1_1 a1_2 a1_3 a1_4 a1_5 a1_6 a1_7 l1_8 a1_9 l1_10) = some r := by rw [if_neg (show ¬ (false = true) by decide)] at H; exact H
        clear H
        have H := H1
        clear H1
        have H' := Aside0.mk H
        clear H
        go_wp2
        go_loopg [5] kj2 (fun kq v5 w' => ∃ (x5_2 : Int), v5 = .int .i64 x5_2 ∧ Aside0 (vinculumref28_Equal.l0 kq x5_2 a0_0 a0_1 a0_2 a0_3 a0_4 a0_5 a0_6 a0_7 l0_8 a0_9 l0_10 a1_0 a1_1 a1_2 a1_3 a1_4 a1_5 a1_6 a1_7 l1_8 a1_9 l1_10 = some r) ∧ Aside0 (kq ≤ kj2) ∧ Aside0 (w'.heap[gb180]? = some (.cells #[.int .i64 a0_0, .string a0_1, .int .i64 a0_2, .int .i64 a0_3, .int .i64 a0_4, .int .i64 a0_5, .int .i64 a0_6, .int .i64 a0_7, (.slice A0_8 l0_8.length c0_8), .int .i64 a0_9, (.slice A0_10 l0_10.length c0_10)] 28 (0, 0))) ∧ Aside0 (w'.heap[gb181]? = some (.cells #[.int .i64 a1_0, .string a1_1, .int .i64 a1_2, .int .i64 a1_3, .int .i64 a1_4, .int .i64 a1_5, .int .i64 a1_6, .int .i64 a1_7, (.slice A1_8 l1_8.length c1_8), .int .i64 a1_9, (.slice A1_10 l1_10.length c1_10)] 28 (0, 0))) ∧ Aside0 (Below w.heap.size w w'))
        case atStart => exact ⟨(0), (by first | rfl | (simp; done) | (simp [*]; done)), H', ⟨Nat.le_refl _⟩, ⟨by (with_reducible repeat (first | refine blk_drewN ?_ _ | refine blk_drew ?_ | refine blk_alloc ?_ _)); exact BK180.out⟩, ⟨by (with_reducible repeat (first | refine blk_drewN ?_ _ | refine blk_drew ?_ | refine blk_alloc ?_ _)); exact BK181.out⟩, ⟨by repeat (first | (with_reducible first | exact HB.out | apply below_alloc | apply pw_below_drewN | apply below_drew1 | refine below_set ?_ GE180.out | refine below_set ?_ GE181.out) | exact HB.out)⟩⟩
        case round =>
          clear H'
          try clear c1
          try clear c2
          try clear p2
          try clear c3
          try clear c4
          try clear c5
          try clear c6
          try clear c6b0
          try clear c6b1
          try clear c7
          try clear c7b0
          try clear c7b1
          try clear c8
          try clear c8b0
          try clear c8b1
          try clear c9
          try clear c9b0
          try clear c9b1
          try clear c10
          try clear c10b0
          try clear c10b1
          try clear c11
          try clear c11b0
          try clear c11b1
          try clear c12
          try clear c12b0
          try clear c12b1
          try clear c13
          try clear c13b0
          try clear c13b1
          try clear c14
          try clear c14b0
          try clear c14b1
          try clear c16
          try clear c17
          try clear c20
          try clear c23
          try clear c26
          try clear c29
          try clear c32
          try clear c35
          try clear c38
          try clear c41
          try clear c44
          try clear c47
          try clear c50
          try clear hcz18_0
          try clear hcz18_1
          try clear hcz18_10
          try clear hcz18_2
          try clear hcz18_3
          try clear hcz18_4
          try clear hcz18_5
          try clear hcz18_6
          try clear hcz18_7
          try clear hcz18_8
          try clear hcz18_9
          try clear hcz19_0
          try clear hcz19_1
          try clear hcz19_10
          try clear hcz19_2
          try clear hcz19_3
          try clear hcz19_4
          try clear hcz19_5
          try clear hcz19_6
          try clear hcz19_7
          try clear hcz19_8
          try clear hcz19_9
          try clear hcz21_0
          try clear hcz21_1
          try clear hcz21_10
          try clear hcz21_2
          try clear hcz21_3
          try clear hcz21_4
          try clear hcz21_5
          try clear hcz21_6
          try clear hcz21_7
          try clear hcz21_8
          try clear hcz21_9
          try clear hcz22_0
          try clear hcz22_1
          try clear hcz22_10
          try clear hcz22_2
          try clear hcz22_3
          try clear hcz22_4
          try clear hcz22_5
          try clear hcz22_6
          try clear hcz22_7
          try clear hcz22_8
          try clear hcz22_9
          try clear hcz24_0
          try clear hcz24_1
          try clear hcz24_10
          try clear hcz24_2
          try clear hcz24_3
          try clear hcz24_4
          try clear hcz24_5
          try clear hcz24_6
          try clear hcz24_7
          try clear hcz24_8
          try clear hcz24_9
          try clear hcz25_0
          try clear hcz25_1
          try clear hcz25_10
          try clear hcz25_2
          try clear hcz25_3
          try clear hcz25_4
          try clear hcz25_5
          try clear hcz25_6
          try clear hcz25_7
          try clear hcz25_8
          try clear hcz25_9
          try clear hcz27_0
          try clear hcz27_1
          try clear hcz27_10
          try clear hcz27_2
          try clear hcz27_3
          try clear hcz27_4
          try clear hcz27_5
          try clear hcz27_6
          try clear hcz27_7
          try clear hcz27_8
          try clear hcz27_9
          try clear hcz28_0
          try clear hcz28_1
          try clear hcz28_10
          try clear hcz28_2
          try clear hcz28_3
          try clear hcz28_4
          try clear hcz28_5
          try clear hcz28_6
          try clear hcz28_7
          try clear hcz28_8
          try clear hcz28_9
          try clear hcz30_0
          try clear hcz30_1
          try clear hcz30_10
          try clear hcz30_2
          try clear hcz30_3
          try clear hcz30_4
          try clear hcz30_5
          try clear hcz30_6
          try clear hcz30_7
          try clear hcz30_8
          try clear hcz30_9
          try clear hcz31_0
          try clear hcz31_1
          try clear hcz31_10
          try clear hcz31_2
          try clear hcz31_3
          try clear hcz31_4
          try clear hcz31_5
          try clear hcz31_6
          try clear hcz31_7
          try clear hcz31_8
          try clear hcz31_9
          try clear hcz33_0
          try clear hcz33_1
          try clear hcz33_10
          try clear hcz33_2
          try clear hcz33_3
          try clear hcz33_4
          try clear hcz33_5
          try clear hcz33_6
          try clear hcz33_7
          try clear hcz33_8
          try clear hcz33_9
          try clear hcz34_0
          try clear hcz34_1
          try clear hcz34_10
          try clear hcz34_2
          try clear hcz34_3
          try clear hcz34_4
          try clear hcz34_5
          try clear hcz34_6
          try clear hcz34_7
          try clear hcz34_8
          try clear hcz34_9
          try clear hcz36_0
          try clear hcz36_1
          try clear hcz36_10
          try clear hcz36_2
          try clear hcz36_3
          try clear hcz36_4
          try clear hcz36_5
          try clear hcz36_6
          try clear hcz36_7
          try clear hcz36_8
          try clear hcz36_9
          try clear hcz37_0
          try clear hcz37_1
          try clear hcz37_10
          try clear hcz37_2
          try clear hcz37_3
          try clear hcz37_4
          try clear hcz37_5
          try clear hcz37_6
          try clear hcz37_7
          try clear hcz37_8
          try clear hcz37_9
          try clear hcz39_0
          try clear hcz39_1
          try clear hcz39_10
          try clear hcz39_2
          try clear hcz39_3
          try clear hcz39_4
          try clear hcz39_5
          try clear hcz39_6
          try clear hcz39_7
          try clear hcz39_8
          try clear hcz39_9
          try clear hcz40_0
          try clear hcz40_1
          try clear hcz40_10
          try clear hcz40_2
          try clear hcz40_3
          try clear hcz40_4
          try clear hcz40_5
          try clear hcz40_6
          try clear hcz40_7
          try clear hcz40_8
          try clear hcz40_9
          try clear hcz42_0
          try clear hcz42_1
          try clear hcz42_10
          try clear hcz42_2
          try clear hcz42_3
          try clear hcz42_4
          try clear hcz42_5
          try clear hcz42_6
          try clear hcz42_7
          try clear hcz42_8
          try clear hcz42_9
          try clear hcz43_0
          try clear hcz43_1
          try clear hcz43_10
          try clear hcz43_2
          try clear hcz43_3
          try clear hcz43_4
          try clear hcz43_5
          try clear hcz43_6
          try clear hcz43_7
          try clear hcz43_8
          try clear hcz43_9
          try clear hcz45_0
          try clear hcz45_1
          try clear hcz45_10
          try clear hcz45_2
          try clear hcz45_3
          try clear hcz45_4
          try clear hcz45_5
          try clear hcz45_6
          try clear hcz45_7
          try clear hcz45_8
          try clear hcz45_9
          try clear hcz46_0
          try clear hcz46_1
          try clear hcz46_10
          try clear hcz46_2
          try clear hcz46_3
          try clear hcz46_4
          try clear hcz46_5
          try clear hcz46_6
          try clear hcz46_7
          try clear hcz46_8
          try clear hcz46_9
          try clear hcz48_0
          try clear hcz48_1
          try clear hcz48_10
          try clear hcz48_2
          try clear hcz48_3
          try clear hcz48_4
          try clear hcz48_5
          try clear hcz48_6
          try clear hcz48_7
          try clear hcz48_8
          try clear hcz48_9
          try clear hcz49_0
          try clear hcz49_1
          try clear hcz49_10
          try clear hcz49_2
          try clear hcz49_3
          try clear hcz49_4
          try clear hcz49_5
          try clear hcz49_6
          try clear hcz49_7
          try clear hcz49_8
          try clear hcz49_9
          try clear hfz18_0
          try clear hfz18_1
          try clear hfz18_10
          try clear hfz18_2
          try clear hfz18_3
          try clear hfz18_4
          try clear hfz18_5
          try clear hfz18_6
          try clear hfz18_7
          try clear hfz18_8
          try clear hfz18_9
          try clear hfz19_0
          try clear hfz19_1
          try clear hfz19_10
          try clear hfz19_2
          try clear hfz19_3
          try clear hfz19_4
          try clear hfz19_5
          try clear hfz19_6
          try clear hfz19_7
          try clear hfz19_8
          try clear hfz19_9
          try clear hfz21_0
          try clear hfz21_1
          try clear hfz21_10
          try clear hfz21_2
          try clear hfz21_3
          try clear hfz21_4
          try clear hfz21_5
          try clear hfz21_6
          try clear hfz21_7
          try clear hfz21_8
          try clear hfz21_9
          try clear hfz22_0
          try clear hfz22_1
          try clear hfz22_10
          try clear hfz22_2
          try clear hfz22_3
          try clear hfz22_4
          try clear hfz22_5
          try clear hfz22_6
          try clear hfz22_7
          try clear hfz22_8
          try clear hfz22_9
          try clear hfz24_0
          try clear hfz24_1
          try clear hfz24_10
          try clear hfz24_2
          try clear hfz24_3
          try clear hfz24_4
          try clear hfz24_5
          try clear hfz24_6
          try clear hfz24_7
          try clear hfz24_8
          try clear hfz24_9
          try clear hfz25_0
          try clear hfz25_1
          try clear hfz25_10
          try clear hfz25_2
          try clear hfz25_3
          try clear hfz25_4
          try clear hfz25_5
          try clear hfz25_6
          try clear hfz25_7
          try clear hfz25_8
          try clear hfz25_9
          try clear hfz27_0
          try clear hfz27_1
          try clear hfz27_10
          try clear hfz27_2
          try clear hfz27_3
          try clear hfz27_4
          try clear hfz27_5
          try clear hfz27_6
          try clear hfz27_7
          try clear hfz27_8
          try clear hfz27_9
          try clear hfz28_0
          try clear hfz28_1
          try clear hfz28_10
          try clear hfz28_2
          try clear hfz28_3
          try clear hfz28_4
          try clear hfz28_5
          try clear hfz28_6
          try clear hfz28_7
          try clear hfz28_8
          try clear hfz28_9
          try clear hfz30_0
          try clear hfz30_1
          try clear hfz30_10
          try clear hfz30_2
          try clear hfz30_3
          try clear hfz30_4
          try clear hfz30_5
          try clear hfz30_6
          try clear hfz30_7
          try clear hfz30_8
          try clear hfz30_9
          try clear hfz31_0
          try clear hfz31_1
          try clear hfz31_10
          try clear hfz31_2
          try clear hfz31_3
          try clear hfz31_4
          try clear hfz31_5
          try clear hfz31_6
          try clear hfz31_7
          try clear hfz31_8
          try clear hfz31_9
          try clear hfz33_0
          try clear hfz33_1
          try clear hfz33_10
          try clear hfz33_2
          try clear hfz33_3
          try clear hfz33_4
          try clear hfz33_5
          try clear hfz33_6
          try clear hfz33_7
          try clear hfz33_8
          try clear hfz33_9
          try clear hfz34_0
          try clear hfz34_1
          try clear hfz34_10
          try clear hfz34_2
          try clear hfz34_3
          try clear hfz34_4
          try clear hfz34_5
          try clear hfz34_6
          try clear hfz34_7
          try clear hfz34_8
          try clear hfz34_9
          try clear hfz36_0
          try clear hfz36_1
          try clear hfz36_10
          try clear hfz36_2
          try clear hfz36_3
          try clear hfz36_4
          try clear hfz36_5
          try clear hfz36_6
          try clear hfz36_7
          try clear hfz36_8
          try clear hfz36_9
          try clear hfz37_0
          try clear hfz37_1
          try clear hfz37_10
          try clear hfz37_2
          try clear hfz37_3
          try clear hfz37_4
          try clear hfz37_5
          try clear hfz37_6
          try clear hfz37_7
          try clear hfz37_8
          try clear hfz37_9
          try clear hfz39_0
          try clear hfz39_1
          try clear hfz39_10
          try clear hfz39_2
          try clear hfz39_3
          try clear hfz39_4
          try clear hfz39_5
          try clear hfz39_6
          try clear hfz39_7
          try clear hfz39_8
          try clear hfz39_9
          try clear hfz40_0
          try clear hfz40_1
          try clear hfz40_10
          try clear hfz40_2
          try clear hfz40_3
          try clear hfz40_4
          try clear hfz40_5
          try clear hfz40_6
          try clear hfz40_7
          try clear hfz40_8
          try clear hfz40_9
          try clear hfz42_0
          try clear hfz42_1
          try clear hfz42_10
          try clear hfz42_2
          try clear hfz42_3
          try clear hfz42_4
          try clear hfz42_5
          try clear hfz42_6
          try clear hfz42_7
          try clear hfz42_8
          try clear hfz42_9
          try clear hfz43_0
          try clear hfz43_1
          try clear hfz43_10
          try clear hfz43_2
          try clear hfz43_3
          try clear hfz43_4
          try clear hfz43_5
          try clear hfz43_6
          try clear hfz43_7
          try clear hfz43_8
          try clear hfz43_9
          try clear hfz45_0
          try clear hfz45_1
          try clear hfz45_10
          try clear hfz45_2
          try clear hfz45_3
          try clear hfz45_4
          try clear hfz45_5
          try clear hfz45_6
          try clear hfz45_7
          try clear hfz45_8
          try clear hfz45_9
          try clear hfz46_0
          try clear hfz46_1
          try clear hfz46_10
          try clear hfz46_2
          try clear hfz46_3
          try clear hfz46_4
          try clear hfz46_5
          try clear hfz46_6
          try clear hfz46_7
          try clear hfz46_8
          try clear hfz46_9
          try clear hfz48_0
          try clear hfz48_1
          try clear hfz48_10
          try clear hfz48_2
          try clear hfz48_3
          try clear hfz48_4
          try clear hfz48_5
          try clear hfz48_6
          try clear hfz48_7
          try clear hfz48_8
          try clear hfz48_9
          try clear hfz49_0
          try clear hfz49_1
          try clear hfz49_10
          try clear hfz49_2
          try clear hfz49_3
          try clear hfz49_4
          try clear hfz49_5
          try clear hfz49_6
          try clear hfz49_7
          try clear hfz49_8
          try clear hfz49_9
          try clear p2
          obtain ⟨x5_2, rfl, HA, HK2, BK180, BK181, HB⟩ := hrel
          cases gk with
          | zero => exact absurd HA.out (by simp [vinculumref28_Equal.l0])
          | succ k2 =>
            have H := HA.out
            clear HA
            simp only [vinculumref28_Equal.l0] at H
            by_cases c51 : x5_2 < (l0_8.length : Int)
            · rw [if_pos c51] at H
              have c51b0 : decide (x5_2 < (l0_8.length : Int)) = true := decide_eq_true c51
              clear c51
              by_cases c52 : 0 ≤ x5_2
              · rw [if_pos c52] at H
                have c52b0 : decide (0 ≤ x5_2) = true := decide_eq_true c52
                clear c52
                by_cases c53 : x5_2 < (l1_8.length : Int)
                · rw [if_pos c53] at H
                  have c53b0 : decide (x5_2 < (l1_8.length : Int)) = true := decide_eq_true c53
                  clear c53
                  replace H := Option.bind_eq_some_iff.mp H
                  obtain ⟨t185, A540, H⟩ := H
                  replace H : (if t185 = true then (vinculumref28_Equal.l0 k2 (wrap64 (x5_2 + 1)) a0_0 a0_1 a0_2 a0_3 a0_4 a0_5 a0_6 a0_7 l0_8 a0_9 l0_10 a1_0 a1_1 a1_2 a1_3 a1_4 a1_5 a1_6 a1_7 l1_8 a1_9 l1_10) else (some false)) = some r := H
                  have A54 := Aside0.mk A540
                  clear A540
                  by_cases c55 : t185 = true
                  · subst c55
                    have H1 : (vinculumref28_Equal.l0 k2 (wrap64 (x5_2 + 1)) a0_0 a0_1 a0_2 a0_3 a0_4 a0_5 a0_6 a0_7 l0_8 a0_9 l0_10 a1_0 a1_1 a1_2 a1_3 a1_4 a1_5 a1_6 a1_7 l1_8 a1_9 l1_10) = some r := by rw [if_pos rfl] at H; exact H
                    clear H
                    have H := H1
                    clear H1
                    have H' := Aside0.mk H
                    clear H
                    have hnb56 := NB180_181.out
                    have hnc56 := NB181_180.out
                    have hcz57_0 : wr.cell? ⟨gb180, 0, none⟩ = some (.int .i64 a0_0) := (blk_cell BK180.out 0).trans rfl
                    have hcz57_1 : wr.cell? ⟨gb180, 1, none⟩ = some (.string a0_1) := (blk_cell BK180.out 1).trans rfl
                    have hcz57_2 : wr.cell? ⟨gb180, 2, none⟩ = some (.int .i64 a0_2) := (blk_cell BK180.out 2).trans rfl
                    have hcz57_3 : wr.cell? ⟨gb180, 3, none⟩ = some (.int .i64 a0_3) := (blk_cell BK180.out 3).trans rfl
                    have hcz57_4 : wr.cell? ⟨gb180, 4, none⟩ = some (.int .i64 a0_4) := (blk_cell BK180.out 4).trans rfl
                    have hcz57_5 : wr.cell? ⟨gb180, 5, none⟩ = some (.int .i64 a0_5) := (blk_cell BK180.out 5).trans rfl
                    have hcz57_6 : wr.cell? ⟨gb180, 6, none⟩ = some (.int .i64 a0_6) := (blk_cell BK180.out 6).trans rfl
                    have hcz57_7 : wr.cell? ⟨gb180, 7, none⟩ = some (.int .i64 a0_7) := (blk_cell BK180.out 7).trans rfl
                    have hcz57_8 : wr.cell? ⟨gb180, 8, none⟩ = some (.slice A0_8 l0_8.length c0_8) := (blk_cell BK180.out 8).trans rfl
                    have hcz57_9 : wr.cell? ⟨gb180, 9, none⟩ = some (.int .i64 a0_9) := (blk_cell BK180.out 9).trans rfl
                    have hcz57_10 : wr.cell? ⟨gb180, 10, none⟩ = some (.slice A0_10 l0_10.length c0_10) := (blk_cell BK180.out 10).trans rfl
                    have hfz57_0 := blk_frozen BK180.out 0
                    have hfz57_1 := blk_frozen BK180.out 1
                    have hfz57_2 := blk_frozen BK180.out 2
                    have hfz57_3 := blk_frozen BK180.out 3
                    have hfz57_4 := blk_frozen BK180.out 4
                    have hfz57_5 := blk_frozen BK180.out 5
                    have hfz57_6 := blk_frozen BK180.out 6
                    have hfz57_7 := blk_frozen BK180.out 7
                    have hfz57_8 := blk_frozen BK180.out 8
                    have hfz57_9 := blk_frozen BK180.out 9
                    have hfz57_10 := blk_frozen BK180.out 10
                    try go_wp2
                    have n0_ := Aside0.mk (blk_drew BK180.out)
                    have n1_ := Aside0.mk (blk_drew BK181.out)
                    have n2_ := Aside0.mk (below_drew1 HB.out)
                    clear BK180
                    clear BK181
                    clear HB
                    have BK180 := n0_
                    have BK181 := n1_
                    have HB := n2_
                    clear n0_ n1_ n2_
                    have p183 : 0 ≤ (x5_2 : Int) := of_decide_eq_true (by first | (with_reducible assumption) | assumption)
                    have q183 : x5_2 < (l0_8.length : Int) := of_decide_eq_true (by first | (with_reducible assumption) | assumption)
                    obtain ⟨ad183, A183_8, c183_8, A183_10, c183_10, e183, hx183_0, hx183_1, hx183_2, hx183_3, hx183_4, hx183_5, hx183_6, hx183_7, hx183_8, hx183_9, hx183_10, hl183_8, hi183_8, hl183_10, hi183_10⟩ := at_T28 HR0_8.out x5_2 p183 q183
                    have hw183_10 := hx183_10
                    have hw183_9 := hx183_9
                    have hw183_8 := hx183_8
                    have hw183_7 := hx183_7
                    have hw183_6 := hx183_6
                    have hw183_5 := hx183_5
                    have hw183_4 := hx183_4
                    have hw183_3 := hx183_3
                    have hw183_2 := hx183_2
                    have hw183_1 := hx183_1
                    have hw183_0 := hx183_0
                    cases e183
                    replace hx183_0 := (HB.out.cell (World.block_lt_of_cell? w _ hx183_0)).trans hx183_0
                    replace hx183_1 := (HB.out.cell (World.block_lt_of_cell? w _ hx183_1)).trans hx183_1
                    replace hx183_2 := (HB.out.cell (World.block_lt_of_cell? w _ hx183_2)).trans hx183_2
                    replace hx183_3 := (HB.out.cell (World.block_lt_of_cell? w _ hx183_3)).trans hx183_3
                    replace hx183_4 := (HB.out.cell (World.block_lt_of_cell? w _ hx183_4)).trans hx183_4
                    replace hx183_5 := (HB.out.cell (World.block_lt_of_cell? w _ hx183_5)).trans hx183_5
                    replace hx183_6 := (HB.out.cell (World.block_lt_of_cell? w _ hx183_6)).trans hx183_6
                    replace hx183_7 := (HB.out.cell (World.block_lt_of_cell? w _ hx183_7)).trans hx183_7
                    replace hx183_8 := (HB.out.cell (World.block_lt_of_cell? w _ hx183_8)).trans hx183_8
                    replace hx183_9 := (HB.out.cell (World.block_lt_of_cell? w _ hx183_9)).trans hx183_9
                    replace hx183_10 := (HB.out.cell (World.block_lt_of_cell? w _ hx183_10)).trans hx183_10
                    have HR183_8 := Aside0.mk hi183_8
                    have HC183_8 := Aside0.mk hl183_8
                    clear hi183_8 hl183_8
                    have HR183_10 := Aside0.mk hi183_10
                    have HC183_10 := Aside0.mk hl183_10
                    clear hi183_10 hl183_10
                    replace p183 := eq_true p183
                    replace q183 := eq_true q183
                    have p184 : 0 ≤ (x5_2 : Int) := of_decide_eq_true (by first | (with_reducible assumption) | assumption)
                    have q184 : x5_2 < (l1_8.length : Int) := of_decide_eq_true (by first | (with_reducible assumption) | assumption)
                    obtain ⟨ad184, A184_8, c184_8, A184_10, c184_10, e184, hx184_0, hx184_1, hx184_2, hx184_3, hx184_4, hx184_5, hx184_6, hx184_7, hx184_8, hx184_9, hx184_10, hl184_8, hi184_8, hl184_10, hi184_10⟩ := at_T28 HR1_8.out x5_2 p184 q184
                    have hw184_10 := hx184_10
                    have hw184_9 := hx184_9
                    have hw184_8 := hx184_8
                    have hw184_7 := hx184_7
                    have hw184_6 := hx184_6
                    have hw184_5 := hx184_5
                    have hw184_4 := hx184_4
                    have hw184_3 := hx184_3
                    have hw184_2 := hx184_2
                    have hw184_1 := hx184_1
                    have hw184_0 := hx184_0
                    cases e184
                    replace hx184_0 := (HB.out.cell (World.block_lt_of_cell? w _ hx184_0)).trans hx184_0
                    replace hx184_1 := (HB.out.cell (World.block_lt_of_cell? w _ hx184_1)).trans hx184_1
                    replace hx184_2 := (HB.out.cell (World.block_lt_of_cell? w _ hx184_2)).trans hx184_2
                    replace hx184_3 := (HB.out.cell (World.block_lt_of_cell? w _ hx184_3)).trans hx184_3
                    replace hx184_4 := (HB.out.cell (World.block_lt_of_cell? w _ hx184_4)).trans hx184_4
                    replace hx184_5 := (HB.out.cell (World.block_lt_of_cell? w _ hx184_5)).trans hx184_5
                    replace hx184_6 := (HB.out.cell (World.block_lt_of_cell? w _ hx184_6)).trans hx184_6
                    replace hx184_7 := (HB.out.cell (World.block_lt_of_cell? w _ hx184_7)).trans hx184_7
                    replace hx184_8 := (HB.out.cell (World.block_lt_of_cell? w _ hx184_8)).trans hx184_8
                    replace hx184_9 := (HB.out.cell (World.block_lt_of_cell? w _ hx184_9)).trans hx184_9
                    replace hx184_10 := (HB.out.cell (World.block_lt_of_cell? w _ hx184_10)).trans hx184_10
                    have HR184_8 := Aside0.mk hi184_8
                    have HC184_8 := Aside0.mk hl184_8
                    clear hi184_8 hl184_8
                    have HR184_10 := Aside0.mk hi184_10
                    have HC184_10 := Aside0.mk hl184_10
                    clear hi184_10 hl184_10
                    replace p184 := eq_true p184
                    replace q184 := eq_true q184
                    refine start_ (n := 12) (S := fun w' => w'.cell? ⟨gb180, 0, none⟩ = some (.int .i64 a0_0) ∧ w'.cell? ⟨gb180, 1, none⟩ = some (.string a0_1) ∧ w'.cell? ⟨gb180, 2, none⟩ = some (.int .i64 a0_2) ∧ w'.cell? ⟨gb180, 3, none⟩ = some (.int .i64 a0_3) ∧ w'.cell? ⟨gb180, 4, none⟩ = some (.int .i64 a0_4) ∧ w'.cell? ⟨gb180, 5, none⟩ = some (.int .i64 a0_5) ∧ w'.cell? ⟨gb180, 6, none⟩ = some (.int .i64 a0_6) ∧ w'.cell? ⟨gb180, 7, none⟩ = some (.int .i64 a0_7) ∧ w'.cell? ⟨gb180, 8, none⟩ = some (.slice (some ad183) l0_8.length c0_8) ∧ w'.cell? ⟨gb180, 9, none⟩ = some (.int .i64 a0_9) ∧ w'.cell? ⟨gb180, 10, none⟩ = some (.slice A0_10 l0_10.length c0_10) ∧ w'.cell? ⟨gb181, 0, none⟩ = some (.int .i64 a1_0) ∧ w'.cell? ⟨gb181, 1, none⟩ = some (.string a1_1) ∧ w'.cell? ⟨gb181, 2, none⟩ = some (.int .i64 a1_2) ∧ w'.cell? ⟨gb181, 3, none⟩ = some (.int .i64 a1_3) ∧ w'.cell? ⟨gb181, 4, none⟩ = some (.int .i64 a1_4) ∧ w'.cell? ⟨gb181, 5, none⟩ = some (.int .i64 a1_5) ∧ w'.cell? ⟨gb181, 6, none⟩ = some (.int .i64 a1_6) ∧ w'.cell? ⟨gb181, 7, none⟩ = some (.int .i64 a1_7) ∧ w'.cell? ⟨gb181, 8, none⟩ = some (.slice (some ad184) l1_8.length c1_8) ∧ w'.cell? ⟨gb181, 9, none⟩ = some (.int .i64 a1_9) ∧ w'.cell? ⟨gb181, 10, none⟩ = some (.slice A1_10 l1_10.length c1_10) ∧ w'.cell? (ad183.add ((x5_2).toNat * 11)) = some (.int .i64 ((rd_T28 l0_8 x5_2).f0)) ∧ w'.cell? ⟨(ad183.add ((x5_2).toNat * 11)).block, (ad183.add ((x5_2).toNat * 11)).off + 1, none⟩ = some (.string ((rd_T28 l0_8 x5_2).f1)) ∧ w'.cell? ⟨(ad183.add ((x5_2).toNat * 11)).block, (ad183.add ((x5_2).toNat * 11)).off + 2, none⟩ = some (.int .i64 ((rd_T28 l0_8 x5_2).f2)) ∧ w'.cell? ⟨(ad183.add ((x5_2).toNat * 11)).block, (ad183.add ((x5_2).toNat * 11)).off + 3, none⟩ = some (.int .i64 ((rd_T28 l0_8 x5_2).f3)) ∧ w'.cell? ⟨(ad183.add ((x5_2).toNat * 11)).block, (ad183.add ((x5_2).toNat * 11)).off + 4, none⟩ = some (.int .i64 ((rd_T28 l0_8 x5_2).f4)) ∧ w'.cell? ⟨(ad183.add ((x5_2).toNat * 11)).block, (ad183.add ((x5_2).toNat * 11)).off + 5, none⟩ = some (.int .i64 ((rd_T28 l0_8 x5_2).f5)) ∧ w'.cell? ⟨(ad183.add ((x5_2).toNat * 11)).block, (ad183.add ((x5_2).toNat * 11)).off + 6, none⟩ = some (.int .i64 ((rd_T28 l0_8 x5_2).f6)) ∧ w'.cell? ⟨(ad183.add ((x5_2).toNat * 11)).block, (ad183.add ((x5_2).toNat * 11)).off + 7, none⟩ = some (.int .i64 ((rd_T28 l0_8 x5_2).f7)) ∧ w'.cell? ⟨(ad183.add ((x5_2).toNat * 11)).block, (ad183.add ((x5_2).toNat * 11)).off + 8, none⟩ = some (.slice A183_8 ((rd_T28 l0_8 x5_2).f8).length c183_8) ∧ w'.cell? ⟨(ad183.add ((x5_2).toNat * 11)).block, (ad183.add ((x5_2).toNat * 11)).off + 9, none⟩ = some (.int .i64 ((rd_T28 l0_8 x5_2).f9)) ∧ w'.cell? ⟨(ad183.add ((x5_2).toNat * 11)).block, (ad183.add ((x5_2).toNat * 11)).off + 10, none⟩ = some (.slice A183_10 ((rd_T28 l0_8 x5_2).f10).length c183_10) ∧ w'.cell? (ad184.add ((x5_2).toNat * 11)) = some (.int .i64 ((rd_T28 l1_8 x5_2).f0)) ∧ w'.cell? ⟨(ad184.add ((x5_2).toNat * 11)).block, (ad184.add ((x5_2).toNat * 11)).off + 1, none⟩ = some (.string ((rd_T28 l1_8 x5_2).f1)) ∧ w'.cell? ⟨(ad184.add ((x5_2).toNat * 11)).block, (ad184.add ((x5_2).toNat * 11)).off + 2, none⟩ = some (.int .i64 ((rd_T28 l1_8 x5_2).f2)) ∧ w'.cell? ⟨(ad184.add ((x5_2).toNat * 11)).block, (ad184.add ((x5_2).toNat * 11)).off + 3, none⟩ = some (.int .i64 ((rd_T28 l1_8 x5_2).f3)) ∧ w'.cell? ⟨(ad184.add ((x5_2).toNat * 11)).block, (ad184.add ((x5_2).toNat * 11)).off + 4, none⟩ = some (.int .i64 ((rd_T28 l1_8 x5_2).f4)) ∧ w'.cell? ⟨(ad184.add ((x5_2).toNat * 11)).block, (ad184.add ((x5_2).toNat * 11)).off + 5, none⟩ = some (.int .i64 ((rd_T28 l1_8 x5_2).f5)) ∧ w'.cell? ⟨(ad184.add ((x5_2).toNat * 11)).block, (ad184.add ((x5_2).toNat * 11)).off + 6, none⟩ = some (.int .i64 ((rd_T28 l1_8 x5_2).f6)) ∧ w'.cell? ⟨(ad184.add ((x5_2).toNat * 11)).block, (ad184.add ((x5_2).toNat * 11)).off + 7, none⟩ = some (.int .i64 ((rd_T28 l1_8 x5_2).f7)) ∧ w'.cell? ⟨(ad184.add ((x5_2).toNat * 11)).block, (ad184.add ((x5_2).toNat * 11)).off + 8, none⟩ = some (.slice A184_8 ((rd_T28 l1_8 x5_2).f8).length c184_8) ∧ w'.cell? ⟨(ad184.add ((x5_2).toNat * 11)).block, (ad184.add ((x5_2).toNat * 11)).off + 9, none⟩ = some (.int .i64 ((rd_T28 l1_8 x5_2).f9)) ∧ w'.cell? ⟨(ad184.add ((x5_2).toNat * 11)).block, (ad184.add ((x5_2).toNat * 11)).off + 10, none⟩ = some (.slice A184_10 ((rd_T28 l1_8 x5_2).f10).length c184_10)) (ds := []) #[false, false, false, false, false, false, false, false, false, false, false, false] (by kernel_rfl) rfl rfl ⟨(blk_cell BK180.out 0).trans rfl, (blk_cell BK180.out 1).trans rfl, (blk_cell BK180.out 2).trans rfl, (blk_cell BK180.out 3).trans rfl, (blk_cell BK180.out 4).trans rfl, (blk_cell BK180.out 5).trans rfl, (blk_cell BK180.out 6).trans rfl, (blk_cell BK180.out 7).trans rfl, (blk_cell BK180.out 8).trans rfl, (blk_cell BK180.out 9).trans rfl, (blk_cell BK180.out 10).trans rfl, (blk_cell BK181.out 0).trans rfl, (blk_cell BK181.out 1).trans rfl, (blk_cell BK181.out 2).trans rfl, (blk_cell BK181.out 3).trans rfl, (blk_cell BK181.out 4).trans rfl, (blk_cell BK181.out 5).trans rfl, (blk_cell BK181.out 6).trans rfl, (blk_cell BK181.out 7).trans rfl, (blk_cell BK181.out 8).trans rfl, (blk_cell BK181.out 9).trans rfl, (blk_cell BK181.out 10).trans rfl, ((HB.out.cell (World.block_lt_of_cell? w _ hw183_0)).trans hw183_0), ((HB.out.cell (World.block_lt_of_cell? w _ hw183_1)).trans hw183_1), ((HB.out.cell (World.block_lt_of_cell? w _ hw183_2)).trans hw183_2), ((HB.out.cell (World.block_lt_of_cell? w _ hw183_3)).trans hw183_3), ((HB.out.cell (World.block_lt_of_cell? w _ hw183_4)).trans hw183_4), ((HB.out.cell (World.block_lt_of_cell? w _ hw183_5)).trans hw183_5), ((HB.out.cell (World.block_lt_of_cell? w _ hw183_6)).trans hw183_6), ((HB.out.cell (World.block_lt_of_cell? w _ hw183_7)).trans hw183_7), ((HB.out.cell (World.block_lt_of_cell? w _ hw183_8)).trans hw183_8), ((HB.out.cell (World.block_lt_of_cell? w _ hw183_9)).trans hw183_9), ((HB.out.cell (World.block_lt_of_cell? w _ hw183_10)).trans hw183_10), ((HB.out.cell (World.block_lt_of_cell? w _ hw184_0)).trans hw184_0), ((HB.out.cell (World.block_lt_of_cell? w _ hw184_1)).trans hw184_1), ((HB.out.cell (World.block_lt_of_cell? w _ hw184_2)).trans hw184_2), ((HB.out.cell (World.block_lt_of_cell? w _ hw184_3)).trans hw184_3), ((HB.out.cell (World.block_lt_of_cell? w _ hw184_4)).trans hw184_4), ((HB.out.cell (World.block_lt_of_cell? w _ hw184_5)).trans hw184_5), ((HB.out.cell (World.block_lt_of_cell? w _ hw184_6)).trans hw184_6), ((HB.out.cell (World.block_lt_of_cell? w _ hw184_7)).trans hw184_7), ((HB.out.cell (World.block_lt_of_cell? w _ hw184_8)).trans hw184_8), ((HB.out.cell (World.block_lt_of_cell? w _ hw184_9)).trans hw184_9), ((HB.out.cell (World.block_lt_of_cell? w _ hw184_10)).trans hw184_10)⟩ (fun hHeld => ?_); refine with_tabW vinculumref28_Equal.tab6 vinculumref28_Equal.bits6 (fun HT_ HW_ => ?_)
                    generalize wr.drew = w58 at BK180 BK181 HB HR183_10 HR183_8 HR184_10 HR184_8 hx183_0 hx183_1 hx183_10 hx183_2 hx183_3 hx183_4 hx183_5 hx183_6 hx183_7 hx183_8 hx183_9 hx184_0 hx184_1 hx184_10 hx184_2 hx184_3 hx184_4 hx184_5 hx184_6 hx184_7 hx184_8 hx184_9 hHeld ⊢
                    refine pure_ (i := 0) (N := some 91) (v := ?_) (a' := ?_) #[true, false, false, false, false, false, false, false, false, false, false, false] rfl rfl (any_of HT_.out (by kernel_rfl)) (fun _ _ _ h => h) (Or.inl ⟨by rfl, ?_⟩) ?_ ?_
                    rotate_left
                    · intro w'
                      go_simp
                      with_reducible rfl
                    rotate_left
                    · simp only [Act.put, List.setIfInBounds_toArray, List.set_cons_zero, List.set_cons_succ, i64_w, i32_w]
                      rfl
                    refine pure_ (i := 2) (N := some 93) (v := ?_) (a' := ?_) #[true, false, true, false, false, false, false, false, false, false, false, false] rfl rfl (any_of HT_.out (by kernel_rfl)) (fun _ _ _ h => h) (Or.inl ⟨by rfl, ?_⟩) ?_ ?_
                    rotate_left
                    · intro w'
                      go_simp
                      with_reducible rfl
                    rotate_left
                    · simp only [Act.put, List.setIfInBounds_toArray, List.set_cons_zero, List.set_cons_succ, i64_w, i32_w]
                      rfl
                    refine pure_ (i := 5) (N := some 96) (v := ?_) (a' := ?_) #[true, false, true, false, false, true, false, false, false, false, false, false] rfl rfl (any_of HT_.out (by kernel_rfl)) (fun _ _ _ h => h) (Or.inl ⟨by rfl, ?_⟩) ?_ ?_
                    rotate_left
                    · intro w'
                      go_simp
                      with_reducible rfl
                    rotate_left
                    · simp only [Act.put, List.setIfInBounds_toArray, List.set_cons_zero, List.set_cons_succ, i64_w, i32_w]
                      rfl
                    refine pure_ (i := 7) (N := some 98) (v := ?_) (a' := ?_) #[true, false, true, false, false, true, false, true, false, false, false, false] rfl rfl (any_of HT_.out (by kernel_rfl)) (fun _ _ _ h => h) (Or.inl ⟨by rfl, ?_⟩) ?_ ?_
                    rotate_left
                    · intro w'
                      go_simp
                      with_reducible rfl
                    rotate_left
                    · simp only [Act.put, List.setIfInBounds_toArray, List.set_cons_zero, List.set_cons_succ, i64_w, i32_w]
                      rfl
                    refine take_ (i := 1) (N := some 92) (v := ?_) (a' := ?_) #[true, true, true, false, false, true, false, true, false, false, false, false] rfl rfl (take_ofW HT_.out HW_.out (by kernel_rfl)) (fun _ _ _ h => h) (Or.inl ⟨by rfl, ?_⟩) hHeld ?_ ?_
                    rotate_left
                    · rintro w' ⟨s0, s1, s2, s3, s4, s5, s6, s7, s8, s9, s10, s11, s12, s13, s14, s15, s16, s17, s18, s19, s20, s21, s22, s23, s24, s25, s26, s27, s28, s29, s30, s31, s32, s33, s34, s35, s36, s37, s38, s39, s40, s41, s42, s43⟩
                      go_simp
                      with_reducible rfl
                    rotate_left
                    · simp only [Act.put, List.setIfInBounds_toArray, List.set_cons_zero, List.set_cons_succ, i64_w, i32_w]
                      rfl
                    refine pure_ (i := 3) (N := some 94) (v := ?_) (a' := ?_) #[true, true, true, true, false, true, false, true, false, false, false, false] rfl rfl (any_of HT_.out (by kernel_rfl)) (fun _ _ _ h => h) (Or.inl ⟨by rfl, ?_⟩) ?_ ?_
                    rotate_left
                    · intro w'
                      go_simp
                      with_reducible rfl
                    rotate_left
                    · simp only [Act.put, List.setIfInBounds_toArray, List.set_cons_zero, List.set_cons_succ, i64_w, i32_w]
                      rfl
                    refine take_ (i := 4) (N := some 95) (v := ?_) (a' := ?_) #[true, true, true, true, true, true, false, true, false, false, false, false] rfl rfl (take_ofW HT_.out HW_.out (by kernel_rfl)) (fun _ _ _ h => h) (Or.inl ⟨by rfl, ?_⟩) hHeld ?_ ?_
                    rotate_left
                    · rintro w' ⟨s0, s1, s2, s3, s4, s5, s6, s7, s8, s9, s10, s11, s12, s13, s14, s15, s16, s17, s18, s19, s20, s21, s22, s23, s24, s25, s26, s27, s28, s29, s30, s31, s32, s33, s34, s35, s36, s37, s38, s39, s40, s41, s42, s43⟩
                      go_simp
                      with_reducible rfl
                    rotate_left
                    · simp only [Act.put, List.setIfInBounds_toArray, List.set_cons_zero, List.set_cons_succ, i64_w, i32_w]
                      rfl
                    refine take_ (i := 6) (N := some 97) (v := ?_) (a' := ?_) #[true, true, true, true, true, true, true, true, false, false, false, false] rfl rfl (take_ofW HT_.out HW_.out (by kernel_rfl)) (fun _ _ _ h => h) (Or.inl ⟨by rfl, ?_⟩) hHeld ?_ ?_
                    rotate_left
                    · rintro w' ⟨s0, s1, s2, s3, s4, s5, s6, s7, s8, s9, s10, s11, s12, s13, s14, s15, s16, s17, s18, s19, s20, s21, s22, s23, s24, s25, s26, s27, s28, s29, s30, s31, s32, s33, s34, s35, s36, s37, s38, s39, s40, s41, s42, s43⟩
                      go_simp
                      with_reducible rfl
                    rotate_left
                    · simp only [Act.put, List.setIfInBounds_toArray, List.set_cons_zero, List.set_cons_succ, i64_w, i32_w]
                      rfl
                    refine pure_ (i := 8) (N := some 99) (v := ?_) (a' := ?_) #[true, true, true, true, true, true, true, true, true, false, false, false] rfl rfl (any_of HT_.out (by kernel_rfl)) (fun _ _ _ h => h) (Or.inl ⟨by rfl, ?_⟩) ?_ ?_
                    rotate_left
                    · intro w'
                      go_simp
                      with_reducible rfl
                    rotate_left
                    · simp only [Act.put, List.setIfInBounds_toArray, List.set_cons_zero, List.set_cons_succ, i64_w, i32_w]
                      rfl
                    refine take_ (i := 9) (N := some 100) (v := ?_) (a' := ?_) #[true, true, true, true, true, true, true, true, true, true, false, false] rfl rfl (take_ofW HT_.out HW_.out (by kernel_rfl)) (fun _ _ _ h => h) (Or.inl ⟨by rfl, ?_⟩) hHeld ?_ ?_
                    rotate_left
                    · rintro w' ⟨s0, s1, s2, s3, s4, s5, s6, s7, s8, s9, s10, s11, s12, s13, s14, s15, s16, s17, s18, s19, s20, s21, s22, s23, s24, s25, s26, s27, s28, s29, s30, s31, s32, s33, s34, s35, s36, s37, s38, s39, s40, s41, s42, s43⟩
                      go_simp
                      with_reducible rfl
                    rotate_left
                    · simp only [Act.put, List.setIfInBounds_toArray, List.set_cons_zero, List.set_cons_succ, i64_w, i32_w]
                      rfl
                    refine one_ (i := 10) (N := some 101) #[true, true, true, true, true, true, true, true, true, true, true, false] rfl rfl (one_of HT_.out (by kernel_rfl)) (by decide) (fun K hK => ?_)
                    refine goes_ Try.func17 (by kernel_rfl) rfl #[.agg #[.int .i64 ((rd_T28 l0_8 x5_2).f0), .string ((rd_T28 l0_8 x5_2).f1), .int .i64 ((rd_T28 l0_8 x5_2).f2), .int .i64 ((rd_T28 l0_8 x5_2).f3), .int .i64 ((rd_T28 l0_8 x5_2).f4), .int .i64 ((rd_T28 l0_8 x5_2).f5), .int .i64 ((rd_T28 l0_8 x5_2).f6), .int .i64 ((rd_T28 l0_8 x5_2).f7), .slice A183_8 ((rd_T28 l0_8 x5_2).f8).length c183_8, .int .i64 ((rd_T28 l0_8 x5_2).f9), .slice A183_10 ((rd_T28 l0_8 x5_2).f10).length c183_10], .agg #[.int .i64 ((rd_T28 l1_8 x5_2).f0), .string ((rd_T28 l1_8 x5_2).f1), .int .i64 ((rd_T28 l1_8 x5_2).f2), .int .i64 ((rd_T28 l1_8 x5_2).f3), .int .i64 ((rd_T28 l1_8 x5_2).f4), .int .i64 ((rd_T28 l1_8 x5_2).f5), .int .i64 ((rd_T28 l1_8 x5_2).f6), .int .i64 ((rd_T28 l1_8 x5_2).f7), .slice A184_8 ((rd_T28 l1_8 x5_2).f8).length c184_8, .int .i64 ((rd_T28 l1_8 x5_2).f9), .slice A184_10 ((rd_T28 l1_8 x5_2).f10).length c184_10]] (by rfl) rfl rfl (by (try simp only [List.map_toArray, List.map_cons, List.map_nil]); first | done | rfl | (simp only [List.length_drop, List.length_take]; rfl)) ?_
                    with_reducible refine (ih k2 (by have := HJ2.out; have := HK2.out; omega) ((rd_T28 l0_8 x5_2).f0) ((rd_T28 l0_8 x5_2).f1) ((rd_T28 l0_8 x5_2).f2) ((rd_T28 l0_8 x5_2).f3) ((rd_T28 l0_8 x5_2).f4) ((rd_T28 l0_8 x5_2).f5) ((rd_T28 l0_8 x5_2).f6) ((rd_T28 l0_8 x5_2).f7) _ _ ((rd_T28 l0_8 x5_2).f8) ((rd_T28 l0_8 x5_2).f9) _ _ ((rd_T28 l0_8 x5_2).f10) ((rd_T28 l1_8 x5_2).f0) ((rd_T28 l1_8 x5_2).f1) ((rd_T28 l1_8 x5_2).f2) ((rd_T28 l1_8 x5_2).f3) ((rd_T28 l1_8 x5_2).f4) ((rd_T28 l1_8 x5_2).f5) ((rd_T28 l1_8 x5_2).f6) ((rd_T28 l1_8 x5_2).f7) _ _ ((rd_T28 l1_8 x5_2).f8) ((rd_T28 l1_8 x5_2).f9) _ _ ((rd_T28 l1_8 x5_2).f10) true _ ?side1 ?side2 ?side3 ?side4 ?side5 ?side6 ?side7 ?side8 A54.out).mono ?_
                    (case side1 => repeat (first | exact (Kd.C_below HR183_8.out HB.out) | (with_reducible refine Kd.C_alloc ?_ _) | (with_reducible refine Kd.C_drewN ?_ _) | (with_reducible refine Kd.C_drew ?_)))
                    (case side2 => exact HC183_8.out)
                    (case side3 => repeat (first | exact (Kd.C_below HR183_10.out HB.out) | (with_reducible refine Kd.C_alloc ?_ _) | (with_reducible refine Kd.C_drewN ?_ _) | (with_reducible refine Kd.C_drew ?_)))
                    (case side4 => exact HC183_10.out)
                    (case side5 => repeat (first | exact (Kd.C_below HR184_8.out HB.out) | (with_reducible refine Kd.C_alloc ?_ _) | (with_reducible refine Kd.C_drewN ?_ _) | (with_reducible refine Kd.C_drew ?_)))
                    (case side6 => exact HC184_8.out)
                    (case side7 => repeat (first | exact (Kd.C_below HR184_10.out HB.out) | (with_reducible refine Kd.C_alloc ?_ _) | (with_reducible refine Kd.C_drewN ?_ _) | (with_reducible refine Kd.C_drew ?_)))
                    (case side8 => exact HC184_10.out)
                    rintro e w59 ⟨rfl, hb⟩
                    refine ⟨_, rfl, ?_⟩
                    have n0_ := Aside0.mk (blk_below (g := gb180) (o := .cells #[.int .i64 a0_0, .string a0_1, .int .i64 a0_2, .int .i64 a0_3, .int .i64 a0_4, .int .i64 a0_5, .int .i64 a0_6, .int .i64 a0_7, .slice (some ad183) l0_8.length c0_8, .int .i64 a0_9, .slice A0_10 l0_10.length c0_10] 28 (0, 0)) (by (with_reducible repeat (first | refine blk_drewN ?_ _ | refine blk_drew ?_ | refine blk_alloc ?_ _)); exact BK180.out) hb)
                    have n1_ := Aside0.mk (blk_below (g := gb181) (o := .cells #[.int .i64 a1_0, .string a1_1, .int .i64 a1_2, .int .i64 a1_3, .int .i64 a1_4, .int .i64 a1_5, .int .i64 a1_6, .int .i64 a1_7, .slice (some ad184) l1_8.length c1_8, .int .i64 a1_9, .slice A1_10 l1_10.length c1_10] 28 (0, 0)) (by (with_reducible repeat (first | refine blk_drewN ?_ _ | refine blk_drew ?_ | refine blk_alloc ?_ _)); exact BK181.out) hb)
                    have n2_ := Aside0.mk (below_step (by repeat (first | (with_reducible first | exact HB.out | apply below_alloc | apply pw_below_drewN | apply below_drew1 | refine below_set ?_ GE180.out | refine below_set ?_ GE181.out) | exact HB.out)) hb)
                    clear BK180
                    clear BK181
                    clear HB
                    have BK180 := n0_
                    have BK181 := n1_
                    have HB := n2_
                    clear n0_ n1_ n2_
                    (try clear hb)
                    (try clear hb2)
                    (try clear hk)
                    (try clear hi)
                    refine hK.out _ _ ⟨(blk_cell BK180.out 0).trans rfl, (blk_cell BK180.out 1).trans rfl, (blk_cell BK180.out 2).trans rfl, (blk_cell BK180.out 3).trans rfl, (blk_cell BK180.out 4).trans rfl, (blk_cell BK180.out 5).trans rfl, (blk_cell BK180.out 6).trans rfl, (blk_cell BK180.out 7).trans rfl, (blk_cell BK180.out 8).trans rfl, (blk_cell BK180.out 9).trans rfl, (blk_cell BK180.out 10).trans rfl, (blk_cell BK181.out 0).trans rfl, (blk_cell BK181.out 1).trans rfl, (blk_cell BK181.out 2).trans rfl, (blk_cell BK181.out 3).trans rfl, (blk_cell BK181.out 4).trans rfl, (blk_cell BK181.out 5).trans rfl, (blk_cell BK181.out 6).trans rfl, (blk_cell BK181.out 7).trans rfl, (blk_cell BK181.out 8).trans rfl, (blk_cell BK181.out 9).trans rfl, (blk_cell BK181.out 10).trans rfl, ((HB.out.cell (World.block_lt_of_cell? w _ hw183_0)).trans hw183_0), ((HB.out.cell (World.block_lt_of_cell? w _ hw183_1)).trans hw183_1), ((HB.out.cell (World.block_lt_of_cell? w _ hw183_2)).trans hw183_2), ((HB.out.cell (World.block_lt_of_cell? w _ hw183_3)).trans hw183_3), ((HB.out.cell (World.block_lt_of_cell? w _ hw183_4)).trans hw183_4), ((HB.out.cell (World.block_lt_of_cell? w _ hw183_5)).trans hw183_5), ((HB.out.cell (World.block_lt_of_cell? w _ hw183_6)).trans hw183_6), ((HB.out.cell (World.block_lt_of_cell? w _ hw183_7)).trans hw183_7), ((HB.out.cell (World.block_lt_of_cell? w _ hw183_8)).trans hw183_8), ((HB.out.cell (World.block_lt_of_cell? w _ hw183_9)).trans hw183_9), ((HB.out.cell (World.block_lt_of_cell? w _ hw183_10)).trans hw183_10), ((HB.out.cell (World.block_lt_of_cell? w _ hw184_0)).trans hw184_0), ((HB.out.cell (World.block_lt_of_cell? w _ hw184_1)).trans hw184_1), ((HB.out.cell (World.block_lt_of_cell? w _ hw184_2)).trans hw184_2), ((HB.out.cell (World.block_lt_of_cell? w _ hw184_3)).trans hw184_3), ((HB.out.cell (World.block_lt_of_cell? w _ hw184_4)).trans hw184_4), ((HB.out.cell (World.block_lt_of_cell? w _ hw184_5)).trans hw184_5), ((HB.out.cell (World.block_lt_of_cell? w _ hw184_6)).trans hw184_6), ((HB.out.cell (World.block_lt_of_cell? w _ hw184_7)).trans hw184_7), ((HB.out.cell (World.block_lt_of_cell? w _ hw184_8)).trans hw184_8), ((HB.out.cell (World.block_lt_of_cell? w _ hw184_9)).trans hw184_9), ((HB.out.cell (World.block_lt_of_cell? w _ hw184_10)).trans hw184_10)⟩ (fun hHeld => ?_)
                    clear hK K
                    refine norm_ (a' := ?_) ?_ ?_
                    rotate_left
                    · show Act.put _ (some 101) _ = _
                      simp only [Act.put, List.setIfInBounds_toArray, List.set_cons_zero, List.set_cons_succ, i64_w, i32_w]
                      rfl
                    refine pure_ (i := 11) (N := some 102) (v := ?_) (a' := ?_) #[true, true, true, true, true, true, true, true, true, true, true, true] rfl rfl (any_of HT_.out (by kernel_rfl)) (fun _ _ _ h => h) (Or.inl ⟨by rfl, ?_⟩) ?_ ?_
                    rotate_left
                    · intro w'
                      go_simp
                      with_reducible rfl
                    rotate_left
                    · simp only [Act.put, List.setIfInBounds_toArray, List.set_cons_zero, List.set_cons_succ, i64_w, i32_w]
                      rfl
                    refine done_ (done_of HT_.out (by kernel_rfl)) ?_
                    try go_wp2
                    go_roundg k2
                    case measure => have := HJ2.out; have := HK2.out; omega
                    case rel => exact ⟨(wrap64 (x5_2 + 1)), (by first | rfl | (simp; done) | (simp [*]; done)), H', ⟨by have := HJ2.out; have := HK2.out; omega⟩, ⟨by (with_reducible repeat (first | refine blk_drewN ?_ _ | refine blk_drew ?_ | refine blk_alloc ?_ _)); exact BK180.out⟩, ⟨by (with_reducible repeat (first | refine blk_drewN ?_ _ | refine blk_drew ?_ | refine blk_alloc ?_ _)); exact BK181.out⟩, ⟨by repeat (first | (with_reducible first | exact HB.out | apply below_alloc | apply pw_below_drewN | apply below_drew1 | refine below_set ?_ GE180.out | refine below_set ?_ GE181.out) | exact HB.out)⟩⟩
                  · replace c55 := Bool.eq_false_iff.mpr c55
                    subst c55
                    have H1 : (some false) = some r := by rw [if_neg (show ¬ (false = true) by decide)] at H; exact H
                    clear H
                    have H := H1
                    clear H1
                    obtain rfl := Option.some.inj H
                    have hnb60 := NB180_181.out
                    have hnc60 := NB181_180.out
                    have hcz61_0 : wr.cell? ⟨gb180, 0, none⟩ = some (.int .i64 a0_0) := (blk_cell BK180.out 0).trans rfl
                    have hcz61_1 : wr.cell? ⟨gb180, 1, none⟩ = some (.string a0_1) := (blk_cell BK180.out 1).trans rfl
                    have hcz61_2 : wr.cell? ⟨gb180, 2, none⟩ = some (.int .i64 a0_2) := (blk_cell BK180.out 2).trans rfl
                    have hcz61_3 : wr.cell? ⟨gb180, 3, none⟩ = some (.int .i64 a0_3) := (blk_cell BK180.out 3).trans rfl
                    have hcz61_4 : wr.cell? ⟨gb180, 4, none⟩ = some (.int .i64 a0_4) := (blk_cell BK180.out 4).trans rfl
                    have hcz61_5 : wr.cell? ⟨gb180, 5, none⟩ = some (.int .i64 a0_5) := (blk_cell BK180.out 5).trans rfl
                    have hcz61_6 : wr.cell? ⟨gb180, 6, none⟩ = some (.int .i64 a0_6) := (blk_cell BK180.out 6).trans rfl
                    have hcz61_7 : wr.cell? ⟨gb180, 7, none⟩ = some (.int .i64 a0_7) := (blk_cell BK180.out 7).trans rfl
                    have hcz61_8 : wr.cell? ⟨gb180, 8, none⟩ = some (.slice A0_8 l0_8.length c0_8) := (blk_cell BK180.out 8).trans rfl
                    have hcz61_9 : wr.cell? ⟨gb180, 9, none⟩ = some (.int .i64 a0_9) := (blk_cell BK180.out 9).trans rfl
                    have hcz61_10 : wr.cell? ⟨gb180, 10, none⟩ = some (.slice A0_10 l0_10.length c0_10) := (blk_cell BK180.out 10).trans rfl
                    have hfz61_0 := blk_frozen BK180.out 0
                    have hfz61_1 := blk_frozen BK180.out 1
                    have hfz61_2 := blk_frozen BK180.out 2
                    have hfz61_3 := blk_frozen BK180.out 3
                    have hfz61_4 := blk_frozen BK180.out 4
                    have hfz61_5 := blk_frozen BK180.out 5
                    have hfz61_6 := blk_frozen BK180.out 6
                    have hfz61_7 := blk_frozen BK180.out 7
                    have hfz61_8 := blk_frozen BK180.out 8
                    have hfz61_9 := blk_frozen BK180.out 9
                    have hfz61_10 := blk_frozen BK180.out 10
                    try go_wp2
                    have n0_ := Aside0.mk (blk_drew BK180.out)
                    have n1_ := Aside0.mk (blk_drew BK181.out)
                    have n2_ := Aside0.mk (below_drew1 HB.out)
                    clear BK180
                    clear BK181
                    clear HB
                    have BK180 := n0_
                    have BK181 := n1_
                    have HB := n2_
                    clear n0_ n1_ n2_
                    have p183 : 0 ≤ (x5_2 : Int) := of_decide_eq_true (by first | (with_reducible assumption) | assumption)
                    have q183 : x5_2 < (l0_8.length : Int) := of_decide_eq_true (by first | (with_reducible assumption) | assumption)
                    obtain ⟨ad183, A183_8, c183_8, A183_10, c183_10, e183, hx183_0, hx183_1, hx183_2, hx183_3, hx183_4, hx183_5, hx183_6, hx183_7, hx183_8, hx183_9, hx183_10, hl183_8, hi183_8, hl183_10, hi183_10⟩ := at_T28 HR0_8.out x5_2 p183 q183
                    have hw183_10 := hx183_10
                    have hw183_9 := hx183_9
                    have hw183_8 := hx183_8
                    have hw183_7 := hx183_7
                    have hw183_6 := hx183_6
                    have hw183_5 := hx183_5
                    have hw183_4 := hx183_4
                    have hw183_3 := hx183_3
                    have hw183_2 := hx183_2
                    have hw183_1 := hx183_1
                    have hw183_0 := hx183_0
                    cases e183
                    replace hx183_0 := (HB.out.cell (World.block_lt_of_cell? w _ hx183_0)).trans hx183_0
                    replace hx183_1 := (HB.out.cell (World.block_lt_of_cell? w _ hx183_1)).trans hx183_1
                    replace hx183_2 := (HB.out.cell (World.block_lt_of_cell? w _ hx183_2)).trans hx183_2
                    replace hx183_3 := (HB.out.cell (World.block_lt_of_cell? w _ hx183_3)).trans hx183_3
                    replace hx183_4 := (HB.out.cell (World.block_lt_of_cell? w _ hx183_4)).trans hx183_4
                    replace hx183_5 := (HB.out.cell (World.block_lt_of_cell? w _ hx183_5)).trans hx183_5
                    replace hx183_6 := (HB.out.cell (World.block_lt_of_cell? w _ hx183_6)).trans hx183_6
                    replace hx183_7 := (HB.out.cell (World.block_lt_of_cell? w _ hx183_7)).trans hx183_7
                    replace hx183_8 := (HB.out.cell (World.block_lt_of_cell? w _ hx183_8)).trans hx183_8
                    replace hx183_9 := (HB.out.cell (World.block_lt_of_cell? w _ hx183_9)).trans hx183_9
                    replace hx183_10 := (HB.out.cell (World.block_lt_of_cell? w _ hx183_10)).trans hx183_10
                    have HR183_8 := Aside0.mk hi183_8
                    have HC183_8 := Aside0.mk hl183_8
                    clear hi183_8 hl183_8
                    have HR183_10 := Aside0.mk hi183_10
                    have HC183_10 := Aside0.mk hl183_10
                    clear hi183_10 hl183_10
                    replace p183 := eq_true p183
                    replace q183 := eq_true q183
                    have p184 : 0 ≤ (x5_2 : Int) := of_decide_eq_true (by first | (with_reducible assumption) | assumption)
                    have q184 : x5_2 < (l1_8.length : Int) := of_decide_eq_true (by first | (with_reducible assumption) | assumption)
                    obtain ⟨ad184, A184_8, c184_8, A184_10, c184_10, e184, hx184_0, hx184_1, hx184_2, hx184_3, hx184_4, hx184_5, hx184_6, hx184_7, hx184_8, hx184_9, hx184_10, hl184_8, hi184_8, hl184_10, hi184_10⟩ := at_T28 HR1_8.out x5_2 p184 q184
                    have hw184_10 := hx184_10
                    have hw184_9 := hx184_9
                    have hw184_8 := hx184_8
                    have hw184_7 := hx184_7
                    have hw184_6 := hx184_6
                    have hw184_5 := hx184_5
                    have hw184_4 := hx184_4
                    have hw184_3 := hx184_3
                    have hw184_2 := hx184_2
                    have hw184_1 := hx184_1
                    have hw184_0 := hx184_0
                    cases e184
                    replace hx184_0 := (HB.out.cell (World.block_lt_of_cell? w _ hx184_0)).trans hx184_0
                    replace hx184_1 := (HB.out.cell (World.block_lt_of_cell? w _ hx184_1)).trans hx184_1
                    replace hx184_2 := (HB.out.cell (World.block_lt_of_cell? w _ hx184_2)).trans hx184_2
                    replace hx184_3 := (HB.out.cell (World.block_lt_of_cell? w _ hx184_3)).trans hx184_3
                    replace hx184_4 := (HB.out.cell (World.block_lt_of_cell? w _ hx184_4)).trans hx184_4
                    replace hx184_5 := (HB.out.cell (World.block_lt_of_cell? w _ hx184_5)).trans hx184_5
                    replace hx184_6 := (HB.out.cell (World.block_lt_of_cell? w _ hx184_6)).trans hx184_6
                    replace hx184_7 := (HB.out.cell (World.block_lt_of_cell? w _ hx184_7)).trans hx184_7
                    replace hx184_8 := (HB.out.cell (World.block_lt_of_cell? w _ hx184_8)).trans hx184_8
                    replace hx184_9 := (HB.out.cell (World.block_lt_of_cell? w _ hx184_9)).trans hx184_9
                    replace hx184_10 := (HB.out.cell (World.block_lt_of_cell? w _ hx184_10)).trans hx184_10
                    have HR184_8 := Aside0.mk hi184_8
                    have HC184_8 := Aside0.mk hl184_8
                    clear hi184_8 hl184_8
                    have HR184_10 := Aside0.mk hi184_10
                    have HC184_10 := Aside0.mk hl184_10
                    clear hi184_10 hl184_10
                    replace p184 := eq_true p184
                    replace q184 := eq_true q184
                    refine start_ (n := 12) (S := fun w' => w'.cell? ⟨gb180, 0, none⟩ = some (.int .i64 a0_0) ∧ w'.cell? ⟨gb180, 1, none⟩ = some (.string a0_1) ∧ w'.cell? ⟨gb180, 2, none⟩ = some (.int .i64 a0_2) ∧ w'.cell? ⟨gb180, 3, none⟩ = some (.int .i64 a0_3) ∧ w'.cell? ⟨gb180, 4, none⟩ = some (.int .i64 a0_4) ∧ w'.cell? ⟨gb180, 5, none⟩ = some (.int .i64 a0_5) ∧ w'.cell? ⟨gb180, 6, none⟩ = some (.int .i64 a0_6) ∧ w'.cell? ⟨gb180, 7, none⟩ = some (.int .i64 a0_7) ∧ w'.cell? ⟨gb180, 8, none⟩ = some (.slice (some ad183) l0_8.length c0_8) ∧ w'.cell? ⟨gb180, 9, none⟩ = some (.int .i64 a0_9) ∧ w'.cell? ⟨gb180, 10, none⟩ = some (.slice A0_10 l0_10.length c0_10) ∧ w'.cell? ⟨gb181, 0, none⟩ = some (.int .i64 a1_0) ∧ w'.cell? ⟨gb181, 1, none⟩ = some (.string a1_1) ∧ w'.cell? ⟨gb181, 2, none⟩ = some (.int .i64 a1_2) ∧ w'.cell? ⟨gb181, 3, none⟩ = some (.int .i64 a1_3) ∧ w'.cell? ⟨gb181, 4, none⟩ = some (.int .i64 a1_4) ∧ w'.cell? ⟨gb181, 5, none⟩ = some (.int .i64 a1_5) ∧ w'.cell? ⟨gb181, 6, none⟩ = some (.int .i64 a1_6) ∧ w'.cell? ⟨gb181, 7, none⟩ = some (.int .i64 a1_7) ∧ w'.cell? ⟨gb181, 8, none⟩ = some (.slice (some ad184) l1_8.length c1_8) ∧ w'.cell? ⟨gb181, 9, none⟩ = some (.int .i64 a1_9) ∧ w'.cell? ⟨gb181, 10, none⟩ = some (.slice A1_10 l1_10.length c1_10) ∧ w'.cell? (ad183.add ((x5_2).toNat * 11)) = some (.int .i64 ((rd_T28 l0_8 x5_2).f0)) ∧ w'.cell? ⟨(ad183.add ((x5_2).toNat * 11)).block, (ad183.add ((x5_2).toNat * 11)).off + 1, none⟩ = some (.string ((rd_T28 l0_8 x5_2).f1)) ∧ w'.cell? ⟨(ad183.add ((x5_2).toNat * 11)).block, (ad183.add ((x5_2).toNat * 11)).off + 2, none⟩ = some (.int .i64 ((rd_T28 l0_8 x5_2).f2)) ∧ w'.cell? ⟨(ad183.add ((x5_2).toNat * 11)).block, (ad183.add ((x5_2).toNat * 11)).off + 3, none⟩ = some (.int .i64 ((rd_T28 l0_8 x5_2).f3)) ∧ w'.cell? ⟨(ad183.add ((x5_2).toNat * 11)).block, (ad183.add ((x5_2).toNat * 11)).off + 4, none⟩ = some (.int .i64 ((rd_T28 l0_8 x5_2).f4)) ∧ w'.cell? ⟨(ad183.add ((x5_2).toNat * 11)).block, (ad183.add ((x5_2).toNat * 11)).off + 5, none⟩ = some (.int .i64 ((rd_T28 l0_8 x5_2).f5)) ∧ w'.cell? ⟨(ad183.add ((x5_2).toNat * 11)).block, (ad183.add ((x5_2).toNat * 11)).off + 6, none⟩ = some (.int .i64 ((rd_T28 l0_8 x5_2).f6)) ∧ w'.cell? ⟨(ad183.add ((x5_2).toNat * 11)).block, (ad183.add ((x5_2).toNat * 11)).off + 7, none⟩ = some (.int .i64 ((rd_T28 l0_8 x5_2).f7)) ∧ w'.cell? ⟨(ad183.add ((x5_2).toNat * 11)).block, (ad183.add ((x5_2).toNat * 11)).off + 8, none⟩ = some (.slice A183_8 ((rd_T28 l0_8 x5_2).f8).length c183_8) ∧ w'.cell? ⟨(ad183.add ((x5_2).toNat * 11)).block, (ad183.add ((x5_2).toNat * 11)).off + 9, none⟩ = some (.int .i64 ((rd_T28 l0_8 x5_2).f9)) ∧ w'.cell? ⟨(ad183.add ((x5_2).toNat * 11)).block, (ad183.add ((x5_2).toNat * 11)).off + 10, none⟩ = some (.slice A183_10 ((rd_T28 l0_8 x5_2).f10).length c183_10) ∧ w'.cell? (ad184.add ((x5_2).toNat * 11)) = some (.int .i64 ((rd_T28 l1_8 x5_2).f0)) ∧ w'.cell? ⟨(ad184.add ((x5_2).toNat * 11)).block, (ad184.add ((x5_2).toNat * 11)).off + 1, none⟩ = some (.string ((rd_T28 l1_8 x5_2).f1)) ∧ w'.cell? ⟨(ad184.add ((x5_2).toNat * 11)).block, (ad184.add ((x5_2).toNat * 11)).off + 2, none⟩ = some (.int .i64 ((rd_T28 l1_8 x5_2).f2)) ∧ w'.cell? ⟨(ad184.add ((x5_2).toNat * 11)).block, (ad184.add ((x5_2).toNat * 11)).off + 3, none⟩ = some (.int .i64 ((rd_T28 l1_8 x5_2).f3)) ∧ w'.cell? ⟨(ad184.add ((x5_2).toNat * 11)).block, (ad184.add ((x5_2).toNat * 11)).off + 4, none⟩ = some (.int .i64 ((rd_T28 l1_8 x5_2).f4)) ∧ w'.cell? ⟨(ad184.add ((x5_2).toNat * 11)).block, (ad184.add ((x5_2).toNat * 11)).off + 5, none⟩ = some (.int .i64 ((rd_T28 l1_8 x5_2).f5)) ∧ w'.cell? ⟨(ad184.add ((x5_2).toNat * 11)).block, (ad184.add ((x5_2).toNat * 11)).off + 6, none⟩ = some (.int .i64 ((rd_T28 l1_8 x5_2).f6)) ∧ w'.cell? ⟨(ad184.add ((x5_2).toNat * 11)).block, (ad184.add ((x5_2).toNat * 11)).off + 7, none⟩ = some (.int .i64 ((rd_T28 l1_8 x5_2).f7)) ∧ w'.cell? ⟨(ad184.add ((x5_2).toNat * 11)).block, (ad184.add ((x5_2).toNat * 11)).off + 8, none⟩ = some (.slice A184_8 ((rd_T28 l1_8 x5_2).f8).length c184_8) ∧ w'.cell? ⟨(ad184.add ((x5_2).toNat * 11)).block, (ad184.add ((x5_2).toNat * 11)).off + 9, none⟩ = some (.int .i64 ((rd_T28 l1_8 x5_2).f9)) ∧ w'.cell? ⟨(ad184.add ((x5_2).toNat * 11)).block, (ad184.add ((x5_2).toNat * 11)).off + 10, none⟩ = some (.slice A184_10 ((rd_T28 l1_8 x5_2).f10).length c184_10)) (ds := []) #[false, false, false, false, false, false, false, false, false, false, false, false] (by kernel_rfl) rfl rfl ⟨(blk_cell BK180.out 0).trans rfl, (blk_cell BK180.out 1).trans rfl, (blk_cell BK180.out 2).trans rfl, (blk_cell BK180.out 3).trans rfl, (blk_cell BK180.out 4).trans rfl, (blk_cell BK180.out 5).trans rfl, (blk_cell BK180.out 6).trans rfl, (blk_cell BK180.out 7).trans rfl, (blk_cell BK180.out 8).trans rfl, (blk_cell BK180.out 9).trans rfl, (blk_cell BK180.out 10).trans rfl, (blk_cell BK181.out 0).trans rfl, (blk_cell BK181.out 1).trans rfl, (blk_cell BK181.out 2).trans rfl, (blk_cell BK181.out 3).trans rfl, (blk_cell BK181.out 4).trans rfl, (blk_cell BK181.out 5).trans rfl, (blk_cell BK181.out 6).trans rfl, (blk_cell BK181.out 7).trans rfl, (blk_cell BK181.out 8).trans rfl, (blk_cell BK181.out 9).trans rfl, (blk_cell BK181.out 10).trans rfl, ((HB.out.cell (World.block_lt_of_cell? w _ hw183_0)).trans hw183_0), ((HB.out.cell (World.block_lt_of_cell? w _ hw183_1)).trans hw183_1), ((HB.out.cell (World.block_lt_of_cell? w _ hw183_2)).trans hw183_2), ((HB.out.cell (World.block_lt_of_cell? w _ hw183_3)).trans hw183_3), ((HB.out.cell (World.block_lt_of_cell? w _ hw183_4)).trans hw183_4), ((HB.out.cell (World.block_lt_of_cell? w _ hw183_5)).trans hw183_5), ((HB.out.cell (World.block_lt_of_cell? w _ hw183_6)).trans hw183_6), ((HB.out.cell (World.block_lt_of_cell? w _ hw183_7)).trans hw183_7), ((HB.out.cell (World.block_lt_of_cell? w _ hw183_8)).trans hw183_8), ((HB.out.cell (World.block_lt_of_cell? w _ hw183_9)).trans hw183_9), ((HB.out.cell (World.block_lt_of_cell? w _ hw183_10)).trans hw183_10), ((HB.out.cell (World.block_lt_of_cell? w _ hw184_0)).trans hw184_0), ((HB.out.cell (World.block_lt_of_cell? w _ hw184_1)).trans hw184_1), ((HB.out.cell (World.block_lt_of_cell? w _ hw184_2)).trans hw184_2), ((HB.out.cell (World.block_lt_of_cell? w _ hw184_3)).trans hw184_3), ((HB.out.cell (World.block_lt_of_cell? w _ hw184_4)).trans hw184_4), ((HB.out.cell (World.block_lt_of_cell? w _ hw184_5)).trans hw184_5), ((HB.out.cell (World.block_lt_of_cell? w _ hw184_6)).trans hw184_6), ((HB.out.cell (World.block_lt_of_cell? w _ hw184_7)).trans hw184_7), ((HB.out.cell (World.block_lt_of_cell? w _ hw184_8)).trans hw184_8), ((HB.out.cell (World.block_lt_of_cell? w _ hw184_9)).trans hw184_9), ((HB.out.cell (World.block_lt_of_cell? w _ hw184_10)).trans hw184_10)⟩ (fun hHeld => ?_); refine with_tabW vinculumref28_Equal.tab6 vinculumref28_Equal.bits6 (fun HT_ HW_ => ?_)
                    generalize wr.drew = w62 at BK180 BK181 HB HR183_10 HR183_8 HR184_10 HR184_8 hx183_0 hx183_1 hx183_10 hx183_2 hx183_3 hx183_4 hx183_5 hx183_6 hx183_7 hx183_8 hx183_9 hx184_0 hx184_1 hx184_10 hx184_2 hx184_3 hx184_4 hx184_5 hx184_6 hx184_7 hx184_8 hx184_9 hHeld ⊢
                    refine pure_ (i := 0) (N := some 91) (v := ?_) (a' := ?_) #[true, false, false, false, false, false, false, false, false, false, false, false] rfl rfl (any_of HT_.out (by kernel_rfl)) (fun _ _ _ h => h) (Or.inl ⟨by rfl, ?_⟩) ?_ ?_
                    rotate_left
                    · intro w'
                      go_simp
                      with_reducible rfl
                    rotate_left
                    · simp only [Act.put, List.setIfInBounds_toArray, List.set_cons_zero, List.set_cons_succ, i64_w, i32_w]
                      rfl
                    refine pure_ (i := 2) (N := some 93) (v := ?_) (a' := ?_) #[true, false, true, false, false, false, false, false, false, false, false, false] rfl rfl (any_of HT_.out (by kernel_rfl)) (fun _ _ _ h => h) (Or.inl ⟨by rfl, ?_⟩) ?_ ?_
                    rotate_left
                    · intro w'
                      go_simp
                      with_reducible rfl
                    rotate_left
                    · simp only [Act.put, List.setIfInBounds_toArray, List.set_cons_zero, List.set_cons_succ, i64_w, i32_w]
                      rfl
                    refine pure_ (i := 5) (N := some 96) (v := ?_) (a' := ?_) #[true, false, true, false, false, true, false, false, false, false, false, false] rfl rfl (any_of HT_.out (by kernel_rfl)) (fun _ _ _ h => h) (Or.inl ⟨by rfl, ?_⟩) ?_ ?_
                    rotate_left
                    · intro w'
                      go_simp
                      with_reducible rfl
                    rotate_left
                    · simp only [Act.put, List.setIfInBounds_toArray, List.set_cons_zero, List.set_cons_succ, i64_w, i32_w]
                      rfl
                    refine pure_ (i := 7) (N := some 98) (v := ?_) (a' := ?_) #[true, false, true, false, false, true, false, true, false, false, false, false] rfl rfl (any_of HT_.out (by kernel_rfl)) (fun _ _ _ h => h) (Or.inl ⟨by rfl, ?_⟩) ?_ ?_
                    rotate_left
                    · intro w'
                      go_simp
                      with_reducible rfl
                    rotate_left
                    · simp only [Act.put, List.setIfInBounds_toArray, List.set_cons_zero, List.set_cons_succ, i64_w, i32_w]
                      rfl
                    refine take_ (i := 1) (N := some 92) (v := ?_) (a' := ?_) #[true, true, true, false, false, true, false, true, false, false, false, false] rfl rfl (take_ofW HT_.out HW_.out (by kernel_rfl)) (fun _ _ _ h => h) (Or.inl ⟨by rfl, ?_⟩) hHeld ?_ ?_
                    rotate_left
                    · rintro w' ⟨s0, s1, s2, s3, s4, s5, s6, s7, s8, s9, s10, s11, s12, s13, s14, s15, s16, s17, s18, s19, s20, s21, s22, s23, s24, s25, s26, s27, s28, s29, s30, s31, s32, s33, s34, s35, s36, s37, s38, s39, s40, s41, s42, s43⟩
                      go_simp
                      with_reducible rfl
                    rotate_left
                    · simp only [Act.put, List.setIfInBounds_toArray, List.set_cons_zero, List.set_cons_succ, i64_w, i32_w]
                      rfl
                    refine pure_ (i := 3) (N := some 94) (v := ?_) (a' := ?_) #[true, true, true, true, false, true, false, true, false, false, false, false] rfl rfl (any_of HT_.out (by kernel_rfl)) (fun _ _ _ h => h) (Or.inl ⟨by rfl, ?_⟩) ?_ ?_
                    rotate_left
                    · intro w'
                      go_simp
                      with_reducible rfl
                    rotate_left
                    · simp only [Act.put, List.setIfInBounds_toArray, List.set_cons_zero, List.set_cons_succ, i64_w, i32_w]
                      rfl
                    refine take_ (i := 4) (N := some 95) (v := ?_) (a' := ?_) #[true, true, true, true, true, true, false, true, false, false, false, false] rfl rfl (take_ofW HT_.out HW_.out (by kernel_rfl)) (fun _ _ _ h => h) (Or.inl ⟨by rfl, ?_⟩) hHeld ?_ ?_
                    rotate_left
                    · rintro w' ⟨s0, s1, s2, s3, s4, s5, s6, s7, s8, s9, s10, s11, s12, s13, s14, s15, s16, s17, s18, s19, s20, s21, s22, s23, s24, s25, s26, s27, s28, s29, s30, s31, s32, s33, s34, s35, s36, s37, s38, s39, s40, s41, s42, s43⟩
                      go_simp
                      with_reducible rfl
                    rotate_left
                    · simp only [Act.put, List.setIfInBounds_toArray, List.set_cons_zero, List.set_cons_succ, i64_w, i32_w]
                      rfl
                    refine take_ (i := 6) (N := some 97) (v := ?_) (a' := ?_) #[true, true, true, true, true, true, true, true, false, false, false, false] rfl rfl (take_ofW HT_.out HW_.out (by kernel_rfl)) (fun _ _ _ h => h) (Or.inl ⟨by rfl, ?_⟩) hHeld ?_ ?_
                    rotate_left
                    · rintro w' ⟨s0, s1, s2, s3, s4, s5, s6, s7, s8, s9, s10, s11, s12, s13, s14, s15, s16, s17, s18, s19, s20, s21, s22, s23, s24, s25, s26, s27, s28, s29, s30, s31, s32, s33, s34, s35, s36, s37, s38, s39, s40, s41, s42, s43⟩
                      go_simp
                      with_reducible rfl
                    rotate_left
                    · simp only [Act.put, List.setIfInBounds_toArray, List.set_cons_zero, List.set_cons_succ, i64_w, i32_w]
                      rfl
                    refine pure_ (i := 8) (N := some 99) (v := ?_) (a' := ?_) #[true, true, true, true, true, true, true, true, true, false, false, false] rfl rfl (any_of HT_.out (by kernel_rfl)) (fun _ _ _ h => h) (Or.inl ⟨by rfl, ?_⟩) ?_ ?_
                    rotate_left
                    · intro w'
                      go_simp
                      with_reducible rfl
                    rotate_left
                    · simp only [Act.put, List.setIfInBounds_toArray, List.set_cons_zero, List.set_cons_succ, i64_w, i32_w]
                      rfl
                    refine take_ (i := 9) (N := some 100) (v := ?_) (a' := ?_) #[true, true, true, true, true, true, true, true, true, true, false, false] rfl rfl (take_ofW HT_.out HW_.out (by kernel_rfl)) (fun _ _ _ h => h) (Or.inl ⟨by rfl, ?_⟩) hHeld ?_ ?_
                    rotate_left
                    · rintro w' ⟨s0, s1, s2, s3, s4, s5, s6, s7, s8, s9, s10, s11, s12, s13, s14, s15, s16, s17, s18, s19, s20, s21, s22, s23, s24, s25, s26, s27, s28, s29, s30, s31, s32, s33, s34, s35, s36, s37, s38, s39, s40, s41, s42, s43⟩
                      go_simp
                      with_reducible rfl
                    rotate_left
                    · simp only [Act.put, List.setIfInBounds_toArray, List.set_cons_zero, List.set_cons_succ, i64_w, i32_w]
                      rfl
                    refine one_ (i := 10) (N := some 101) #[true, true, true, true, true, true, true, true, true, true, true, false] rfl rfl (one_of HT_.out (by kernel_rfl)) (by decide) (fun K hK => ?_)
                    refine goes_ Try.func17 (by kernel_rfl) rfl #[.agg #[.int .i64 ((rd_T28 l0_8 x5_2).f0), .string ((rd_T28 l0_8 x5_2).f1), .int .i64 ((rd_T28 l0_8 x5_2).f2), .int .i64 ((rd_T28 l0_8 x5_2).f3), .int .i64 ((rd_T28 l0_8 x5_2).f4), .int .i64 ((rd_T28 l0_8 x5_2).f5), .int .i64 ((rd_T28 l0_8 x5_2).f6), .int .i64 ((rd_T28 l0_8 x5_2).f7), .slice A183_8 ((rd_T28 l0_8 x5_2).f8).length c183_8, .int .i64 ((rd_T28 l0_8 x5_2).f9), .slice A183_10 ((rd_T28 l0_8 x5_2).f10).length c183_10], .agg #[.int .i64 ((rd_T28 l1_8 x5_2).f0), .string ((rd_T28 l1_8 x5_2).f1), .int .i64 ((rd_T28 l1_8 x5_2).f2), .int .i64 ((rd_T28 l1_8 x5_2).f3), .int .i64 ((rd_T28 l1_8 x5_2).f4), .int .i64 ((rd_T28 l1_8 x5_2).f5), .int .i64 ((rd_T28 l1_8 x5_2).f6), .int .i64 ((rd_T28 l1_8 x5_2).f7), .slice A184_8 ((rd_T28 l1_8 x5_2).f8).length c184_8, .int .i64 ((rd_T28 l1_8 x5_2).f9), .slice A184_10 ((rd_T28 l1_8 x5_2).f10).length c184_10]] (by rfl) rfl rfl (by (try simp only [List.map_toArray, List.map_cons, List.map_nil]); first | done | rfl | (simp only [List.length_drop, List.length_take]; rfl)) ?_
                    with_reducible refine (ih k2 (by have := HJ2.out; have := HK2.out; omega) ((rd_T28 l0_8 x5_2).f0) ((rd_T28 l0_8 x5_2).f1) ((rd_T28 l0_8 x5_2).f2) ((rd_T28 l0_8 x5_2).f3) ((rd_T28 l0_8 x5_2).f4) ((rd_T28 l0_8 x5_2).f5) ((rd_T28 l0_8 x5_2).f6) ((rd_T28 l0_8 x5_2).f7) _ _ ((rd_T28 l0_8 x5_2).f8) ((rd_T28 l0_8 x5_2).f9) _ _ ((rd_T28 l0_8 x5_2).f10) ((rd_T28 l1_8 x5_2).f0) ((rd_T28 l1_8 x5_2).f1) ((rd_T28 l1_8 x5_2).f2) ((rd_T28 l1_8 x5_2).f3) ((rd_T28 l1_8 x5_2).f4) ((rd_T28 l1_8 x5_2).f5) ((rd_T28 l1_8 x5_2).f6) ((rd_T28 l1_8 x5_2).f7) _ _ ((rd_T28 l1_8 x5_2).f8) ((rd_T28 l1_8 x5_2).f9) _ _ ((rd_T28 l1_8 x5_2).f10) false _ ?side1 ?side2 ?side3 ?side4 ?side5 ?side6 ?side7 ?side8 A54.out).mono ?_
                    (case side1 => repeat (first | exact (Kd.C_below HR183_8.out HB.out) | (with_reducible refine Kd.C_alloc ?_ _) | (with_reducible refine Kd.C_drewN ?_ _) | (with_reducible refine Kd.C_drew ?_)))
                    (case side2 => exact HC183_8.out)
                    (case side3 => repeat (first | exact (Kd.C_below HR183_10.out HB.out) | (with_reducible refine Kd.C_alloc ?_ _) | (with_reducible refine Kd.C_drewN ?_ _) | (with_reducible refine Kd.C_drew ?_)))
                    (case side4 => exact HC183_10.out)
                    (case side5 => repeat (first | exact (Kd.C_below HR184_8.out HB.out) | (with_reducible refine Kd.C_alloc ?_ _) | (with_reducible refine Kd.C_drewN ?_ _) | (with_reducible refine Kd.C_drew ?_)))
                    (case side6 => exact HC184_8.out)
                    (case side7 => repeat (first | exact (Kd.C_below HR184_10.out HB.out) | (with_reducible refine Kd.C_alloc ?_ _) | (with_reducible refine Kd.C_drewN ?_ _) | (with_reducible refine Kd.C_drew ?_)))
                    (case side8 => exact HC184_10.out)
                    rintro e w63 ⟨rfl, hb⟩
                    refine ⟨_, rfl, ?_⟩
                    have n0_ := Aside0.mk (blk_below (g := gb180) (o := .cells #[.int .i64 a0_0, .string a0_1, .int .i64 a0_2, .int .i64 a0_3, .int .i64 a0_4, .int .i64 a0_5, .int .i64 a0_6, .int .i64 a0_7, .slice (some ad183) l0_8.length c0_8, .int .i64 a0_9, .slice A0_10 l0_10.length c0_10] 28 (0, 0)) (by (with_reducible repeat (first | refine blk_drewN ?_ _ | refine blk_drew ?_ | refine blk_alloc ?_ _)); exact BK180.out) hb)
                    have n1_ := Aside0.mk (blk_below (g := gb181) (o := .cells #[.int .i64 a1_0, .string a1_1, .int .i64 a1_2, .int .i64 a1_3, .int .i64 a1_4, .int .i64 a1_5, .int .i64 a1_6, .int .i64 a1_7, .slice (some ad184) l1_8.length c1_8, .int .i64 a1_9, .slice A1_10 l1_10.length c1_10] 28 (0, 0)) (by (with_reducible repeat (first | refine blk_drewN ?_ _ | refine blk_drew ?_ | refine blk_alloc ?_ _)); exact BK181.out) hb)
                    have n2_ := Aside0.mk (below_step (by repeat (first | (with_reducible first | exact HB.out | apply below_alloc | apply pw_below_drewN | apply below_drew1 | refine below_set ?_ GE180.out | refine below_set ?_ GE181.out) | exact HB.out)) hb)
                    clear BK180
                    clear BK181
                    clear HB
                    have BK180 := n0_
                    have BK181 := n1_
                    have HB := n2_
                    clear n0_ n1_ n2_
                    (try clear hb)
                    (try clear hb2)
                    (try clear hk)
                    (try clear hi)
                    refine hK.out _ _ ⟨(blk_cell BK180.out 0).trans rfl, (blk_cell BK180.out 1).trans rfl, (blk_cell BK180.out 2).trans rfl, (blk_cell BK180.out 3).trans rfl, (blk_cell BK180.out 4).trans rfl, (blk_cell BK180.out 5).trans rfl, (blk_cell BK180.out 6).trans rfl, (blk_cell BK180.out 7).trans rfl, (blk_cell BK180.out 8).trans rfl, (blk_cell BK180.out 9).trans rfl, (blk_cell BK180.out 10).trans rfl, (blk_cell BK181.out 0).trans rfl, (blk_cell BK181.out 1).trans rfl, (blk_cell BK181.out 2).trans rfl, (blk_cell BK181.out 3).trans rfl, (blk_cell BK181.out 4).trans rfl, (blk_cell BK181.out 5).trans rfl, (blk_cell BK181.out 6).trans rfl, (blk_cell BK181.out 7).trans rfl, (blk_cell BK181.out 8).trans rfl, (blk_cell BK181.out 9).trans rfl, (blk_cell BK181.out 10).trans rfl, ((HB.out.cell (World.block_lt_of_cell? w _ hw183_0)).trans hw183_0), ((HB.out.cell (World.block_lt_of_cell? w _ hw183_1)).trans hw183_1), ((HB.out.cell (World.block_lt_of_cell? w _ hw183_2)).trans hw183_2), ((HB.out.cell (World.block_lt_of_cell? w _ hw183_3)).trans hw183_3), ((HB.out.cell (World.block_lt_of_cell? w _ hw183_4)).trans hw183_4), ((HB.out.cell (World.block_lt_of_cell? w _ hw183_5)).trans hw183_5), ((HB.out.cell (World.block_lt_of_cell? w _ hw183_6)).trans hw183_6), ((HB.out.cell (World.block_lt_of_cell? w _ hw183_7)).trans hw183_7), ((HB.out.cell (World.block_lt_of_cell? w _ hw183_8)).trans hw183_8), ((HB.out.cell (World.block_lt_of_cell? w _ hw183_9)).trans hw183_9), ((HB.out.cell (World.block_lt_of_cell? w _ hw183_10)).trans hw183_10), ((HB.out.cell (World.block_lt_of_cell? w _ hw184_0)).trans hw184_0), ((HB.out.cell (World.block_lt_of_cell? w _ hw184_1)).trans hw184_1), ((HB.out.cell (World.block_lt_of_cell? w _ hw184_2)).trans hw184_2), ((HB.out.cell (World.block_lt_of_cell? w _ hw184_3)).trans hw184_3), ((HB.out.cell (World.block_lt_of_cell? w _ hw184_4)).trans hw184_4), ((HB.out.cell (World.block_lt_of_cell? w _ hw184_5)).trans hw184_5), ((HB.out.cell (World.block_lt_of_cell? w _ hw184_6)).trans hw184_6), ((HB.out.cell (World.block_lt_of_cell? w _ hw184_7)).trans hw184_7), ((HB.out.cell (World.block_lt_of_cell? w _ hw184_8)).trans hw184_8), ((HB.out.cell (World.block_lt_of_cell? w _ hw184_9)).trans hw184_9), ((HB.out.cell (World.block_lt_of_cell? w _ hw184_10)).trans hw184_10)⟩ (fun hHeld => ?_)
                    clear hK K
                    refine norm_ (a' := ?_) ?_ ?_
                    rotate_left
                    · show Act.put _ (some 101) _ = _
                      simp only [Act.put, List.setIfInBounds_toArray, List.set_cons_zero, List.set_cons_succ, i64_w, i32_w]
                      rfl
                    refine pure_ (i := 11) (N := some 102) (v := ?_) (a' := ?_) #[true, true, true, true, true, true, true, true, true, true, true, true] rfl rfl (any_of HT_.out (by kernel_rfl)) (fun _ _ _ h => h) (Or.inl ⟨by rfl, ?_⟩) ?_ ?_
                    rotate_left
                    · intro w'
                      go_simp
                      with_reducible rfl
                    rotate_left
                    · simp only [Act.put, List.setIfInBounds_toArray, List.set_cons_zero, List.set_cons_succ, i64_w, i32_w]
                      rfl
                    refine done_ (done_of HT_.out (by kernel_rfl)) ?_
                    try go_wp2
                    go_ret
                    exact ⟨by first | rfl | (simp [errW_none, errW_some] <;> rfl) | (simp [*, errW_none, errW_some] <;> rfl), by repeat (first | (with_reducible first | exact HB.out | apply below_alloc | apply pw_below_drewN | apply below_drew1 | refine below_set ?_ GE180.out | refine below_set ?_ GE181.out) | exact HB.out)⟩
                · rw [if_neg c53] at H
                  exact absurd H (by simp)
              · rw [if_neg c52] at H
                exact absurd H (by simp)
            · rw [if_neg c51] at H
              have c51b0 : decide (x5_2 < (l0_8.length : Int)) = false := decide_eq_false c51
              clear c51
              obtain rfl := Option.some.inj H
              have hnb64 := NB180_181.out
              have hnc64 := NB181_180.out
              have hcz65_0 : wr.cell? ⟨gb180, 0, none⟩ = some (.int .i64 a0_0) := (blk_cell BK180.out 0).trans rfl
              have hcz65_1 : wr.cell? ⟨gb180, 1, none⟩ = some (.string a0_1) := (blk_cell BK180.out 1).trans rfl
              have hcz65_2 : wr.cell? ⟨gb180, 2, none⟩ = some (.int .i64 a0_2) := (blk_cell BK180.out 2).trans rfl
              have hcz65_3 : wr.cell? ⟨gb180, 3, none⟩ = some (.int .i64 a0_3) := (blk_cell BK180.out 3).trans rfl
              have hcz65_4 : wr.cell? ⟨gb180, 4, none⟩ = some (.int .i64 a0_4) := (blk_cell BK180.out 4).trans rfl
              have hcz65_5 : wr.cell? ⟨gb180, 5, none⟩ = some (.int .i64 a0_5) := (blk_cell BK180.out 5).trans rfl
              have hcz65_6 : wr.cell? ⟨gb180, 6, none⟩ = some (.int .i64 a0_6) := (blk_cell BK180.out 6).trans rfl
              have hcz65_7 : wr.cell? ⟨gb180, 7, none⟩ = some (.int .i64 a0_7) := (blk_cell BK180.out 7).trans rfl
              have hcz65_8 : wr.cell? ⟨gb180, 8, none⟩ = some (.slice A0_8 l0_8.length c0_8) := (blk_cell BK180.out 8).trans rfl
              have hcz65_9 : wr.cell? ⟨gb180, 9, none⟩ = some (.int .i64 a0_9) := (blk_cell BK180.out 9).trans rfl
              have hcz65_10 : wr.cell? ⟨gb180, 10, none⟩ = some (.slice A0_10 l0_10.length c0_10) := (blk_cell BK180.out 10).trans rfl
              have hfz65_0 := blk_frozen BK180.out 0
              have hfz65_1 := blk_frozen BK180.out 1
              have hfz65_2 := blk_frozen BK180.out 2
              have hfz65_3 := blk_frozen BK180.out 3
              have hfz65_4 := blk_frozen BK180.out 4
              have hfz65_5 := blk_frozen BK180.out 5
              have hfz65_6 := blk_frozen BK180.out 6
              have hfz65_7 := blk_frozen BK180.out 7
              have hfz65_8 := blk_frozen BK180.out 8
              have hfz65_9 := blk_frozen BK180.out 9
              have hfz65_10 := blk_frozen BK180.out 10
              go_wp2
              go_ret
              exact ⟨by first | rfl | (simp [errW_none, errW_some] <;> rfl) | (simp [*, errW_none, errW_some] <;> rfl), by repeat (first | (with_reducible first | exact HB.out | apply below_alloc | apply pw_below_drewN | apply below_drew1 | refine below_set ?_ GE180.out | refine below_set ?_ GE181.out) | exact HB.out)⟩

end Go.Proofs.Ytnnhhkjcjkinpaa.P
