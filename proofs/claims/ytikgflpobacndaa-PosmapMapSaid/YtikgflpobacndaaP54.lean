--m
/- Written by wip/tool/hprint.py (the kit's print.py with hand-proved contracts set in): contracts of the functions that the statements of this seat reach, without conditions beyond those named in each theorem. -/
import Derived.Test.YtikgflpobacndaaP0
import Derived.Test.YtikgflpobacndaaP48
import Derived.Test.YtikgflpobacndaaP52
import Derived.Test.YtikgflpobacndaaP53
namespace Go.Proofs.Ytikgflpobacndaa.P
open Go.RowKit Go.Proofs.YtikgflpobacndaaW.PrintWords Go.Proofs.YtikgflpobacndaaW.PrintLast Go.Proofs.YtikgflpobacndaaW.PrintMore
attribute [local go_sem] zaz zaA zaB zaC zaD zaE zaF zaG   -- for this text's walks alone
set_option linter.unusedVariables false
set_option linter.unusedSimpArgs false

/-! ### vinculumref13_Map: function 23 -/
def vinculumref13_Map.f (k : Nat) (a0_0 : Int) (l0_1 : List Int) (a0_2 : Int) (a0_3 : Int) (l0_4 : List (S24)) (a0_5 : Int) (a0_6 : ByteArray) (a0_7 : ByteArray) (l1 : List Int) (a2 : Bool) : Option (List Int) := (vinculumref13_within.f k l1 l0_1).bind fun t669 => (if t669 = true then ((some (([] : List Int) : List Int)).bind fun y676 => (if y676.length + l0_1.length < 17592186044416 then ((some (y676 ++ l0_1 : List Int)).bind fun y679 => (if (l1.length : Int) = (wrap64 ((l0_1.length : Int) + 1)) then (if 0 ≤ (l0_1.length : Int) then (if (l0_1.length : Int) < (l1.length : Int) then ((vinculumref13_offset.f k a0_0 l0_1 a0_2 a0_3 l0_4 a0_5 a0_6 a0_7 (rd l1 (l0_1.length : Int)) a2).bind fun t683 => (if y679.length + t683.length < 17592186044416 then (some (y679 ++ t683)) else (none))) else (none)) else (none)) else (if 0 ≤ (l0_1.length : Int) then (if (l0_1.length : Int) < (l1.length : Int) then (if 0 ≤ (wrap64 ((l0_1.length : Int) + 1)) then (if (wrap64 ((l0_1.length : Int) + 1)) < (l1.length : Int) then (if 0 ≤ (wrap64 ((l0_1.length : Int) + 2)) then (if (wrap64 ((l0_1.length : Int) + 2)) ≤ (l1.length : Int) then ((vinculumref13_inside.f k a0_0 l0_1 a0_2 a0_3 l0_4 a0_5 a0_6 a0_7 (rd l1 (l0_1.length : Int)) (rd l1 (wrap64 ((l0_1.length : Int) + 1))) (l1.drop ((wrap64 ((l0_1.length : Int) + 2)) : Int).toNat)).bind fun t692 => (if y679.length + t692.length < 17592186044416 then (some (y679 ++ t692)) else (none))) else (none)) else (none)) else (none)) else (none)) else (none)) else (none)))) else (none))) else ((some (([] : List Int) : List Int)).bind fun y670 => (if y670.length + l1.length < 17592186044416 then (some (y670 ++ l1)) else (none))))
theorem vinculumref13_Map.mono : ∀ a0 a1 a2 a3 a4 a5 a6 a7 a8 a9 k, LeO (vinculumref13_Map.f k a0 a1 a2 a3 a4 a5 a6 a7 a8 a9) (vinculumref13_Map.f (k + 1) a0 a1 a2 a3 a4 a5 a6 a7 a8 a9) := by
 intro a0 a1 a2 a3 a4 a5 a6 a7 a8 a9 k
 unfold vinculumref13_Map.f
 repeat' first
   | (with_reducible exact vinculumref13_inside.mono _ _ _ _ _ _ _ _ _ _ _ _)
   | (with_reducible exact vinculumref13_offset.mono _ _ _ _ _ _ _ _ _ _ _)
   | (with_reducible exact vinculumref13_within.mono _ _ _)
   | (with_reducible exact LeO.refl _)
   | (with_reducible exact LeO.none _)
   | (with_reducible refine LeO.ite ?_ ?_)
   | (with_reducible refine LeO.bind ?_ (fun _ => ?_))
   | exact vinculumref13_inside.mono _ _ _ _ _ _ _ _ _ _ _ _
   | exact vinculumref13_offset.mono _ _ _ _ _ _ _ _ _ _ _
   | exact vinculumref13_within.mono _ _ _
   | exact LeO.none _
   | refine LeO.ite ?_ ?_
   | refine LeO.bind ?_ (fun _ => ?_)
def vinculumref13_Map.T6 : Bool × List (List Nat × List Nat) := (true, [([], []), ([], []), ([], []), ([], []), ([2, 3], [2, 3]), ([4], [4]), ([], []), ([1, 5, 6], [1, 5, 6]), ([0, 7, 7], [0, 7]), ([8, 8, 0, 1, 2, 3, 4, 5, 6, 7, 8], [8])])
def vinculumref13_Map.B6 : List Nat := [0, 0, 0, 0, 12, 28, 0, 126, 255, 511]
theorem vinculumref13_Map.tab6 : rtab .any (opsOf Try.f23 6) = vinculumref13_Map.T6 := by kernel_rfl
theorem vinculumref13_Map.bits6 : zaS vinculumref13_Map.T6.2 vinculumref13_Map.B6 = true := by kernel_rfl
def vinculumref13_Map.T7 : Bool × List (List Nat × List Nat) := (true, [([], []), ([], []), ([], []), ([], []), ([2, 3], [2, 3]), ([4], [4]), ([], []), ([], []), ([7], [7]), ([6, 8], [6, 8]), ([9], [9]), ([], []), ([], []), ([12], [12]), ([11, 13], [11, 13]), ([1, 5, 10, 14], [1, 5, 10, 14]), ([0, 15, 15], [0, 15]), ([16, 16, 0, 1, 2, 3, 4, 5, 6, 7, 8, 9, 10, 11, 12, 13, 14, 15, 16], [16])])
def vinculumref13_Map.B7 : List Nat := [0, 0, 0, 0, 12, 28, 0, 0, 128, 448, 960, 0, 0, 4096, 14336, 32766, 65535, 131071]
theorem vinculumref13_Map.tab7 : rtab .any (opsOf Try.f23 7) = vinculumref13_Map.T7 := by kernel_rfl
theorem vinculumref13_Map.bits7 : zaS vinculumref13_Map.T7.2 vinculumref13_Map.B7 = true := by kernel_rfl
set_option maxHeartbeats 8000000 in
set_option maxRecDepth 100000 in
theorem vinculumref13_Map.calls (k : Nat) (a0_0 : Int) (A0_1 : Option Addr) (c0_1 : Nat) (l0_1 : List Int) (a0_2 : Int) (a0_3 : Int) (A0_4 : Option Addr) (c0_4 : Nat) (l0_4 : List (S24)) (a0_5 : Int) (a0_6 : ByteArray) (a0_7 : ByteArray) (A1 : Option Addr) (c1 : Nat) (l1 : List Int) (a2 : Bool) (r : List Int) (w : World) (hr0_1 : Kd.C (Kd.int .i64) w A0_1 l0_1.length l0_1) (hc0_1 : l0_1.length ≤ c0_1) (hr0_4 : Kd.C k24 w A0_4 l0_4.length l0_4) (hc0_4 : l0_4.length ≤ c0_4) (hr1 : Kd.C (Kd.int .i64) w A1 l1.length l1) (hc1 : l1.length ≤ c1) (h : vinculumref13_Map.f k a0_0 l0_1 a0_2 a0_3 l0_4 a0_5 a0_6 a0_7 l1 a2 = some r) :
  Calls Try.prog 23 #[.agg #[.int .i64 a0_0, .slice A0_1 l0_1.length c0_1, .int .i64 a0_2, .int .i64 a0_3, .slice A0_4 l0_4.length c0_4, .int .i64 a0_5, .string a0_6, .string a0_7], .slice A1 l1.length c1, .bool a2] w fun e w' => ∃ v0_ : Value, e = .returned (v0_) ∧ Kd.R (Kd.int .i64) 3 w' w.heap.size (fun _ => True) v0_ r ∧ Below w.heap.size w w' := by
 have hu27 := Try.underlying27
 have HR0_1 := zab.mk hr0_1
 have HC0_1 := zab.mk hc0_1
 clear hr0_1 hc0_1
 have HR0_4 := zab.mk hr0_4
 have HC0_4 := zab.mk hc0_4
 clear hr0_4 hc0_4
 have HR1 := zab.mk hr1
 have HC1 := zab.mk hc1
 clear hr1 hc1
 have HB := zab.mk (Below.refl w.heap.size w)
 have H : ((vinculumref13_within.f k l1 l0_1).bind fun t669 => (if t669 = true then ((some (([] : List Int) : List Int)).bind fun y676 => (if y676.length + l0_1.length < 17592186044416 then ((some (y676 ++ l0_1 : List Int)).bind fun y679 => (if (l1.length : Int) = (wrap64 ((l0_1.length : Int) + 1)) then (if 0 ≤ (l0_1.length : Int) then (if (l0_1.length : Int) < (l1.length : Int) then ((vinculumref13_offset.f k a0_0 l0_1 a0_2 a0_3 l0_4 a0_5 a0_6 a0_7 (rd l1 (l0_1.length : Int)) a2).bind fun t683 => (if y679.length + t683.length < 17592186044416 then (some (y679 ++ t683)) else (none))) else (none)) else (none)) else (if 0 ≤ (l0_1.length : Int) then (if (l0_1.length : Int) < (l1.length : Int) then (if 0 ≤ (wrap64 ((l0_1.length : Int) + 1)) then (if (wrap64 ((l0_1.length : Int) + 1)) < (l1.length : Int) then (if 0 ≤ (wrap64 ((l0_1.length : Int) + 2)) then (if (wrap64 ((l0_1.length : Int) + 2)) ≤ (l1.length : Int) then ((vinculumref13_inside.f k a0_0 l0_1 a0_2 a0_3 l0_4 a0_5 a0_6 a0_7 (rd l1 (l0_1.length : Int)) (rd l1 (wrap64 ((l0_1.length : Int) + 1))) (l1.drop ((wrap64 ((l0_1.length : Int) + 2)) : Int).toNat)).bind fun t692 => (if y679.length + t692.length < 17592186044416 then (some (y679 ++ t692)) else (none))) else (none)) else (none)) else (none)) else (none)) else (none)) else (none)))) else (none))) else ((some (([] : List Int) : List Int)).bind fun y670 => (if y670.length + l1.length < 17592186044416 then (some (y670 ++ l1)) else (none))))) = some r := h
 clear h
 replace H := Option.bind_eq_some_iff.mp H
 obtain ⟨t669, A40, H⟩ := H
 replace H : (if t669 = true then ((some (([] : List Int) : List Int)).bind fun y676 => (if y676.length + l0_1.length < 17592186044416 then ((some (y676 ++ l0_1 : List Int)).bind fun y679 => (if (l1.length : Int) = (wrap64 ((l0_1.length : Int) + 1)) then (if 0 ≤ (l0_1.length : Int) then (if (l0_1.length : Int) < (l1.length : Int) then ((vinculumref13_offset.f k a0_0 l0_1 a0_2 a0_3 l0_4 a0_5 a0_6 a0_7 (rd l1 (l0_1.length : Int)) a2).bind fun t683 => (if y679.length + t683.length < 17592186044416 then (some (y679 ++ t683)) else (none))) else (none)) else (none)) else (if 0 ≤ (l0_1.length : Int) then (if (l0_1.length : Int) < (l1.length : Int) then (if 0 ≤ (wrap64 ((l0_1.length : Int) + 1)) then (if (wrap64 ((l0_1.length : Int) + 1)) < (l1.length : Int) then (if 0 ≤ (wrap64 ((l0_1.length : Int) + 2)) then (if (wrap64 ((l0_1.length : Int) + 2)) ≤ (l1.length : Int) then ((vinculumref13_inside.f k a0_0 l0_1 a0_2 a0_3 l0_4 a0_5 a0_6 a0_7 (rd l1 (l0_1.length : Int)) (rd l1 (wrap64 ((l0_1.length : Int) + 1))) (l1.drop ((wrap64 ((l0_1.length : Int) + 2)) : Int).toNat)).bind fun t692 => (if y679.length + t692.length < 17592186044416 then (some (y679 ++ t692)) else (none))) else (none)) else (none)) else (none)) else (none)) else (none)) else (none)))) else (none))) else ((some (([] : List Int) : List Int)).bind fun y670 => (if y670.length + l1.length < 17592186044416 then (some (y670 ++ l1)) else (none)))) = some r := H
 have A4 := zab.mk A40
 clear A40
 by_cases c5 : t669 = true
 ·subst c5
  have H1 : ((some (([] : List Int) : List Int)).bind fun y676 => (if y676.length + l0_1.length < 17592186044416 then ((some (y676 ++ l0_1 : List Int)).bind fun y679 => (if (l1.length : Int) = (wrap64 ((l0_1.length : Int) + 1)) then (if 0 ≤ (l0_1.length : Int) then (if (l0_1.length : Int) < (l1.length : Int) then ((vinculumref13_offset.f k a0_0 l0_1 a0_2 a0_3 l0_4 a0_5 a0_6 a0_7 (rd l1 (l0_1.length : Int)) a2).bind fun t683 => (if y679.length + t683.length < 17592186044416 then (some (y679 ++ t683)) else (none))) else (none)) else (none)) else (if 0 ≤ (l0_1.length : Int) then (if (l0_1.length : Int) < (l1.length : Int) then (if 0 ≤ (wrap64 ((l0_1.length : Int) + 1)) then (if (wrap64 ((l0_1.length : Int) + 1)) < (l1.length : Int) then (if 0 ≤ (wrap64 ((l0_1.length : Int) + 2)) then (if (wrap64 ((l0_1.length : Int) + 2)) ≤ (l1.length : Int) then ((vinculumref13_inside.f k a0_0 l0_1 a0_2 a0_3 l0_4 a0_5 a0_6 a0_7 (rd l1 (l0_1.length : Int)) (rd l1 (wrap64 ((l0_1.length : Int) + 1))) (l1.drop ((wrap64 ((l0_1.length : Int) + 2)) : Int).toNat)).bind fun t692 => (if y679.length + t692.length < 17592186044416 then (some (y679 ++ t692)) else (none))) else (none)) else (none)) else (none)) else (none)) else (none)) else (none)))) else (none))) = some r := by rw [if_pos rfl] at H; exact H
  clear H
  have H := H1
  clear H1
  obtain ⟨y676, hy676⟩ : ∃ y_ : List Int, y_ = (([] : List Int)) := ⟨_, rfl⟩
  replace H : (if y676.length + l0_1.length < 17592186044416 then ((some (y676 ++ l0_1 : List Int)).bind fun y679 => (if (l1.length : Int) = (wrap64 ((l0_1.length : Int) + 1)) then (if 0 ≤ (l0_1.length : Int) then (if (l0_1.length : Int) < (l1.length : Int) then ((vinculumref13_offset.f k a0_0 l0_1 a0_2 a0_3 l0_4 a0_5 a0_6 a0_7 (rd l1 (l0_1.length : Int)) a2).bind fun t683 => (if y679.length + t683.length < 17592186044416 then (some (y679 ++ t683)) else (none))) else (none)) else (none)) else (if 0 ≤ (l0_1.length : Int) then (if (l0_1.length : Int) < (l1.length : Int) then (if 0 ≤ (wrap64 ((l0_1.length : Int) + 1)) then (if (wrap64 ((l0_1.length : Int) + 1)) < (l1.length : Int) then (if 0 ≤ (wrap64 ((l0_1.length : Int) + 2)) then (if (wrap64 ((l0_1.length : Int) + 2)) ≤ (l1.length : Int) then ((vinculumref13_inside.f k a0_0 l0_1 a0_2 a0_3 l0_4 a0_5 a0_6 a0_7 (rd l1 (l0_1.length : Int)) (rd l1 (wrap64 ((l0_1.length : Int) + 1))) (l1.drop ((wrap64 ((l0_1.length : Int) + 2)) : Int).toNat)).bind fun t692 => (if y679.length + t692.length < 17592186044416 then (some (y679 ++ t692)) else (none))) else (none)) else (none)) else (none)) else (none)) else (none)) else (none)))) else (none)) = some r := by first | (rw [hy676]; with_reducible exact H) | (have H2_ := (Option.bind_some _ _).symm.trans H; rw [hy676]; with_reducible exact H2_) | (have H2_ := (Option.bind_some _ _).symm.trans H; with_reducible exact H2_) | with_reducible exact H | (rw [hy676]; exact H) | exact H
  have Ny676 := zab.mk hy676
  clear hy676
  by_cases c6 : y676.length + l0_1.length < 17592186044416
  ·rw [if_pos c6] at H
   have LMc6 := zab.mk c6
   clear c6
   obtain ⟨y679, hy679⟩ : ∃ y_ : List Int, y_ = (y676 ++ l0_1) := ⟨_, rfl⟩
   replace H : (if (l1.length : Int) = (wrap64 ((l0_1.length : Int) + 1)) then (if 0 ≤ (l0_1.length : Int) then (if (l0_1.length : Int) < (l1.length : Int) then ((vinculumref13_offset.f k a0_0 l0_1 a0_2 a0_3 l0_4 a0_5 a0_6 a0_7 (rd l1 (l0_1.length : Int)) a2).bind fun t683 => (if y679.length + t683.length < 17592186044416 then (some (y679 ++ t683)) else (none))) else (none)) else (none)) else (if 0 ≤ (l0_1.length : Int) then (if (l0_1.length : Int) < (l1.length : Int) then (if 0 ≤ (wrap64 ((l0_1.length : Int) + 1)) then (if (wrap64 ((l0_1.length : Int) + 1)) < (l1.length : Int) then (if 0 ≤ (wrap64 ((l0_1.length : Int) + 2)) then (if (wrap64 ((l0_1.length : Int) + 2)) ≤ (l1.length : Int) then ((vinculumref13_inside.f k a0_0 l0_1 a0_2 a0_3 l0_4 a0_5 a0_6 a0_7 (rd l1 (l0_1.length : Int)) (rd l1 (wrap64 ((l0_1.length : Int) + 1))) (l1.drop ((wrap64 ((l0_1.length : Int) + 2)) : Int).toNat)).bind fun t692 => (if y679.length + t692.length < 17592186044416 then (some (y679 ++ t692)) else (none))) else (none)) else (none)) else (none)) else (none)) else (none)) else (none))) = some r := by first | (rw [hy679]; with_reducible exact H) | (have H2_ := (Option.bind_some _ _).symm.trans H; rw [hy679]; with_reducible exact H2_) | (have H2_ := (Option.bind_some _ _).symm.trans H; with_reducible exact H2_) | with_reducible exact H | (rw [hy679]; exact H) | exact H
   have Ny679 := zab.mk hy679
   clear hy679
   by_cases c7 : (l1.length : Int) = (wrap64 ((l0_1.length : Int) + 1))
   ·rw [if_pos c7] at H
    have c7b0 : ((l1.length : Int) == (wrap64 ((l0_1.length : Int) + 1))) = true := beq_iff_eq.mpr c7
    have c7b1 : ((l1.length : Int) != (wrap64 ((l0_1.length : Int) + 1))) = false := bne_eq_false_iff_eq.mpr c7
    clear c7
    by_cases c8 : 0 ≤ (l0_1.length : Int)
    ·rw [if_pos c8] at H
     have c8b0 : decide (0 ≤ (l0_1.length : Int)) = true := decide_eq_true c8
     have c8b1 : decide (0 ≤ l0_1.length) = true := decide_eq_true (by omega)
     clear c8
     by_cases c9 : (l0_1.length : Int) < (l1.length : Int)
     ·rw [if_pos c9] at H
      have c9b0 : decide ((l0_1.length : Int) < (l1.length : Int)) = true := decide_eq_true c9
      have c9b1 : decide (l0_1.length < l1.length) = true := decide_eq_true (Int.ofNat_lt.mp c9)
      clear c9
      replace H := Option.bind_eq_some_iff.mp H
      obtain ⟨t683, A100, H⟩ := H
      replace H : (if y679.length + t683.length < 17592186044416 then (some (y679 ++ t683)) else (none)) = some r := H
      have A10 := zab.mk A100
      clear A100
      by_cases c11 : y679.length + t683.length < 17592186044416
      ·rw [if_pos c11] at H
       have LMc11 := zab.mk c11
       clear c11
       obtain ⟨y686, hy686⟩ : ∃ y_ : List Int, y_ = (y679 ++ t683) := ⟨_, rfl⟩
       replace H : (some y686) = some r := by first | (rw [hy686]; with_reducible exact H) | (have H2_ := (Option.bind_some _ _).symm.trans H; rw [hy686]; with_reducible exact H2_) | (have H2_ := (Option.bind_some _ _).symm.trans H; with_reducible exact H2_) | with_reducible exact H | (rw [hy686]; exact H) | exact H
       have Ny686 := zab.mk hy686
       clear hy686
       obtain rfl := Option.some.inj H
       go_enter Try.func23, Try.ntmps23
       try go_wp2_with (first | ((with_reducible refine zaq (N := 3) rfl ?_); refine zas ?hg (N := 3) ?hd (cs := #[.int .i64 a0_0, .slice A0_1 l0_1.length c0_1, .int .i64 a0_2, .int .i64 a0_3, .slice A0_4 l0_4.length c0_4, .int .i64 a0_5, .string a0_6, .string a0_7]) (t := 27) ?hr ?_; (case hd => rfl); (case hg => rfl); (case hr => first | (go_simp; done) | (go_simp; rfl)); intro gb668 hg w12 hbox hb; have n0_ := zab.mk (zal (by repeat (first | (with_reducible first | exact HB.o | apply zad | apply zaf | apply zae) | exact HB.o)) hb); have n1_ := zab.mk (hbox); have n2_ := zab.mk ((by rw [hg]; exact (zak (by repeat (first | (with_reducible first | exact HB.o | apply zad | apply zaf | apply zae) | exact HB.o))) : w.heap.size ≤ gb668)); have n3_ := zab.mk ((by rw [hg]; exact (zak (by repeat (first | (with_reducible first | exact HB.o | apply zad | apply zaf | apply zae) | exact HB.o))) : w.heap.size ≤ gb668)); clear HB; have HB := n0_; have BK668 := n1_; have GW668 := n2_; have GE668 := n3_; clear n0_ n1_ n2_ n3_; clear hb hbox hg; obtain ⟨hcz13_0, hcz13_1, hcz13_2, hcz13_3, hcz13_4, hcz13_5, hcz13_6, hcz13_7⟩ := cz8 BK668.o; obtain ⟨hfz13_0, hfz13_1, hfz13_2, hfz13_3, hfz13_4, hfz13_5, hfz13_6, hfz13_7⟩ := fz8 BK668.o) | ((with_reducible refine zax (f := 45) rfl ?_); refine zay (some 15) rfl rfl Try.func45 (by kernel_rfl) rfl #[.slice A1 l1.length c1, .slice A0_1 l0_1.length c0_1] rfl (by (try simp only [List.map_toArray, List.map_cons, List.map_nil]); first | done | rfl | (simp only [List.length_drop, List.length_take]; rfl)) ?_; (with_reducible refine (vinculumref13_within.calls k _ _ l1 _ _ l0_1 true _ ?side1 ?side2 ?side3 ?side4 A4.o).mono ?_); (case side1 => repeat (first | exact (Kd.C_below HR1.o HB.o) | (with_reducible first | refine Kd.C_alloc ?_ _ | refine Kd.C_drewN ?_ _ | refine Kd.C_drew ?_))); (case side2 => exact HC1.out); (case side3 => repeat (first | exact (Kd.C_below HR0_1.o HB.o) | (with_reducible first | refine Kd.C_alloc ?_ _ | refine Kd.C_drewN ?_ _ | refine Kd.C_drew ?_))); (case side4 => exact HC0_1.out); rintro e w' ⟨rfl, ⟨nd, rfl⟩⟩; refine ⟨_, rfl, ?_⟩) | ((with_reducible refine zaq (N := 20) rfl ?_); refine Kd.R_lit (Kd.int .i64) _ 3 ?hg (N := 20) ?hd (xs := ([] : List Int)) (inner := []) (ok := fun _ => True) (okp := fun _ => True) ?hr ?hp (fun _ hk => hk) trivial (Below.refl _ _) (Nat.le_refl _) (by simp) ?_; (case hd => rfl); (case hg => rfl); (case hr => first | (go_simp; done) | (go_simp; rfl)); (case hp => exact (Reps.none _ _)); intro v677 w14 ho15 hb hg_ hnew_; clear hg_ hnew_; (first | rw [← Ny676.out] at ho15 | (simp only [Int.reduceToNat] at ho15; rw [← Ny676.out] at ho15)); have n0_ := zab.mk (Kd.R_lower ho15 (zak (by repeat (first | (with_reducible first | exact HB.o | apply zad | apply zaf | apply zae | refine zag ?_ GE668.o) | exact HB.o)))); have n1_ := zab.mk (zam (by (with_reducible repeat (first | refine zaj ?_ _ | refine zah ?_ | refine zai ?_ _)); exact BK668.o) hb); have n2_ := zab.mk (zal (by repeat (first | (with_reducible first | exact HB.o | apply zad | apply zaf | apply zae | refine zag ?_ GE668.o) | exact HB.o)) hb); clear BK668; clear HB; have HO678 := n0_; have BK668 := n1_; have HB := n2_; clear n0_ n1_ n2_; clear hb ho15; obtain ⟨hcz16_0, hcz16_1, hcz16_2, hcz16_3, hcz16_4, hcz16_5, hcz16_6, hcz16_7⟩ := cz8 BK668.o; obtain ⟨hfz16_0, hfz16_1, hfz16_2, hfz16_3, hfz16_4, hfz16_5, hfz16_6, hfz16_7⟩ := fz8 BK668.o) | ((with_reducible refine zaM (b := .append) (xs := #[.tmp 20, .tmp 22]) rfl ?_); at_builtin; refine Kd.R_append_rows (Kd.int .i64) (w0 := w) w.heap.size rfl (.tmp 20) (.tmp 22) 25 3 (.int .i64 0) 8 rfl Try.underlying25 info3 rfl (by decide) (by omega) v677 y676 l0_1 _ _ _ (fun _ => True) (fun _ => False) rfl rfl ?aO ?aR (fun _ _ h => h) (fun _ h => h.elim) ?aF ?aB ?aS ?aL ?_; (case aR => repeat (first | exact (Kd.C_below HR0_1.o HB.o) | (with_reducible first | refine Kd.C_alloc ?_ _ | refine Kd.C_drewN ?_ _ | refine Kd.C_drew ?_))); (case aB => exact (by repeat (first | (with_reducible first | exact HB.o | apply zad | apply zaf | apply zae | refine zag ?_ GE668.o) | exact HB.o))); (case aF => exact (fun _ _ => trivial)); (case aO => exact (by (with_reducible repeat (first | apply Kd.R_alloc | apply Kd.R_drewN | apply Kd.R_drew)); exact HO678.o)); (case aS => exact (zak (by repeat (first | (with_reducible first | exact HB.o | apply zad | apply zaf | apply zae | refine zag ?_ GE668.o) | exact HB.o)))); (case aL => have := LMc6.out; omega); intro v680 w17 ho hb hg hat; rw [← Ny679.out] at ho; have n0_ := zab.mk (zaK (by (with_reducible repeat (first | refine zaj ?_ _ | refine zah ?_ | refine zai ?_ _)); exact BK668.o) hg (Kd.R_ne HO678.o BK668.o (by decide))); have n1_ := zab.mk (hb); have n2_ := zab.mk (ho); clear BK668; clear HB; clear HO678; have BK668 := n0_; have HB := n1_; have HO681 := n2_; clear n0_ n1_ n2_; clear ho hb hg hat))
       have n0_ := zab.mk (Kd.R_drew HO681.o)
       have n1_ := zab.mk (zah BK668.o)
       have n2_ := zab.mk (zae HB.o)
       clear HO681
       clear BK668
       clear HB
       have HO681 := n0_
       have BK668 := n1_
       have HB := n2_
       clear n0_ n1_ n2_
       have p682 : 0 ≤ ((l0_1.length : Int) : Int) := of_decide_eq_true (by first | (with_reducible assumption) | assumption)
       have q682 : (l0_1.length : Int) < (l1.length : Int) := of_decide_eq_true (by first | (with_reducible assumption) | assumption)
       obtain ⟨ad682, e682, hx682_0⟩ := Kd.at_int HR1.o (l0_1.length : Int) p682 q682
       have hw682_0 := hx682_0
       cases e682
       replace hx682_0 := (HB.o.cell (World.block_lt_of_cell? w _ hx682_0)).trans hx682_0
       (try simp only [Go.IntWalk.toNatUp] at hx682_0)
       replace p682 := eq_true p682
       replace q682 := eq_true q682
       refine zaN (n := 10) (S := fun w' => w'.cell? ⟨gb668, 0, none⟩ = some (.int .i64 a0_0) ∧ w'.cell? ⟨gb668, 1, none⟩ = some (.slice A0_1 l0_1.length c0_1) ∧ w'.cell? ⟨gb668, 2, none⟩ = some (.int .i64 a0_2) ∧ w'.cell? ⟨gb668, 3, none⟩ = some (.int .i64 a0_3) ∧ w'.cell? ⟨gb668, 4, none⟩ = some (.slice A0_4 l0_4.length c0_4) ∧ w'.cell? ⟨gb668, 5, none⟩ = some (.int .i64 a0_5) ∧ w'.cell? ⟨gb668, 6, none⟩ = some (.string a0_6) ∧ w'.cell? ⟨gb668, 7, none⟩ = some (.string a0_7) ∧ w'.cell? (ad682.add ((l0_1.length : Int)).toNat) = some (.int .i64 (rd l1 (l0_1.length : Int)))) (ds := []) #[false, false, false, false, false, false, false, false, false, false] (by kernel_rfl) rfl rfl ⟨(zaa BK668.o 0).trans rfl, (zaa BK668.o 1).trans rfl, (zaa BK668.o 2).trans rfl, (zaa BK668.o 3).trans rfl, (zaa BK668.o 4).trans rfl, (zaa BK668.o 5).trans rfl, (zaa BK668.o 6).trans rfl, (zaa BK668.o 7).trans rfl, ((HB.o.cell (World.block_lt_of_cell? w _ hw682_0)).trans hw682_0)⟩ (fun hHeld => ?_); refine zaP vinculumref13_Map.tab6 vinculumref13_Map.bits6 (fun HT_ HW_ => ?_)
       generalize w17.drew = w18 at HO681 BK668 HB hx682_0 hHeld ⊢
       refine pure_ (i := 0) (N := some 29) (v := ?_) (a' := ?_) #[true, false, false, false, false, false, false, false, false, false] rfl rfl (zan HT_.out (by kernel_rfl)) (fun _ _ _ h => h) (Or.inl ⟨by rfl, ?_⟩) ?_ ?_
       rotate_left
       ·intro w'
        go_simp
        with_reducible rfl
       rotate_left
       ·simp only [Act.put, List.setIfInBounds_toArray, List.set_cons_zero, List.set_cons_succ, i64_w, i32_w]
        rfl
       refine pure_ (i := 2) (N := some 31) (v := ?_) (a' := ?_) #[true, false, true, false, false, false, false, false, false, false] rfl rfl (zan HT_.out (by kernel_rfl)) (fun _ _ _ h => h) (Or.inl ⟨by rfl, ?_⟩) ?_ ?_
       rotate_left
       ·intro w'
        go_simp
        with_reducible rfl
       rotate_left
       ·simp only [Act.put, List.setIfInBounds_toArray, List.set_cons_zero, List.set_cons_succ, i64_w, i32_w]
        rfl
       refine pure_ (i := 3) (N := some 32) (v := ?_) (a' := ?_) #[true, false, true, true, false, false, false, false, false, false] rfl rfl (zan HT_.out (by kernel_rfl)) (fun _ _ _ h => h) (Or.inl ⟨by rfl, ?_⟩) ?_ ?_
       rotate_left
       ·intro w'
        go_simp
        with_reducible rfl
       rotate_left
       ·simp only [Act.put, List.setIfInBounds_toArray, List.set_cons_zero, List.set_cons_succ, i64_w, i32_w]
        rfl
       refine pure_ (i := 4) (N := some 33) (v := ?_) (a' := ?_) #[true, false, true, true, true, false, false, false, false, false] rfl rfl (zan HT_.out (by kernel_rfl)) (fun _ _ _ h => h) (Or.inl ⟨by rfl, ?_⟩) ?_ ?_
       rotate_left
       ·intro w'
        go_simp
        with_reducible rfl
       rotate_left
       ·simp only [Act.put, List.setIfInBounds_toArray, List.set_cons_zero, List.set_cons_succ, i64_w, i32_w]
        rfl
       refine pure_ (i := 6) (N := some 35) (v := ?_) (a' := ?_) #[true, false, true, true, true, false, true, false, false, false] rfl rfl (zan HT_.out (by kernel_rfl)) (fun _ _ _ h => h) (Or.inl ⟨by rfl, ?_⟩) ?_ ?_
       rotate_left
       ·intro w'
        go_simp
        with_reducible rfl
       rotate_left
       ·simp only [Act.put, List.setIfInBounds_toArray, List.set_cons_zero, List.set_cons_succ, i64_w, i32_w]
        rfl
       refine take_ (i := 1) (N := some 30) (v := ?_) (a' := ?_) #[true, true, true, true, true, false, true, false, false, false] rfl rfl (zav HT_.out HW_.out (by kernel_rfl)) (fun _ _ _ h => h) (Or.inl ⟨by rfl, ?_⟩) hHeld ?_ ?_
       rotate_left
       ·rintro w' ⟨s0, s1, s2, s3, s4, s5, s6, s7, s8⟩
        first | (go_simp; with_reducible rfl) | (simp only [Int.toNat_natCast] at *; go_simp; with_reducible rfl)
       rotate_left
       ·simp only [Act.put, List.setIfInBounds_toArray, List.set_cons_zero, List.set_cons_succ, i64_w, i32_w]
        rfl
       refine take_ (i := 5) (N := some 34) (v := ?_) (a' := ?_) #[true, true, true, true, true, true, true, false, false, false] rfl rfl (zav HT_.out HW_.out (by kernel_rfl)) (fun _ _ _ h => h) (Or.inl ⟨by rfl, ?_⟩) hHeld ?_ ?_
       rotate_left
       ·rintro w' ⟨s0, s1, s2, s3, s4, s5, s6, s7, s8⟩
        first | (go_simp; with_reducible rfl) | (simp only [Int.toNat_natCast] at *; go_simp; with_reducible rfl)
       rotate_left
       ·simp only [Act.put, List.setIfInBounds_toArray, List.set_cons_zero, List.set_cons_succ, i64_w, i32_w]
        rfl
       refine one_ (i := 7) (N := some 36) #[true, true, true, true, true, true, true, true, false, false] rfl rfl (zaJ HT_.out (by kernel_rfl)) (by decide) (fun K hK => ?_)
       refine goes_ Try.func46 (by kernel_rfl) rfl #[.agg #[.int .i64 a0_0, .slice A0_1 l0_1.length c0_1, .int .i64 a0_2, .int .i64 a0_3, .slice A0_4 l0_4.length c0_4, .int .i64 a0_5, .string a0_6, .string a0_7], .int .i64 (rd l1 (l0_1.length : Int)), .bool a2] (by rfl) rfl rfl (by (try simp only [List.map_toArray, List.map_cons, List.map_nil]); first | done | rfl | (simp only [List.length_drop, List.length_take]; rfl)) ?_
       with_reducible refine (vinculumref13_offset.calls k a0_0 _ _ l0_1 a0_2 a0_3 _ _ l0_4 a0_5 a0_6 a0_7 (rd l1 (l0_1.length : Int)) a2 t683 _ ?side1 ?side2 ?side3 ?side4 A10.o).mono ?_
       (case side1 => repeat (first | exact (Kd.C_below HR0_1.o HB.o) | (with_reducible first | refine Kd.C_alloc ?_ _ | refine Kd.C_drewN ?_ _ | refine Kd.C_drew ?_)))
       (case side2 => exact HC0_1.out)
       (case side3 => repeat (first | exact (Kd.C_below HR0_4.o HB.o) | (with_reducible first | refine Kd.C_alloc ?_ _ | refine Kd.C_drewN ?_ _ | refine Kd.C_drew ?_)))
       (case side4 => exact HC0_4.out)
       rintro e w19 ⟨v684, rfl, ho0, hb⟩
       refine ⟨_, rfl, ?_⟩
       have n0_ := zab.mk (Kd.R_elder' (by (with_reducible repeat (first | apply Kd.R_alloc | apply Kd.R_drewN | apply Kd.R_drew)); exact HO681.o) (Kd.R_base ho0) hb)
       have n1_ := zab.mk (Kd.R_lower (Kd.R_new' ho0 (Kd.R_lt (by (with_reducible repeat (first | apply Kd.R_alloc | apply Kd.R_drewN | apply Kd.R_drew)); exact HO681.o))) (zak (by repeat (first | (with_reducible first | exact HB.o | apply zad | apply zaf | apply zae | refine zag ?_ GE668.o) | exact HB.o))))
       have n2_ := zab.mk (zam (by (with_reducible repeat (first | refine zaj ?_ _ | refine zah ?_ | refine zai ?_ _)); exact BK668.o) hb)
       have n3_ := zab.mk (zal (by repeat (first | (with_reducible first | exact HB.o | apply zad | apply zaf | apply zae | refine zag ?_ GE668.o) | exact HB.o)) hb)
       clear HO681
       clear BK668
       clear HB
       have HO681 := n0_
       have HO685 := n1_
       have BK668 := n2_
       have HB := n3_
       clear n0_ n1_ n2_ n3_
       (try clear hb)
       (try clear hb2)
       (try clear hk)
       (try clear hi)
       (try clear ho0)
       obtain ⟨Ao21, co21, eo21⟩ := Kd.R_slice HO685.o
       (first | subst eo21 | (injection eo21 with f1_ f2_ f3_; have f4_ := f1_.symm; have f5_ := f3_.symm; clear f1_ f2_ f3_; subst f4_; subst f5_))
       refine hK.out _ _ ⟨(zaa BK668.o 0).trans rfl, (zaa BK668.o 1).trans rfl, (zaa BK668.o 2).trans rfl, (zaa BK668.o 3).trans rfl, (zaa BK668.o 4).trans rfl, (zaa BK668.o 5).trans rfl, (zaa BK668.o 6).trans rfl, (zaa BK668.o 7).trans rfl, ((HB.o.cell (World.block_lt_of_cell? w _ hw682_0)).trans hw682_0)⟩ (fun hHeld => ?_)
       clear hK K
       refine norm_ (a' := ?_) ?_ ?_
       rotate_left
       ·show Act.put _ (some 36) _ = _
        simp only [Act.put, List.setIfInBounds_toArray, List.set_cons_zero, List.set_cons_succ, i64_w, i32_w]
        rfl
       refine one_ (i := 8) (N := some 37) #[true, true, true, true, true, true, true, true, true, false] rfl rfl (zaJ HT_.out (by kernel_rfl)) (by decide) (fun K hK => ?_)
       refine Kd.R_append_rows_step (Kd.int .i64) (w0 := w) w.heap.size (by rfl) (.tmp 29) (.tmp 36) 25 3 (.int .i64 0) 8 rfl Try.underlying25 info3 rfl (by decide) (by omega) v680 y679 t683 _ _ _ (fun k_ => some k_ ≠ (.slice Ao21 t683.length co21 : Value).ownBlock) (fun _ => False) rfl rfl ?aO ?aR (fun _ _ h => h) (fun _ h => h.elim) ?aF ?aB ?aS ?aL ?_
       (case aR => repeat (first | exact (Kd.R_reads' HO685.o).2.2 | (with_reducible first | refine Kd.C_alloc ?_ _ | refine Kd.C_drewN ?_ _ | refine Kd.C_drew ?_)))
       (case aB => exact (by repeat (first | (with_reducible first | exact HB.o | apply zad | apply zaf | apply zae | refine zag ?_ GE668.o) | exact HB.o)))
       (case aF => exact (fun k_ hk => Kd.fresh' (Kd.R_lt (by (with_reducible repeat (first | apply Kd.R_alloc | apply Kd.R_drewN | apply Kd.R_drew)); exact HO685.o)) k_ hk))
       (case aO => exact (by (with_reducible repeat (first | apply Kd.R_alloc | apply Kd.R_drewN | apply Kd.R_drew)); exact Kd.R_mono HO681.o (fun _ hk => hk.2)))
       (case aS => exact (zak (by repeat (first | (with_reducible first | exact HB.o | apply zad | apply zaf | apply zae | refine zag ?_ GE668.o) | exact HB.o))))
       (case aL => have := LMc11.out; omega)
       intro v687 w20 ho hb hg hat
       rw [← Ny686.out] at ho
       have n0_ := zab.mk (zaK (by (with_reducible repeat (first | refine zaj ?_ _ | refine zah ?_ | refine zai ?_ _)); exact BK668.o) hg (Kd.R_ne HO681.o BK668.o (by decide)))
       have n1_ := zab.mk (Kd.R_after (ok := (fun _ => True)) (by (with_reducible repeat (first | apply Kd.R_alloc | apply Kd.R_drewN | apply Kd.R_drew)); exact HO685.o) hg hat)
       have n2_ := zab.mk (hb)
       have n3_ := zab.mk (ho)
       clear BK668
       clear HO685
       clear HB
       clear HO681
       have BK668 := n0_
       have HO685 := n1_
       have HB := n2_
       have HO688 := n3_
       clear n0_ n1_ n2_ n3_
       clear ho hb hg hat
       refine hK.out _ _ ⟨(zaa BK668.o 0).trans rfl, (zaa BK668.o 1).trans rfl, (zaa BK668.o 2).trans rfl, (zaa BK668.o 3).trans rfl, (zaa BK668.o 4).trans rfl, (zaa BK668.o 5).trans rfl, (zaa BK668.o 6).trans rfl, (zaa BK668.o 7).trans rfl, ((HB.o.cell (World.block_lt_of_cell? w _ hw682_0)).trans hw682_0)⟩ (fun hHeld => ?_)
       clear hK K
       refine norm_ (a' := ?_) ?_ ?_
       rotate_left
       ·show Act.put _ (some 37) _ = _
        simp only [Act.put, List.setIfInBounds_toArray, List.set_cons_zero, List.set_cons_succ, i64_w, i32_w]
        rfl
       refine pure_ (i := 9) (N := some 6) (v := ?_) (a' := ?_) #[true, true, true, true, true, true, true, true, true, true] rfl rfl (zan HT_.out (by kernel_rfl)) (fun _ _ _ h => h) (Or.inl ⟨by rfl, ?_⟩) ?_ ?_
       rotate_left
       ·intro w'
        go_simp
        with_reducible rfl
       rotate_left
       ·simp only [Act.put, List.setIfInBounds_toArray, List.set_cons_zero, List.set_cons_succ, i64_w, i32_w]
        rfl
       refine done_ (zaQ HT_.out (by kernel_rfl)) ?_
       try go_wp2
       go_ret
       exact ⟨_, by first | rfl | (simp [errW_none, errW_some] <;> rfl) | (simp [*, errW_none, errW_some] <;> rfl), by (with_reducible repeat (first | apply Kd.R_alloc | apply Kd.R_drewN | apply Kd.R_drew)); exact Kd.R_mono HO688.o (fun _ hk => trivial), by repeat (first | (with_reducible first | exact HB.o | apply zad | apply zaf | apply zae | refine zag ?_ GE668.o) | exact HB.o)⟩
      ·rw [if_neg c11] at H
       exact absurd H (by simp)
     ·rw [if_neg c9] at H
      exact absurd H (by simp)
    ·rw [if_neg c8] at H
     exact absurd H (by simp)
   ·rw [if_neg c7] at H
    have c7b0 : ((l1.length : Int) == (wrap64 ((l0_1.length : Int) + 1))) = false := beq_eq_false_iff_ne.mpr c7
    have c7b1 : ((l1.length : Int) != (wrap64 ((l0_1.length : Int) + 1))) = true := bne_iff_ne.mpr c7
    by_cases c22 : 0 ≤ (l0_1.length : Int)
    ·rw [if_pos c22] at H
     have c22b0 : decide (0 ≤ (l0_1.length : Int)) = true := decide_eq_true c22
     have c22b1 : decide (0 ≤ l0_1.length) = true := decide_eq_true (by omega)
     clear c22
     by_cases c23 : (l0_1.length : Int) < (l1.length : Int)
     ·rw [if_pos c23] at H
      have c23b0 : decide ((l0_1.length : Int) < (l1.length : Int)) = true := decide_eq_true c23
      have c23b1 : decide (l0_1.length < l1.length) = true := decide_eq_true (Int.ofNat_lt.mp c23)
      clear c23
      obtain ⟨ji24, hji24⟩ : ∃ j_ : Int, (wrap64 ((l0_1.length : Int) + 1)) = j_ := ⟨_, rfl⟩
      replace H : (if 0 ≤ (ji24) then (if (ji24) < (l1.length : Int) then (if 0 ≤ (wrap64 ((l0_1.length : Int) + 2)) then (if (wrap64 ((l0_1.length : Int) + 2)) ≤ (l1.length : Int) then ((vinculumref13_inside.f k a0_0 l0_1 a0_2 a0_3 l0_4 a0_5 a0_6 a0_7 (rd l1 (l0_1.length : Int)) (rd l1 (ji24)) (l1.drop ((wrap64 ((l0_1.length : Int) + 2)) : Int).toNat)).bind fun t692 => (if y679.length + t692.length < 17592186044416 then (some (y679 ++ t692)) else (none))) else (none)) else (none)) else (none)) else (none)) = some r := by first | (rw [hji24] at H; exact H) | (simp only [hji24] at H ⊢; exact H)
      (try rw [hji24] at c7b0)
      (try rw [hji24] at c7b1)
      (try rw [hji24] at A4)
      have hji24w : (IntKind.i64.wrap ((l0_1.length : Int) + 1)) = ji24 := (i64_w _).trans hji24
      by_cases c25 : 0 ≤ (ji24)
      ·rw [if_pos c25] at H
       have c25b0 : decide (0 ≤ (ji24)) = true := decide_eq_true c25
       clear c25
       by_cases c26 : (ji24) < (l1.length : Int)
       ·rw [if_pos c26] at H
        have c26b0 : decide ((ji24) < (l1.length : Int)) = true := decide_eq_true c26
        clear c26
        obtain ⟨ji27, hji27⟩ : ∃ j_ : Int, (wrap64 ((l0_1.length : Int) + 2)) = j_ := ⟨_, rfl⟩
        replace H : (if 0 ≤ (ji27) then (if (ji27) ≤ (l1.length : Int) then ((vinculumref13_inside.f k a0_0 l0_1 a0_2 a0_3 l0_4 a0_5 a0_6 a0_7 (rd l1 (l0_1.length : Int)) (rd l1 (ji24)) (l1.drop ((ji27) : Int).toNat)).bind fun t692 => (if y679.length + t692.length < 17592186044416 then (some (y679 ++ t692)) else (none))) else (none)) else (none)) = some r := by first | (rw [hji27] at H; exact H) | (simp only [hji27] at H ⊢; exact H)
        (try rw [hji27] at A4)
        have hji27w : (IntKind.i64.wrap ((l0_1.length : Int) + 2)) = ji27 := (i64_w _).trans hji27
        by_cases c28 : 0 ≤ (ji27)
        ·rw [if_pos c28] at H
         have c28b0 := eq_true c28
         have c28b1 : decide (0 ≤ (ji27)) = true := decide_eq_true c28
         clear c28
         by_cases c29 : (ji27) ≤ (l1.length : Int)
         ·rw [if_pos c29] at H
          have c29b0 := eq_true c29
          have c29b1 : decide ((ji27) ≤ (l1.length : Int)) = true := decide_eq_true c29
          clear c29
          replace H := Option.bind_eq_some_iff.mp H
          obtain ⟨t692, A300, H⟩ := H
          replace H : (if y679.length + t692.length < 17592186044416 then (some (y679 ++ t692)) else (none)) = some r := H
          have A30 := zab.mk A300
          clear A300
          by_cases c31 : y679.length + t692.length < 17592186044416
          ·rw [if_pos c31] at H
           have LMc31 := zab.mk c31
           clear c31
           obtain ⟨y695, hy695⟩ : ∃ y_ : List Int, y_ = (y679 ++ t692) := ⟨_, rfl⟩
           replace H : (some y695) = some r := by first | (rw [hy695]; with_reducible exact H) | (have H2_ := (Option.bind_some _ _).symm.trans H; rw [hy695]; with_reducible exact H2_) | (have H2_ := (Option.bind_some _ _).symm.trans H; with_reducible exact H2_) | with_reducible exact H | (rw [hy695]; exact H) | exact H
           have Ny695 := zab.mk hy695
           clear hy695
           obtain rfl := Option.some.inj H
           go_enter Try.func23, Try.ntmps23
           try go_wp2_with (first | ((with_reducible refine zaq (N := 3) rfl ?_); refine zas ?hg (N := 3) ?hd (cs := #[.int .i64 a0_0, .slice A0_1 l0_1.length c0_1, .int .i64 a0_2, .int .i64 a0_3, .slice A0_4 l0_4.length c0_4, .int .i64 a0_5, .string a0_6, .string a0_7]) (t := 27) ?hr ?_; (case hd => rfl); (case hg => rfl); (case hr => first | (go_simp; done) | (go_simp; rfl)); intro gb668 hg w32 hbox hb; have n0_ := zab.mk (zal (by repeat (first | (with_reducible first | exact HB.o | apply zad | apply zaf | apply zae) | exact HB.o)) hb); have n1_ := zab.mk (hbox); have n2_ := zab.mk ((by rw [hg]; exact (zak (by repeat (first | (with_reducible first | exact HB.o | apply zad | apply zaf | apply zae) | exact HB.o))) : w.heap.size ≤ gb668)); have n3_ := zab.mk ((by rw [hg]; exact (zak (by repeat (first | (with_reducible first | exact HB.o | apply zad | apply zaf | apply zae) | exact HB.o))) : w.heap.size ≤ gb668)); clear HB; have HB := n0_; have BK668 := n1_; have GW668 := n2_; have GE668 := n3_; clear n0_ n1_ n2_ n3_; clear hb hbox hg; obtain ⟨hcz33_0, hcz33_1, hcz33_2, hcz33_3, hcz33_4, hcz33_5, hcz33_6, hcz33_7⟩ := cz8 BK668.o; obtain ⟨hfz33_0, hfz33_1, hfz33_2, hfz33_3, hfz33_4, hfz33_5, hfz33_6, hfz33_7⟩ := fz8 BK668.o) | ((with_reducible refine zax (f := 45) rfl ?_); refine zay (some 15) rfl rfl Try.func45 (by kernel_rfl) rfl #[.slice A1 l1.length c1, .slice A0_1 l0_1.length c0_1] rfl (by (try simp only [List.map_toArray, List.map_cons, List.map_nil]); first | done | rfl | (simp only [List.length_drop, List.length_take]; rfl)) ?_; (with_reducible refine (vinculumref13_within.calls k _ _ l1 _ _ l0_1 true _ ?side1 ?side2 ?side3 ?side4 A4.o).mono ?_); (case side1 => repeat (first | exact (Kd.C_below HR1.o HB.o) | (with_reducible first | refine Kd.C_alloc ?_ _ | refine Kd.C_drewN ?_ _ | refine Kd.C_drew ?_))); (case side2 => exact HC1.out); (case side3 => repeat (first | exact (Kd.C_below HR0_1.o HB.o) | (with_reducible first | refine Kd.C_alloc ?_ _ | refine Kd.C_drewN ?_ _ | refine Kd.C_drew ?_))); (case side4 => exact HC0_1.out); rintro e w' ⟨rfl, ⟨nd, rfl⟩⟩; refine ⟨_, rfl, ?_⟩) | ((with_reducible refine zaq (N := 20) rfl ?_); refine Kd.R_lit (Kd.int .i64) _ 3 ?hg (N := 20) ?hd (xs := ([] : List Int)) (inner := []) (ok := fun _ => True) (okp := fun _ => True) ?hr ?hp (fun _ hk => hk) trivial (Below.refl _ _) (Nat.le_refl _) (by simp) ?_; (case hd => rfl); (case hg => rfl); (case hr => first | (go_simp; done) | (go_simp; rfl)); (case hp => exact (Reps.none _ _)); intro v677 w34 ho35 hb hg_ hnew_; clear hg_ hnew_; (first | rw [← Ny676.out] at ho35 | (simp only [Int.reduceToNat] at ho35; rw [← Ny676.out] at ho35)); have n0_ := zab.mk (Kd.R_lower ho35 (zak (by repeat (first | (with_reducible first | exact HB.o | apply zad | apply zaf | apply zae | refine zag ?_ GE668.o) | exact HB.o)))); have n1_ := zab.mk (zam (by (with_reducible repeat (first | refine zaj ?_ _ | refine zah ?_ | refine zai ?_ _)); exact BK668.o) hb); have n2_ := zab.mk (zal (by repeat (first | (with_reducible first | exact HB.o | apply zad | apply zaf | apply zae | refine zag ?_ GE668.o) | exact HB.o)) hb); clear BK668; clear HB; have HO678 := n0_; have BK668 := n1_; have HB := n2_; clear n0_ n1_ n2_; clear hb ho35; obtain ⟨hcz36_0, hcz36_1, hcz36_2, hcz36_3, hcz36_4, hcz36_5, hcz36_6, hcz36_7⟩ := cz8 BK668.o; obtain ⟨hfz36_0, hfz36_1, hfz36_2, hfz36_3, hfz36_4, hfz36_5, hfz36_6, hfz36_7⟩ := fz8 BK668.o) | ((with_reducible refine zaM (b := .append) (xs := #[.tmp 20, .tmp 22]) rfl ?_); at_builtin; refine Kd.R_append_rows (Kd.int .i64) (w0 := w) w.heap.size rfl (.tmp 20) (.tmp 22) 25 3 (.int .i64 0) 8 rfl Try.underlying25 info3 rfl (by decide) (by omega) v677 y676 l0_1 _ _ _ (fun _ => True) (fun _ => False) rfl rfl ?aO ?aR (fun _ _ h => h) (fun _ h => h.elim) ?aF ?aB ?aS ?aL ?_; (case aR => repeat (first | exact (Kd.C_below HR0_1.o HB.o) | (with_reducible first | refine Kd.C_alloc ?_ _ | refine Kd.C_drewN ?_ _ | refine Kd.C_drew ?_))); (case aB => exact (by repeat (first | (with_reducible first | exact HB.o | apply zad | apply zaf | apply zae | refine zag ?_ GE668.o) | exact HB.o))); (case aF => exact (fun _ _ => trivial)); (case aO => exact (by (with_reducible repeat (first | apply Kd.R_alloc | apply Kd.R_drewN | apply Kd.R_drew)); exact HO678.o)); (case aS => exact (zak (by repeat (first | (with_reducible first | exact HB.o | apply zad | apply zaf | apply zae | refine zag ?_ GE668.o) | exact HB.o)))); (case aL => have := LMc6.out; omega); intro v680 w37 ho hb hg hat; rw [← Ny679.out] at ho; have n0_ := zab.mk (zaK (by (with_reducible repeat (first | refine zaj ?_ _ | refine zah ?_ | refine zai ?_ _)); exact BK668.o) hg (Kd.R_ne HO678.o BK668.o (by decide))); have n1_ := zab.mk (hb); have n2_ := zab.mk (ho); clear BK668; clear HB; clear HO678; have BK668 := n0_; have HB := n1_; have HO681 := n2_; clear n0_ n1_ n2_; clear ho hb hg hat))
           have n0_ := zab.mk (Kd.R_drew HO681.o)
           have n1_ := zab.mk (zah BK668.o)
           have n2_ := zab.mk (zae HB.o)
           clear HO681
           clear BK668
           clear HB
           have HO681 := n0_
           have BK668 := n1_
           have HB := n2_
           clear n0_ n1_ n2_
           have p689 : 0 ≤ ((l0_1.length : Int) : Int) := of_decide_eq_true (by first | (with_reducible assumption) | assumption)
           have q689 : (l0_1.length : Int) < (l1.length : Int) := of_decide_eq_true (by first | (with_reducible assumption) | assumption)
           obtain ⟨ad689, e689, hx689_0⟩ := Kd.at_int HR1.o (l0_1.length : Int) p689 q689
           have hw689_0 := hx689_0
           cases e689
           replace hx689_0 := (HB.o.cell (World.block_lt_of_cell? w _ hx689_0)).trans hx689_0
           (try simp only [Go.IntWalk.toNatUp] at hx689_0)
           replace p689 := eq_true p689
           replace q689 := eq_true q689
           have p690 : 0 ≤ ((ji24) : Int) := of_decide_eq_true (by first | (with_reducible assumption) | assumption)
           have q690 : (ji24) < (l1.length : Int) := of_decide_eq_true (by first | (with_reducible assumption) | assumption)
           obtain ⟨ad690, e690, hx690_0⟩ := Kd.at_int HR1.o (ji24) p690 q690
           have hw690_0 := hx690_0
           obtain rfl : ad689 = ad690 := (by injection e690)
           replace hx690_0 := (HB.o.cell (World.block_lt_of_cell? w _ hx690_0)).trans hx690_0
           replace p690 := eq_true p690
           replace q690 := eq_true q690
           obtain ⟨i039, hi039, _, hsz39, _⟩ := info_parts info3
           obtain ⟨A39, hcut39, hA39, hC39⟩ := print_drop_of (P := Try.prog) (Value.int .i64) 0 25 3 .i64 Try.underlying25 hi039 hsz39 (some ad689) c1 l1 (ji27) (of_decide_eq_true (by first | (with_reducible assumption) | assumption)) (of_decide_eq_true (by first | (with_reducible assumption) | assumption)) HC1.out
           have HR691 := zab.mk (Kd.C_of_reads (h1 := fun _ => rfl) (hA39 _ (Kd.reads_of_C HR1.o)))
           have HC691 := zab.mk hC39
           clear hA39 hC39 hi039 hsz39
           refine zaN (n := 18) (S := fun w' => w'.cell? ⟨gb668, 0, none⟩ = some (.int .i64 a0_0) ∧ w'.cell? ⟨gb668, 1, none⟩ = some (.slice A0_1 l0_1.length c0_1) ∧ w'.cell? ⟨gb668, 2, none⟩ = some (.int .i64 a0_2) ∧ w'.cell? ⟨gb668, 3, none⟩ = some (.int .i64 a0_3) ∧ w'.cell? ⟨gb668, 4, none⟩ = some (.slice A0_4 l0_4.length c0_4) ∧ w'.cell? ⟨gb668, 5, none⟩ = some (.int .i64 a0_5) ∧ w'.cell? ⟨gb668, 6, none⟩ = some (.string a0_6) ∧ w'.cell? ⟨gb668, 7, none⟩ = some (.string a0_7) ∧ w'.cell? (ad689.add ((l0_1.length : Int)).toNat) = some (.int .i64 (rd l1 (l0_1.length : Int))) ∧ w'.cell? (ad689.add ((ji24)).toNat) = some (.int .i64 (rd l1 (ji24)))) (ds := []) #[false, false, false, false, false, false, false, false, false, false, false, false, false, false, false, false, false, false] (by kernel_rfl) rfl rfl ⟨(zaa BK668.o 0).trans rfl, (zaa BK668.o 1).trans rfl, (zaa BK668.o 2).trans rfl, (zaa BK668.o 3).trans rfl, (zaa BK668.o 4).trans rfl, (zaa BK668.o 5).trans rfl, (zaa BK668.o 6).trans rfl, (zaa BK668.o 7).trans rfl, ((HB.o.cell (World.block_lt_of_cell? w _ hw689_0)).trans hw689_0), ((HB.o.cell (World.block_lt_of_cell? w _ hw690_0)).trans hw690_0)⟩ (fun hHeld => ?_); refine zaP vinculumref13_Map.tab7 vinculumref13_Map.bits7 (fun HT_ HW_ => ?_)
           generalize w37.drew = w38 at HO681 BK668 HB HR691 hx689_0 hx690_0 hHeld ⊢
           refine pure_ (i := 0) (N := some 38) (v := ?_) (a' := ?_) #[true, false, false, false, false, false, false, false, false, false, false, false, false, false, false, false, false, false] rfl rfl (zan HT_.out (by kernel_rfl)) (fun _ _ _ h => h) (Or.inl ⟨by rfl, ?_⟩) ?_ ?_
           rotate_left
           ·intro w'
            go_simp
            with_reducible rfl
           rotate_left
           ·simp only [Act.put, List.setIfInBounds_toArray, List.set_cons_zero, List.set_cons_succ, i64_w, i32_w]
            rfl
           refine pure_ (i := 2) (N := some 40) (v := ?_) (a' := ?_) #[true, false, true, false, false, false, false, false, false, false, false, false, false, false, false, false, false, false] rfl rfl (zan HT_.out (by kernel_rfl)) (fun _ _ _ h => h) (Or.inl ⟨by rfl, ?_⟩) ?_ ?_
           rotate_left
           ·intro w'
            go_simp
            with_reducible rfl
           rotate_left
           ·simp only [Act.put, List.setIfInBounds_toArray, List.set_cons_zero, List.set_cons_succ, i64_w, i32_w]
            rfl
           refine pure_ (i := 3) (N := some 41) (v := ?_) (a' := ?_) #[true, false, true, true, false, false, false, false, false, false, false, false, false, false, false, false, false, false] rfl rfl (zan HT_.out (by kernel_rfl)) (fun _ _ _ h => h) (Or.inl ⟨by rfl, ?_⟩) ?_ ?_
           rotate_left
           ·intro w'
            go_simp
            with_reducible rfl
           rotate_left
           ·simp only [Act.put, List.setIfInBounds_toArray, List.set_cons_zero, List.set_cons_succ, i64_w, i32_w]
            rfl
           refine pure_ (i := 4) (N := some 42) (v := ?_) (a' := ?_) #[true, false, true, true, true, false, false, false, false, false, false, false, false, false, false, false, false, false] rfl rfl (zan HT_.out (by kernel_rfl)) (fun _ _ _ h => h) (Or.inl ⟨by rfl, ?_⟩) ?_ ?_
           rotate_left
           ·intro w'
            go_simp
            with_reducible rfl
           rotate_left
           ·simp only [Act.put, List.setIfInBounds_toArray, List.set_cons_zero, List.set_cons_succ, i64_w, i32_w]
            rfl
           refine pure_ (i := 6) (N := some 44) (v := ?_) (a' := ?_) #[true, false, true, true, true, false, true, false, false, false, false, false, false, false, false, false, false, false] rfl rfl (zan HT_.out (by kernel_rfl)) (fun _ _ _ h => h) (Or.inl ⟨by rfl, ?_⟩) ?_ ?_
           rotate_left
           ·intro w'
            go_simp
            with_reducible rfl
           rotate_left
           ·simp only [Act.put, List.setIfInBounds_toArray, List.set_cons_zero, List.set_cons_succ, i64_w, i32_w]
            rfl
           refine pure_ (i := 7) (N := some 45) (v := ?_) (a' := ?_) #[true, false, true, true, true, false, true, true, false, false, false, false, false, false, false, false, false, false] rfl rfl (zan HT_.out (by kernel_rfl)) (fun _ _ _ h => h) (Or.inl ⟨by rfl, ?_⟩) ?_ ?_
           rotate_left
           ·intro w'
            go_simp
            with_reducible rfl
           rotate_left
           ·simp only [Act.put, List.setIfInBounds_toArray, List.set_cons_zero, List.set_cons_succ, i64_w, i32_w]
            rfl
           refine pure_ (i := 8) (N := some 46) (v := ?_) (a' := ?_) #[true, false, true, true, true, false, true, true, true, false, false, false, false, false, false, false, false, false] rfl rfl (zan HT_.out (by kernel_rfl)) (fun _ _ _ h => h) (Or.inl ⟨by rfl, ?_⟩) ?_ ?_
           rotate_left
           ·intro w'
            go_simp
            with_reducible rfl
           rotate_left
           ·simp only [Act.put, List.setIfInBounds_toArray, List.set_cons_zero, List.set_cons_succ, i64_w, i32_w]
            rfl
           refine pure_ (i := 9) (N := some 47) (v := ?_) (a' := ?_) #[true, false, true, true, true, false, true, true, true, true, false, false, false, false, false, false, false, false] rfl rfl (zan HT_.out (by kernel_rfl)) (fun _ _ _ h => h) (Or.inl ⟨by rfl, ?_⟩) ?_ ?_
           rotate_left
           ·intro w'
            go_simp
            with_reducible rfl
           rotate_left
           ·simp only [Act.put, List.setIfInBounds_toArray, List.set_cons_zero, List.set_cons_succ, i64_w, i32_w]
            rfl
           refine pure_ (i := 11) (N := some 49) (v := ?_) (a' := ?_) #[true, false, true, true, true, false, true, true, true, true, false, true, false, false, false, false, false, false] rfl rfl (zan HT_.out (by kernel_rfl)) (fun _ _ _ h => h) (Or.inl ⟨by rfl, ?_⟩) ?_ ?_
           rotate_left
           ·intro w'
            go_simp
            with_reducible rfl
           rotate_left
           ·simp only [Act.put, List.setIfInBounds_toArray, List.set_cons_zero, List.set_cons_succ, i64_w, i32_w]
            rfl
           refine pure_ (i := 12) (N := some 50) (v := ?_) (a' := ?_) #[true, false, true, true, true, false, true, true, true, true, false, true, true, false, false, false, false, false] rfl rfl (zan HT_.out (by kernel_rfl)) (fun _ _ _ h => h) (Or.inl ⟨by rfl, ?_⟩) ?_ ?_
           rotate_left
           ·intro w'
            go_simp
            with_reducible rfl
           rotate_left
           ·simp only [Act.put, List.setIfInBounds_toArray, List.set_cons_zero, List.set_cons_succ, i64_w, i32_w]
            rfl
           refine pure_ (i := 13) (N := some 51) (v := ?_) (a' := ?_) #[true, false, true, true, true, false, true, true, true, true, false, true, true, true, false, false, false, false] rfl rfl (zan HT_.out (by kernel_rfl)) (fun _ _ _ h => h) (Or.inl ⟨by rfl, ?_⟩) ?_ ?_
           rotate_left
           ·intro w'
            go_simp
            with_reducible rfl
           rotate_left
           ·simp only [Act.put, List.setIfInBounds_toArray, List.set_cons_zero, List.set_cons_succ, i64_w, i32_w]
            rfl
           refine pure_ (i := 14) (N := some 52) (v := ?_) (a' := ?_) #[true, false, true, true, true, false, true, true, true, true, false, true, true, true, true, false, false, false] rfl rfl (zan HT_.out (by kernel_rfl)) (fun _ _ _ h => h) (Or.inl ⟨by rfl, ?_⟩) ?_ ?_
           rotate_left
           ·intro w'
            go_simp
            with_reducible rfl
           rotate_left
           ·simp only [Act.put, List.setIfInBounds_toArray, List.set_cons_zero, List.set_cons_succ, i64_w, i32_w]
            rfl
           refine take_ (i := 1) (N := some 39) (v := ?_) (a' := ?_) #[true, true, true, true, true, false, true, true, true, true, false, true, true, true, true, false, false, false] rfl rfl (zav HT_.out HW_.out (by kernel_rfl)) (fun _ _ _ h => h) (Or.inl ⟨by rfl, ?_⟩) hHeld ?_ ?_
           rotate_left
           ·rintro w' ⟨s0, s1, s2, s3, s4, s5, s6, s7, s8, s9⟩
            first | (go_simp; with_reducible rfl) | (simp only [Int.toNat_natCast] at *; go_simp; with_reducible rfl)
           rotate_left
           ·simp only [Act.put, List.setIfInBounds_toArray, List.set_cons_zero, List.set_cons_succ, i64_w, i32_w]
            rfl
           refine take_ (i := 5) (N := some 43) (v := ?_) (a' := ?_) #[true, true, true, true, true, true, true, true, true, true, false, true, true, true, true, false, false, false] rfl rfl (zav HT_.out HW_.out (by kernel_rfl)) (fun _ _ _ h => h) (Or.inl ⟨by rfl, ?_⟩) hHeld ?_ ?_
           rotate_left
           ·rintro w' ⟨s0, s1, s2, s3, s4, s5, s6, s7, s8, s9⟩
            first | (go_simp; with_reducible rfl) | (simp only [Int.toNat_natCast] at *; go_simp; with_reducible rfl)
           rotate_left
           ·simp only [Act.put, List.setIfInBounds_toArray, List.set_cons_zero, List.set_cons_succ, i64_w, i32_w]
            rfl
           refine take_ (i := 10) (N := some 48) (v := ?_) (a' := ?_) #[true, true, true, true, true, true, true, true, true, true, true, true, true, true, true, false, false, false] rfl rfl (zav HT_.out HW_.out (by kernel_rfl)) (fun _ _ _ h => h) (Or.inl ⟨by rfl, ?_⟩) hHeld ?_ ?_
           rotate_left
           ·rintro w' ⟨s0, s1, s2, s3, s4, s5, s6, s7, s8, s9⟩
            first | (go_simp; with_reducible rfl) | (simp only [Int.toNat_natCast] at *; go_simp; with_reducible rfl)
           rotate_left
           ·simp only [Act.put, List.setIfInBounds_toArray, List.set_cons_zero, List.set_cons_succ, i64_w, i32_w]
            rfl
           refine one_ (i := 15) (N := some 53) #[true, true, true, true, true, true, true, true, true, true, true, true, true, true, true, true, false, false] rfl rfl (zaJ HT_.out (by kernel_rfl)) (by decide) (fun K hK => ?_)
           refine goes_ Try.func47 (by kernel_rfl) rfl #[.agg #[.int .i64 a0_0, .slice A0_1 l0_1.length c0_1, .int .i64 a0_2, .int .i64 a0_3, .slice A0_4 l0_4.length c0_4, .int .i64 a0_5, .string a0_6, .string a0_7], .int .i64 (rd l1 (l0_1.length : Int)), .int .i64 (rd l1 (ji24)), .slice A39 (l1.drop ((ji27) : Int).toNat).length (c1 - (ji27).toNat)] (by rfl) rfl rfl (by (try simp only [List.map_toArray, List.map_cons, List.map_nil]); first | done | (rw [show (l1.drop ((ji27) : Int).toNat).length = (l1.length - (ji27).toNat) from List.length_drop] <;> rfl) | (simp only [hji24, hji27]; rfl) | rfl | (simp only [List.length_drop, List.length_take]; rfl)) ?_
           with_reducible refine (vinculumref13_inside.calls k a0_0 _ _ l0_1 a0_2 a0_3 _ _ l0_4 a0_5 a0_6 a0_7 (rd l1 (l0_1.length : Int)) (rd l1 (ji24)) _ _ (l1.drop ((ji27) : Int).toNat) t692 _ ?side1 ?side2 ?side3 ?side4 ?side5 ?side6 A30.o).mono ?_
           (case side1 => repeat (first | exact (Kd.C_below HR0_1.o HB.o) | (with_reducible first | refine Kd.C_alloc ?_ _ | refine Kd.C_drewN ?_ _ | refine Kd.C_drew ?_)))
           (case side2 => exact HC0_1.out)
           (case side3 => repeat (first | exact (Kd.C_below HR0_4.o HB.o) | (with_reducible first | refine Kd.C_alloc ?_ _ | refine Kd.C_drewN ?_ _ | refine Kd.C_drew ?_)))
           (case side4 => exact HC0_4.out)
           (case side5 => repeat (first | exact (Kd.C_below HR691.o HB.o) | (with_reducible first | refine Kd.C_alloc ?_ _ | refine Kd.C_drewN ?_ _ | refine Kd.C_drew ?_)))
           (case side6 => exact HC691.out)
           rintro e w40 ⟨v693, rfl, ho0, hb⟩
           refine ⟨_, rfl, ?_⟩
           have n0_ := zab.mk (Kd.R_elder' (by (with_reducible repeat (first | apply Kd.R_alloc | apply Kd.R_drewN | apply Kd.R_drew)); exact HO681.o) (Kd.R_base ho0) hb)
           have n1_ := zab.mk (Kd.R_lower (Kd.R_new' ho0 (Kd.R_lt (by (with_reducible repeat (first | apply Kd.R_alloc | apply Kd.R_drewN | apply Kd.R_drew)); exact HO681.o))) (zak (by repeat (first | (with_reducible first | exact HB.o | apply zad | apply zaf | apply zae | refine zag ?_ GE668.o) | exact HB.o))))
           have n2_ := zab.mk (zam (by (with_reducible repeat (first | refine zaj ?_ _ | refine zah ?_ | refine zai ?_ _)); exact BK668.o) hb)
           have n3_ := zab.mk (zal (by repeat (first | (with_reducible first | exact HB.o | apply zad | apply zaf | apply zae | refine zag ?_ GE668.o) | exact HB.o)) hb)
           clear HO681
           clear BK668
           clear HB
           have HO681 := n0_
           have HO694 := n1_
           have BK668 := n2_
           have HB := n3_
           clear n0_ n1_ n2_ n3_
           (try clear hb)
           (try clear hb2)
           (try clear hk)
           (try clear hi)
           (try clear ho0)
           obtain ⟨Ao42, co42, eo42⟩ := Kd.R_slice HO694.o
           (first | subst eo42 | (injection eo42 with f1_ f2_ f3_; have f4_ := f1_.symm; have f5_ := f3_.symm; clear f1_ f2_ f3_; subst f4_; subst f5_))
           refine hK.out _ _ ⟨(zaa BK668.o 0).trans rfl, (zaa BK668.o 1).trans rfl, (zaa BK668.o 2).trans rfl, (zaa BK668.o 3).trans rfl, (zaa BK668.o 4).trans rfl, (zaa BK668.o 5).trans rfl, (zaa BK668.o 6).trans rfl, (zaa BK668.o 7).trans rfl, ((HB.o.cell (World.block_lt_of_cell? w _ hw689_0)).trans hw689_0), ((HB.o.cell (World.block_lt_of_cell? w _ hw690_0)).trans hw690_0)⟩ (fun hHeld => ?_)
           clear hK K
           refine norm_ (a' := ?_) ?_ ?_
           rotate_left
           ·show Act.put _ (some 53) _ = _
            simp only [Act.put, List.setIfInBounds_toArray, List.set_cons_zero, List.set_cons_succ, i64_w, i32_w]
            rfl
           refine one_ (i := 16) (N := some 54) #[true, true, true, true, true, true, true, true, true, true, true, true, true, true, true, true, true, false] rfl rfl (zaJ HT_.out (by kernel_rfl)) (by decide) (fun K hK => ?_)
           refine Kd.R_append_rows_step (Kd.int .i64) (w0 := w) w.heap.size (by rfl) (.tmp 38) (.tmp 53) 25 3 (.int .i64 0) 8 rfl Try.underlying25 info3 rfl (by decide) (by omega) v680 y679 t692 _ _ _ (fun k_ => some k_ ≠ (.slice Ao42 t692.length co42 : Value).ownBlock) (fun _ => False) rfl rfl ?aO ?aR (fun _ _ h => h) (fun _ h => h.elim) ?aF ?aB ?aS ?aL ?_
           (case aR => repeat (first | exact (Kd.R_reads' HO694.o).2.2 | (with_reducible first | refine Kd.C_alloc ?_ _ | refine Kd.C_drewN ?_ _ | refine Kd.C_drew ?_)))
           (case aB => exact (by repeat (first | (with_reducible first | exact HB.o | apply zad | apply zaf | apply zae | refine zag ?_ GE668.o) | exact HB.o)))
           (case aF => exact (fun k_ hk => Kd.fresh' (Kd.R_lt (by (with_reducible repeat (first | apply Kd.R_alloc | apply Kd.R_drewN | apply Kd.R_drew)); exact HO694.o)) k_ hk))
           (case aO => exact (by (with_reducible repeat (first | apply Kd.R_alloc | apply Kd.R_drewN | apply Kd.R_drew)); exact Kd.R_mono HO681.o (fun _ hk => hk.2)))
           (case aS => exact (zak (by repeat (first | (with_reducible first | exact HB.o | apply zad | apply zaf | apply zae | refine zag ?_ GE668.o) | exact HB.o))))
           (case aL => have := LMc31.out; omega)
           intro v696 w41 ho hb hg hat
           rw [← Ny695.out] at ho
           have n0_ := zab.mk (zaK (by (with_reducible repeat (first | refine zaj ?_ _ | refine zah ?_ | refine zai ?_ _)); exact BK668.o) hg (Kd.R_ne HO681.o BK668.o (by decide)))
           have n1_ := zab.mk (Kd.R_after (ok := (fun _ => True)) (by (with_reducible repeat (first | apply Kd.R_alloc | apply Kd.R_drewN | apply Kd.R_drew)); exact HO694.o) hg hat)
           have n2_ := zab.mk (hb)
           have n3_ := zab.mk (ho)
           clear BK668
           clear HO694
           clear HB
           clear HO681
           have BK668 := n0_
           have HO694 := n1_
           have HB := n2_
           have HO697 := n3_
           clear n0_ n1_ n2_ n3_
           clear ho hb hg hat
           refine hK.out _ _ ⟨(zaa BK668.o 0).trans rfl, (zaa BK668.o 1).trans rfl, (zaa BK668.o 2).trans rfl, (zaa BK668.o 3).trans rfl, (zaa BK668.o 4).trans rfl, (zaa BK668.o 5).trans rfl, (zaa BK668.o 6).trans rfl, (zaa BK668.o 7).trans rfl, ((HB.o.cell (World.block_lt_of_cell? w _ hw689_0)).trans hw689_0), ((HB.o.cell (World.block_lt_of_cell? w _ hw690_0)).trans hw690_0)⟩ (fun hHeld => ?_)
           clear hK K
           refine norm_ (a' := ?_) ?_ ?_
           rotate_left
           ·show Act.put _ (some 54) _ = _
            simp only [Act.put, List.setIfInBounds_toArray, List.set_cons_zero, List.set_cons_succ, i64_w, i32_w]
            rfl
           refine pure_ (i := 17) (N := some 6) (v := ?_) (a' := ?_) #[true, true, true, true, true, true, true, true, true, true, true, true, true, true, true, true, true, true] rfl rfl (zan HT_.out (by kernel_rfl)) (fun _ _ _ h => h) (Or.inl ⟨by rfl, ?_⟩) ?_ ?_
           rotate_left
           ·intro w'
            go_simp
            with_reducible rfl
           rotate_left
           ·simp only [Act.put, List.setIfInBounds_toArray, List.set_cons_zero, List.set_cons_succ, i64_w, i32_w]
            rfl
           refine done_ (zaQ HT_.out (by kernel_rfl)) ?_
           try go_wp2
           go_ret
           exact ⟨_, by first | rfl | (simp [errW_none, errW_some] <;> rfl) | (simp only [← hji24, ← hji27]; first | rfl | (simp [errW_none, errW_some] <;> rfl)) | (simp [*, errW_none, errW_some] <;> rfl), by (with_reducible repeat (first | apply Kd.R_alloc | apply Kd.R_drewN | apply Kd.R_drew)); exact Kd.R_mono HO697.o (fun _ hk => trivial), by repeat (first | (with_reducible first | exact HB.o | apply zad | apply zaf | apply zae | refine zag ?_ GE668.o) | exact HB.o)⟩
          ·rw [if_neg c31] at H
           exact absurd H (by simp)
         ·rw [if_neg c29] at H
          exact absurd H (by simp)
        ·rw [if_neg c28] at H
         exact absurd H (by simp)
       ·rw [if_neg c26] at H
        exact absurd H (by simp)
      ·rw [if_neg c25] at H
       exact absurd H (by simp)
     ·rw [if_neg c23] at H
      exact absurd H (by simp)
    ·rw [if_neg c22] at H
     exact absurd H (by simp)
  ·rw [if_neg c6] at H
   exact absurd H (by simp)
 ·replace c5 := Bool.eq_false_iff.mpr c5
  subst c5
  have H1 : ((some (([] : List Int) : List Int)).bind fun y670 => (if y670.length + l1.length < 17592186044416 then (some (y670 ++ l1)) else (none))) = some r := by rw [if_neg (show ¬ (false = true) by decide)] at H; exact H
  clear H
  have H := H1
  clear H1
  obtain ⟨y670, hy670⟩ : ∃ y_ : List Int, y_ = (([] : List Int)) := ⟨_, rfl⟩
  replace H : (if y670.length + l1.length < 17592186044416 then (some (y670 ++ l1)) else (none)) = some r := by first | (rw [hy670]; with_reducible exact H) | (have H2_ := (Option.bind_some _ _).symm.trans H; rw [hy670]; with_reducible exact H2_) | (have H2_ := (Option.bind_some _ _).symm.trans H; with_reducible exact H2_) | with_reducible exact H | (rw [hy670]; exact H) | exact H
  have Ny670 := zab.mk hy670
  clear hy670
  by_cases c43 : y670.length + l1.length < 17592186044416
  ·rw [if_pos c43] at H
   have LMc43 := zab.mk c43
   clear c43
   obtain ⟨y673, hy673⟩ : ∃ y_ : List Int, y_ = (y670 ++ l1) := ⟨_, rfl⟩
   replace H : (some y673) = some r := by first | (rw [hy673]; with_reducible exact H) | (have H2_ := (Option.bind_some _ _).symm.trans H; rw [hy673]; with_reducible exact H2_) | (have H2_ := (Option.bind_some _ _).symm.trans H; with_reducible exact H2_) | with_reducible exact H | (rw [hy673]; exact H) | exact H
   have Ny673 := zab.mk hy673
   clear hy673
   obtain rfl := Option.some.inj H
   go_enter Try.func23, Try.ntmps23
   go_wp2_with (first | ((with_reducible refine zaq (N := 3) rfl ?_); refine zas ?hg (N := 3) ?hd (cs := #[.int .i64 a0_0, .slice A0_1 l0_1.length c0_1, .int .i64 a0_2, .int .i64 a0_3, .slice A0_4 l0_4.length c0_4, .int .i64 a0_5, .string a0_6, .string a0_7]) (t := 27) ?hr ?_; (case hd => rfl); (case hg => rfl); (case hr => first | (go_simp; done) | (go_simp; rfl)); intro gb668 hg w44 hbox hb; have n0_ := zab.mk (zal (by repeat (first | (with_reducible first | exact HB.o | apply zad | apply zaf | apply zae) | exact HB.o)) hb); have n1_ := zab.mk (hbox); have n2_ := zab.mk ((by rw [hg]; exact (zak (by repeat (first | (with_reducible first | exact HB.o | apply zad | apply zaf | apply zae) | exact HB.o))) : w.heap.size ≤ gb668)); have n3_ := zab.mk ((by rw [hg]; exact (zak (by repeat (first | (with_reducible first | exact HB.o | apply zad | apply zaf | apply zae) | exact HB.o))) : w.heap.size ≤ gb668)); clear HB; have HB := n0_; have BK668 := n1_; have GW668 := n2_; have GE668 := n3_; clear n0_ n1_ n2_ n3_; clear hb hbox hg; obtain ⟨hcz45_0, hcz45_1, hcz45_2, hcz45_3, hcz45_4, hcz45_5, hcz45_6, hcz45_7⟩ := cz8 BK668.o; obtain ⟨hfz45_0, hfz45_1, hfz45_2, hfz45_3, hfz45_4, hfz45_5, hfz45_6, hfz45_7⟩ := fz8 BK668.o) | ((with_reducible refine zax (f := 45) rfl ?_); refine zay (some 15) rfl rfl Try.func45 (by kernel_rfl) rfl #[.slice A1 l1.length c1, .slice A0_1 l0_1.length c0_1] rfl (by (try simp only [List.map_toArray, List.map_cons, List.map_nil]); first | done | rfl | (simp only [List.length_drop, List.length_take]; rfl)) ?_; (with_reducible refine (vinculumref13_within.calls k _ _ l1 _ _ l0_1 false _ ?side1 ?side2 ?side3 ?side4 A4.o).mono ?_); (case side1 => repeat (first | exact (Kd.C_below HR1.o HB.o) | (with_reducible first | refine Kd.C_alloc ?_ _ | refine Kd.C_drewN ?_ _ | refine Kd.C_drew ?_))); (case side2 => exact HC1.out); (case side3 => repeat (first | exact (Kd.C_below HR0_1.o HB.o) | (with_reducible first | refine Kd.C_alloc ?_ _ | refine Kd.C_drewN ?_ _ | refine Kd.C_drew ?_))); (case side4 => exact HC0_1.out); rintro e w' ⟨rfl, ⟨nd, rfl⟩⟩; refine ⟨_, rfl, ?_⟩) | ((with_reducible refine zaq (N := 17) rfl ?_); refine Kd.R_lit (Kd.int .i64) _ 3 ?hg (N := 17) ?hd (xs := ([] : List Int)) (inner := []) (ok := fun _ => True) (okp := fun _ => True) ?hr ?hp (fun _ hk => hk) trivial (Below.refl _ _) (Nat.le_refl _) (by simp) ?_; (case hd => rfl); (case hg => rfl); (case hr => first | (go_simp; done) | (go_simp; rfl)); (case hp => exact (Reps.none _ _)); intro v671 w46 ho47 hb hg_ hnew_; clear hg_ hnew_; (first | rw [← Ny670.out] at ho47 | (simp only [Int.reduceToNat] at ho47; rw [← Ny670.out] at ho47)); have n0_ := zab.mk (Kd.R_lower ho47 (zak (by repeat (first | (with_reducible first | exact HB.o | apply zad | apply zaf | apply zae | refine zag ?_ GE668.o) | exact HB.o)))); have n1_ := zab.mk (zam (by (with_reducible repeat (first | refine zaj ?_ _ | refine zah ?_ | refine zai ?_ _)); exact BK668.o) hb); have n2_ := zab.mk (zal (by repeat (first | (with_reducible first | exact HB.o | apply zad | apply zaf | apply zae | refine zag ?_ GE668.o) | exact HB.o)) hb); clear BK668; clear HB; have HO672 := n0_; have BK668 := n1_; have HB := n2_; clear n0_ n1_ n2_; clear hb ho47) | ((with_reducible refine zaM (b := .append) (xs := #[.tmp 17, .tmp 18]) rfl ?_); at_builtin; refine Kd.R_append_rows (Kd.int .i64) (w0 := w) w.heap.size rfl (.tmp 17) (.tmp 18) 25 3 (.int .i64 0) 8 rfl Try.underlying25 info3 rfl (by decide) (by omega) v671 y670 l1 _ _ _ (fun _ => True) (fun _ => False) rfl rfl ?aO ?aR (fun _ _ h => h) (fun _ h => h.elim) ?aF ?aB ?aS ?aL ?_; (case aR => repeat (first | exact (Kd.C_below HR1.o HB.o) | (with_reducible first | refine Kd.C_alloc ?_ _ | refine Kd.C_drewN ?_ _ | refine Kd.C_drew ?_))); (case aB => exact (by repeat (first | (with_reducible first | exact HB.o | apply zad | apply zaf | apply zae | refine zag ?_ GE668.o) | exact HB.o))); (case aF => exact (fun _ _ => trivial)); (case aO => exact (by (with_reducible repeat (first | apply Kd.R_alloc | apply Kd.R_drewN | apply Kd.R_drew)); exact HO672.o)); (case aS => exact (zak (by repeat (first | (with_reducible first | exact HB.o | apply zad | apply zaf | apply zae | refine zag ?_ GE668.o) | exact HB.o)))); (case aL => have := LMc43.out; omega); intro v674 w48 ho hb hg hat; rw [← Ny673.out] at ho; have n0_ := zab.mk (zaK (by (with_reducible repeat (first | refine zaj ?_ _ | refine zah ?_ | refine zai ?_ _)); exact BK668.o) hg (Kd.R_ne HO672.o BK668.o (by decide))); have n1_ := zab.mk (hb); have n2_ := zab.mk (ho); clear BK668; clear HB; clear HO672; have BK668 := n0_; have HB := n1_; have HO675 := n2_; clear n0_ n1_ n2_; clear ho hb hg hat))
   go_ret
   exact ⟨_, by first | rfl | (simp [errW_none, errW_some] <;> rfl) | (simp [*, errW_none, errW_some] <;> rfl), by (with_reducible repeat (first | apply Kd.R_alloc | apply Kd.R_drewN | apply Kd.R_drew)); exact HO675.o, by repeat (first | (with_reducible first | exact HB.o | apply zad | apply zaf | apply zae | refine zag ?_ GE668.o) | exact HB.o)⟩
  ·rw [if_neg c43] at H
   exact absurd H (by simp)

end Go.Proofs.Ytikgflpobacndaa.P
