--m
/- Written by wip/tool/hprint.py (the kit's print.py with hand-proved contracts set in): contracts of the functions that the statements of this seat reach, without conditions beyond those named in each theorem. -/
import Derived.Test.YtoieknocpphjoaaDoorP0
import Derived.Test.YtoieknocpphjoaaDoorP6
import Derived.Test.YtoieknocpphjoaaDoorP8
import Derived.Test.YtoieknocpphjoaaDoorP10
import Derived.Test.YtoieknocpphjoaaDoorP18
import Derived.Test.YtoieknocpphjoaaDoorP25
import Derived.Test.YtoieknocpphjoaaDoorP26
import Derived.Test.YtoieknocpphjoaaDoorP51
namespace Go.Proofs.YtoieknocpphjoaaDoor.P
open Go.RowKit Go.Proofs.YtoieknocpphjoaaDoorW.PrintWords Go.Proofs.YtoieknocpphjoaaDoorW.PrintLast Go.Proofs.YtoieknocpphjoaaDoorW.PrintMore
attribute [local go_sem] zay zaz zaA zaB zaC zaD zaE zaF   -- for this text's walks alone
set_option linter.unusedVariables false
set_option linter.unusedSimpArgs false

/-! ### vinculumlaw02_RationalDecimal: function 10 -/
mutual
def vinculumlaw02_RationalDecimal.l0 : Nat → Int → Int → Int → ByteArray → Int → Int → Option (Bool)
 | 0, _, _, _, _, _, _ => none
 | k + 1, x0, x1, x2, x7, x8, x9 => if x9 < (wrap64 (Int.tmod x2 3)) then (if 1 + x7.size ≤ 9223372036854775807 then (vinculumlaw02_RationalDecimal.l0 k x0 x1 x2 ((⟨#[48]⟩ : ByteArray) ++ x7) x8 (wrap64 (x9 + 1))) else (none)) else (vinculumlaw02_RationalDecimal.l1 k x0 x1 x7 x8 0)
def vinculumlaw02_RationalDecimal.l1 : Nat → Int → Int → ByteArray → Int → Int → Option (Bool)
 | 0, _, _, _, _, _ => none
 | k + 1, x0, x1, x7, x8, x10 => if x10 < (x7.size : Int) then (vinculumlaw02_RationalDecimal.l1 k x0 x1 x7 (wrap64 (x8 * 10)) (wrap64 (x10 + 1))) else ((vinculumref02_Text.f k (wrap64 (x0)) 1).bind fun t536 => (if t536.size + 1 ≤ 9223372036854775807 then (if (t536 ++ (⟨#[46]⟩ : ByteArray)).size + x7.size ≤ 9223372036854775807 then ((rational_Parse.f k ((t536 ++ (⟨#[46]⟩ : ByteArray)) ++ x7)).bind fun bt537 => ((rational_Make.f k (wrap64 (x1)) x8).bind fun bt541 => ((vinculumlaw02_op.f k 0 bt541.1 bt541.2.1 bt541.2.2 (wrap64 (x0)) 1 0).bind fun bt545 => ((vinculumlaw02_agree.f bt537.1 bt537.2.1 bt537.2.2 bt545.1 bt545.2.1 bt545.2.2).bind fun t549 => (if t549 = true then (if bt545.2.2 = 0 then (some (bt537.2.2 == 0)) else (some true)) else (none)))))) else (none)) else (none)))
end
def vinculumlaw02_RationalDecimal.f (k : Nat) (a0 : Int) (a1 : Int) (a2 : Int) : Option (Bool) := (vinculumlaw02_awake.f k).bind fun t534 => (if t534 = true then ((vinculumref02_Text.f k (wrap64 (a1)) 1).bind fun t535 => (vinculumlaw02_RationalDecimal.l0 k a0 a1 a2 t535 1 0)) else (none))
theorem vinculumlaw02_RationalDecimal.mono_l : ∀ k, (∀ y0 y1 y2 y3 y4 y5, LeO (vinculumlaw02_RationalDecimal.l0 k y0 y1 y2 y3 y4 y5) (vinculumlaw02_RationalDecimal.l0 (k + 1) y0 y1 y2 y3 y4 y5)) ∧ (∀ y0 y1 y2 y3 y4, LeO (vinculumlaw02_RationalDecimal.l1 k y0 y1 y2 y3 y4) (vinculumlaw02_RationalDecimal.l1 (k + 1) y0 y1 y2 y3 y4))
 | 0 => ⟨fun _ _ _ _ _ _ r h => by simp [vinculumlaw02_RationalDecimal.l0] at h, fun _ _ _ _ _ r h => by simp [vinculumlaw02_RationalDecimal.l1] at h⟩
 | k + 1 => by
  obtain ⟨ih0, ih1⟩ := vinculumlaw02_RationalDecimal.mono_l k
  refine ⟨?_, ?_⟩
  ·intro y0 y1 y2 y3 y4 y5
   unfold vinculumlaw02_RationalDecimal.l0
   repeat' first
   | (with_reducible exact ih0 _ _ _ _ _ _)
   | (with_reducible exact ih1 _ _ _ _ _)
   | (with_reducible exact rational_Make.mono _ _ _)
   | (with_reducible exact rational_Parse.mono _ _)
   | (with_reducible exact vinculumlaw02_awake.mono _)
   | (with_reducible exact vinculumlaw02_op.mono _ _ _ _ _ _ _ _)
   | (with_reducible exact vinculumref02_Text.mono _ _ _)
   | (with_reducible exact LeO.refl _)
   | (with_reducible exact LeO.none _)
   | (with_reducible refine LeO.ite ?_ ?_)
   | (with_reducible refine LeO.bind ?_ (fun _ => ?_))
   | exact ih0 _ _ _ _ _ _
   | exact ih1 _ _ _ _ _
   | exact rational_Make.mono _ _ _
   | exact rational_Parse.mono _ _
   | exact vinculumlaw02_awake.mono _
   | exact vinculumlaw02_op.mono _ _ _ _ _ _ _ _
   | exact vinculumref02_Text.mono _ _ _
   | exact LeO.none _
   | refine LeO.ite ?_ ?_
   | refine LeO.bind ?_ (fun _ => ?_)
  ·intro y0 y1 y2 y3 y4
   unfold vinculumlaw02_RationalDecimal.l1
   repeat' first
   | (with_reducible exact ih0 _ _ _ _ _ _)
   | (with_reducible exact ih1 _ _ _ _ _)
   | (with_reducible exact rational_Make.mono _ _ _)
   | (with_reducible exact rational_Parse.mono _ _)
   | (with_reducible exact vinculumlaw02_awake.mono _)
   | (with_reducible exact vinculumlaw02_op.mono _ _ _ _ _ _ _ _)
   | (with_reducible exact vinculumref02_Text.mono _ _ _)
   | (with_reducible exact LeO.refl _)
   | (with_reducible exact LeO.none _)
   | (with_reducible refine LeO.ite ?_ ?_)
   | (with_reducible refine LeO.bind ?_ (fun _ => ?_))
   | exact ih0 _ _ _ _ _ _
   | exact ih1 _ _ _ _ _
   | exact rational_Make.mono _ _ _
   | exact rational_Parse.mono _ _
   | exact vinculumlaw02_awake.mono _
   | exact vinculumlaw02_op.mono _ _ _ _ _ _ _ _
   | exact vinculumref02_Text.mono _ _ _
   | exact LeO.none _
   | refine LeO.ite ?_ ?_
   | refine LeO.bind ?_ (fun _ => ?_)
theorem vinculumlaw02_RationalDecimal.mono : ∀ a0 a1 a2 k, LeO (vinculumlaw02_RationalDecimal.f k a0 a1 a2) (vinculumlaw02_RationalDecimal.f (k + 1) a0 a1 a2) := by
 intro a0 a1 a2 k
 obtain ⟨ih0, ih1⟩ := vinculumlaw02_RationalDecimal.mono_l k
 unfold vinculumlaw02_RationalDecimal.f
 repeat' first
   | (with_reducible exact ih0 _ _ _ _ _ _)
   | (with_reducible exact ih1 _ _ _ _ _)
   | (with_reducible exact rational_Make.mono _ _ _)
   | (with_reducible exact rational_Parse.mono _ _)
   | (with_reducible exact vinculumlaw02_awake.mono _)
   | (with_reducible exact vinculumlaw02_op.mono _ _ _ _ _ _ _ _)
   | (with_reducible exact vinculumref02_Text.mono _ _ _)
   | (with_reducible exact LeO.refl _)
   | (with_reducible exact LeO.none _)
   | (with_reducible refine LeO.ite ?_ ?_)
   | (with_reducible refine LeO.bind ?_ (fun _ => ?_))
   | exact ih0 _ _ _ _ _ _
   | exact ih1 _ _ _ _ _
   | exact rational_Make.mono _ _ _
   | exact rational_Parse.mono _ _
   | exact vinculumlaw02_awake.mono _
   | exact vinculumlaw02_op.mono _ _ _ _ _ _ _ _
   | exact vinculumref02_Text.mono _ _ _
   | exact LeO.none _
   | refine LeO.ite ?_ ?_
   | refine LeO.bind ?_ (fun _ => ?_)
set_option maxHeartbeats 8000000 in
set_option maxRecDepth 100000 in
theorem vinculumlaw02_RationalDecimal.calls (k : Nat) (a0 : Int) (a1 : Int) (a2 : Int) (r : Bool) (w : World) (htab : TB w) (h : vinculumlaw02_RationalDecimal.f k a0 a1 a2 = some r) :
  Calls Tryd.prog 10 #[.int .u16 a0, .int .u16 a1, .int .u8 a2] w fun e w' => e = .returned (.bool r) ∧ Below w.heap.size w w' := by
 have hu28 := Tryd.underlying28
 have hu24 := Tryd.underlying24
 have HB := zaa.mk (Below.refl w.heap.size w)
 have HT9 := zaa.mk htab.stays
 clear htab
 have H : ((vinculumlaw02_awake.f k).bind fun t534 => (if t534 = true then ((vinculumref02_Text.f k (wrap64 (a1)) 1).bind fun t535 => (vinculumlaw02_RationalDecimal.l0 k a0 a1 a2 t535 1 0)) else (none))) = some r := h
 clear h
 replace H := Option.bind_eq_some_iff.mp H
 obtain ⟨t534, A40, H⟩ := H
 replace H : (if t534 = true then ((vinculumref02_Text.f k (wrap64 (a1)) 1).bind fun t535 => (vinculumlaw02_RationalDecimal.l0 k a0 a1 a2 t535 1 0)) else (none)) = some r := H
 have A4 := zaa.mk A40
 clear A40
 by_cases c5 : t534 = true
 ·subst c5
  have H1 : ((vinculumref02_Text.f k (wrap64 (a1)) 1).bind fun t535 => (vinculumlaw02_RationalDecimal.l0 k a0 a1 a2 t535 1 0)) = some r := by rw [if_pos rfl] at H; exact H
  clear H
  have H := H1
  clear H1
  replace H := Option.bind_eq_some_iff.mp H
  obtain ⟨t535, A60, H⟩ := H
  replace H : (vinculumlaw02_RationalDecimal.l0 k a0 a1 a2 t535 1 0) = some r := H
  have A6 := zaa.mk A60
  clear A60
  have H' := zaa.mk H
  clear H
  go_enter Tryd.func10, Tryd.ntmps10
  go_wp2_with (first | ((with_reducible refine zas (f := 12) rfl ?_); refine zat (some 17) rfl rfl Tryd.func12 (by kernel_rfl) rfl #[] rfl (by (try simp only [List.map_toArray, List.map_cons, List.map_nil]); first | done | rfl | (simp only [List.length_drop, List.length_take]; rfl)) ?_; (with_reducible refine (vinculumlaw02_awake.calls k  true _ (HT9.out _ (by repeat (first | (with_reducible first | exact HB.o | apply zaf | apply zah | apply zag) | exact HB.o))) A4.o).mono ?_); rintro e w7 ⟨rfl, hb⟩; refine ⟨_, rfl, ?_⟩; have n0_ := zaa.mk (zao (by repeat (first | (with_reducible first | exact HB.o | apply zaf | apply zah | apply zag) | exact HB.o)) hb); clear HB; have HB := n0_; clear n0_; (try clear hb); (try clear hb2); (try clear hk); (try clear hi)) | ((with_reducible refine zas (f := 17) rfl ?_); refine zat (some 22) rfl rfl Tryd.func17 (by kernel_rfl) rfl #[.agg #[.int .i64 (wrap64 (a1)), .int .i64 1]] rfl (by (try simp only [List.map_toArray, List.map_cons, List.map_nil]); first | done | rfl | (simp only [List.length_drop, List.length_take]; rfl)) ?_; (with_reducible refine (vinculumref02_Text.calls k (wrap64 (a1)) 1 t535 _ A6.o).mono ?_); rintro e w8 ⟨rfl, hb⟩; refine ⟨_, rfl, ?_⟩; have n0_ := zaa.mk (zao (by repeat (first | (with_reducible first | exact HB.o | apply zaf | apply zah | apply zag) | exact HB.o)) hb); clear HB; have HB := n0_; clear n0_; (try clear hb); (try clear hb2); (try clear hk); (try clear hi)))
  go_loopg [7, 9] k (fun kq v7 v9 w' => ∃ (x7_1 : ByteArray) (x9_1 : Int), v7 = .string x7_1 ∧ v9 = .int .i64 x9_1 ∧ zaa (vinculumlaw02_RationalDecimal.l0 kq a0 a1 a2 x7_1 1 x9_1 = some r) ∧ zaa (kq ≤ k) ∧ zaa (Below w.heap.size w w'))
  case atStart => exact ⟨(t535), (0), (by first | rfl | (simp; done) | (simp [*]; done)), (by first | rfl | (simp; done) | (simp [*]; done)), H', ⟨Nat.le_refl _⟩, ⟨by repeat (first | (with_reducible first | exact HB.o | apply zaf | apply zah | apply zag) | exact HB.o)⟩⟩
  case round =>
   clear H'
   try clear c1
   try clear p2
   try clear c5
   try clear p6
   obtain ⟨x7_1, x9_1, rfl, rfl, HA, HK1, HB⟩ := hrel
   cases gk with
   | zero => exact absurd HA.o (by simp [vinculumlaw02_RationalDecimal.l0])
   | succ k1 =>
    have H := HA.o
    clear HA
    simp only [vinculumlaw02_RationalDecimal.l0] at H
    by_cases c9 : x9_1 < (wrap64 (Int.tmod a2 3))
    ·rw [if_pos c9] at H
     have c9b0 : decide (x9_1 < (wrap64 (Int.tmod a2 3))) = true := decide_eq_true c9
     clear c9
     by_cases c10 : 1 + x7_1.size ≤ 9223372036854775807
     ·rw [if_pos c10] at H
      have c10b0 := eq_true c10
      have c10b1 : decide (1 + x7_1.size ≤ 9223372036854775807) = true := decide_eq_true c10
      try have c10b2 : (9223372036854775807 < 1 + x7_1.size) = False := eq_false (Nat.not_lt.2 c10)
      have H' := zaa.mk H
      clear H
      go_wp2
      go_roundg k1
      case measure => have := HK1.o; omega
      case rel => exact ⟨((⟨#[48]⟩ : ByteArray) ++ x7_1), (wrap64 (x9_1 + 1)), (by first | rfl | (simp; done) | (simp [*]; done)), (by first | rfl | (simp; done) | (simp [*]; done)), H', ⟨by have := HK1.o; omega⟩, ⟨by repeat (first | (with_reducible first | exact HB.o | apply zaf | apply zah | apply zag) | exact HB.o)⟩⟩
     ·rw [if_neg c10] at H
      exact absurd H (by simp)
    ·rw [if_neg c9] at H
     have c9b0 : decide (x9_1 < (wrap64 (Int.tmod a2 3))) = false := decide_eq_false c9
     clear c9
     have H' := zaa.mk H
     clear H
     go_wp2
     go_loopg [8, 10] k1 (fun kq v8 v10 w' => ∃ (x8_2 : Int) (x10_2 : Int), v8 = .int .i64 x8_2 ∧ v10 = .int .i64 x10_2 ∧ zaa (vinculumlaw02_RationalDecimal.l1 kq a0 a1 x7_1 x8_2 x10_2 = some r) ∧ zaa (kq ≤ k1) ∧ zaa (Below w.heap.size w w'))
     case atStart => exact ⟨(1), (0), (by first | rfl | (simp; done) | (simp [*]; done)), (by first | rfl | (simp; done) | (simp [*]; done)), H', ⟨Nat.le_refl _⟩, ⟨by repeat (first | (with_reducible first | exact HB.o | apply zaf | apply zah | apply zag) | exact HB.o)⟩⟩
     case round =>
      clear H'
      try clear c1
      try clear p2
      try clear c5
      try clear p6
      try clear c9
      try clear c9b0
      try clear c10
      try clear c10b0
      try clear c10b1
      try clear c10b2
      try clear p2
      try clear p6
      obtain ⟨x8_2, x10_2, rfl, rfl, HA, HK2, HB⟩ := hrel
      cases gk with
      | zero => exact absurd HA.o (by simp [vinculumlaw02_RationalDecimal.l1])
      | succ k2 =>
       have H := HA.o
       clear HA
       simp only [vinculumlaw02_RationalDecimal.l1] at H
       by_cases c11 : x10_2 < (x7_1.size : Int)
       ·rw [if_pos c11] at H
        have c11b0 : decide (x10_2 < (x7_1.size : Int)) = true := decide_eq_true c11
        clear c11
        have H' := zaa.mk H
        clear H
        go_wp2
        go_roundg k2
        case measure => have := HK1.o; have := HK2.o; omega
        case rel => exact ⟨(wrap64 (x8_2 * 10)), (wrap64 (x10_2 + 1)), (by first | rfl | (simp; done) | (simp [*]; done)), (by first | rfl | (simp; done) | (simp [*]; done)), H', ⟨by have := HK1.o; have := HK2.o; omega⟩, ⟨by repeat (first | (with_reducible first | exact HB.o | apply zaf | apply zah | apply zag) | exact HB.o)⟩⟩
       ·rw [if_neg c11] at H
        have c11b0 : decide (x10_2 < (x7_1.size : Int)) = false := decide_eq_false c11
        clear c11
        replace H := Option.bind_eq_some_iff.mp H
        obtain ⟨t536, A120, H⟩ := H
        replace H : (if t536.size + 1 ≤ 9223372036854775807 then (if (t536 ++ (⟨#[46]⟩ : ByteArray)).size + x7_1.size ≤ 9223372036854775807 then ((rational_Parse.f k2 ((t536 ++ (⟨#[46]⟩ : ByteArray)) ++ x7_1)).bind fun bt537 => ((rational_Make.f k2 (wrap64 (a1)) x8_2).bind fun bt541 => ((vinculumlaw02_op.f k2 0 bt541.1 bt541.2.1 bt541.2.2 (wrap64 (a0)) 1 0).bind fun bt545 => ((vinculumlaw02_agree.f bt537.1 bt537.2.1 bt537.2.2 bt545.1 bt545.2.1 bt545.2.2).bind fun t549 => (if t549 = true then (if bt545.2.2 = 0 then (some (bt537.2.2 == 0)) else (some true)) else (none)))))) else (none)) else (none)) = some r := H
        have A12 := zaa.mk A120
        clear A120
        by_cases c13 : t536.size + 1 ≤ 9223372036854775807
        ·rw [if_pos c13] at H
         have c13b0 := eq_true c13
         have c13b1 : decide (t536.size + 1 ≤ 9223372036854775807) = true := decide_eq_true c13
         try have c13b2 : (9223372036854775807 < t536.size + 1) = False := eq_false (Nat.not_lt.2 c13)
         by_cases c14 : (t536 ++ (⟨#[46]⟩ : ByteArray)).size + x7_1.size ≤ 9223372036854775807
         ·rw [if_pos c14] at H
          have c14b0 := eq_true c14
          have c14b1 : decide ((t536 ++ (⟨#[46]⟩ : ByteArray)).size + x7_1.size ≤ 9223372036854775807) = true := decide_eq_true c14
          try have c14b2 : (9223372036854775807 < (t536 ++ (⟨#[46]⟩ : ByteArray)).size + x7_1.size) = False := eq_false (Nat.not_lt.2 c14)
          replace H := Option.bind_eq_some_iff.mp H
          obtain ⟨⟨t537, t538, t539⟩, A150, H⟩ := H
          replace H : ((rational_Make.f k2 (wrap64 (a1)) x8_2).bind fun bt541 => ((vinculumlaw02_op.f k2 0 bt541.1 bt541.2.1 bt541.2.2 (wrap64 (a0)) 1 0).bind fun bt545 => ((vinculumlaw02_agree.f t537 t538 t539 bt545.1 bt545.2.1 bt545.2.2).bind fun t549 => (if t549 = true then (if bt545.2.2 = 0 then (some (t539 == 0)) else (some true)) else (none))))) = some r := H
          have A15 := zaa.mk A150
          clear A150
          replace H := Option.bind_eq_some_iff.mp H
          obtain ⟨⟨t541, t542, t543⟩, A160, H⟩ := H
          replace H : ((vinculumlaw02_op.f k2 0 t541 t542 t543 (wrap64 (a0)) 1 0).bind fun bt545 => ((vinculumlaw02_agree.f t537 t538 t539 bt545.1 bt545.2.1 bt545.2.2).bind fun t549 => (if t549 = true then (if bt545.2.2 = 0 then (some (t539 == 0)) else (some true)) else (none)))) = some r := H
          have A16 := zaa.mk A160
          clear A160
          replace H := Option.bind_eq_some_iff.mp H
          obtain ⟨⟨t545, t546, t547⟩, A170, H⟩ := H
          replace H : ((vinculumlaw02_agree.f t537 t538 t539 t545 t546 t547).bind fun t549 => (if t549 = true then (if t547 = 0 then (some (t539 == 0)) else (some true)) else (none))) = some r := H
          have A17 := zaa.mk A170
          clear A170
          replace H := Option.bind_eq_some_iff.mp H
          obtain ⟨t549, A180, H⟩ := H
          replace H : (if t549 = true then (if t547 = 0 then (some (t539 == 0)) else (some true)) else (none)) = some r := H
          have A18 := zaa.mk A180
          clear A180
          by_cases c19 : t549 = true
          ·subst c19
           have H1 : (if t547 = 0 then (some (t539 == 0)) else (some true)) = some r := by rw [if_pos rfl] at H; exact H
           clear H
           have H := H1
           clear H1
           by_cases c20 : t547 = 0
           ·rw [if_pos c20] at H
            have c20b0 : (t547 == 0) = true := beq_iff_eq.mpr c20
            have c20b1 : (t547 != 0) = false := bne_eq_false_iff_eq.mpr c20
            clear c20
            obtain rfl := Option.some.inj H
            go_wp2_with (first | ((with_reducible refine zas (f := 17) rfl ?_); refine zat (some 44) rfl rfl Tryd.func17 (by kernel_rfl) rfl #[.agg #[.int .i64 (wrap64 (a0)), .int .i64 1]] rfl (by (try simp only [List.map_toArray, List.map_cons, List.map_nil]); first | done | rfl | (simp only [List.length_drop, List.length_take]; rfl)) ?_; (with_reducible refine (vinculumref02_Text.calls k2 (wrap64 (a0)) 1 t536 _ A12.o).mono ?_); rintro e w21 ⟨rfl, hb⟩; refine ⟨_, rfl, ?_⟩; have n0_ := zaa.mk (zao (by repeat (first | (with_reducible first | exact HB.o | apply zaf | apply zah | apply zag) | exact HB.o)) hb); clear HB; have HB := n0_; clear n0_; (try clear hb); (try clear hb2); (try clear hk); (try clear hi)) | ((with_reducible refine zas (f := 39) rfl ?_); refine zat (some 48) rfl rfl Tryd.func39 (by kernel_rfl) rfl #[.string ((t536 ++ (⟨#[46]⟩ : ByteArray)) ++ x7_1)] rfl (by (try simp only [List.map_toArray, List.map_cons, List.map_nil]); first | done | rfl | (simp only [List.length_drop, List.length_take]; rfl)) ?_; (with_reducible refine (rational_Parse.calls k2 ((t536 ++ (⟨#[46]⟩ : ByteArray)) ++ x7_1) t537 t538 t539 _ A15.o).mono ?_); rintro e w22 ⟨rfl, hb⟩; refine ⟨_, rfl, ?_⟩; have n0_ := zaa.mk (zao (by repeat (first | (with_reducible first | exact HB.o | apply zaf | apply zah | apply zag) | exact HB.o)) hb); clear HB; have HB := n0_; clear n0_; (try clear hb); (try clear hb2); (try clear hk); (try clear hi)) | ((with_reducible refine zaq (N := 11) rfl ?_); refine zar ?hg (N := 11) ?hd (cs := #[.int .i64 0, .int .i64 0]) (t := 24) ?hr ?_; (case hd => rfl); (case hg => rfl); (case hr => first | (go_simp; done) | (go_simp; rfl)); intro gb540 hg w23 hbox hb; have n0_ := zaa.mk (zao (by repeat (first | (with_reducible first | exact HB.o | apply zaf | apply zah | apply zag) | exact HB.o)) hb); have n1_ := zaa.mk (hbox); have n2_ := zaa.mk ((by rw [hg]; exact (zan (by repeat (first | (with_reducible first | exact HB.o | apply zaf | apply zah | apply zag) | exact HB.o))) : w.heap.size ≤ gb540)); have n3_ := zaa.mk ((by rw [hg]; exact (zan (by repeat (first | (with_reducible first | exact HB.o | apply zaf | apply zah | apply zag) | exact HB.o))) : w.heap.size ≤ gb540)); clear HB; have HB := n0_; have BK540 := n1_; have GW540 := n2_; have GE540 := n3_; clear n0_ n1_ n2_ n3_; clear hb hbox hg; obtain ⟨hcz24_0, hcz24_1⟩ := cz2 BK540.o; obtain ⟨hfz24_0, hfz24_1⟩ := fz2 BK540.o) | ((with_reducible refine zas (f := 13) rfl ?_); refine zat (some 55) rfl rfl Tryd.func13 (by kernel_rfl) rfl #[.int .i64 (wrap64 (a1)), .int .i64 x8_2] rfl (by (try simp only [List.map_toArray, List.map_cons, List.map_nil]); first | done | rfl | (simp only [List.length_drop, List.length_take]; rfl)) ?_; (with_reducible refine (rational_Make.calls k2 (wrap64 (a1)) x8_2 t541 t542 t543 _ A16.o).mono ?_); rintro e w25 ⟨rfl, hb⟩; refine ⟨_, rfl, ?_⟩; have n0_ := zaa.mk (zaj (g := gb540) (o := .cells #[.int .i64 t537, .int .i64 t538] 24 (0, 0)) (by (with_reducible repeat (first | refine zad ?_ _ | refine zab ?_ | refine zac ?_ _)); refine zap (cs := #[.int .i64 t537, .int .i64 0]) ?_ 1 _ rfl; (with_reducible repeat (first | refine zad ?_ _ | refine zab ?_ | refine zac ?_ _)); refine zap (cs := #[.int .i64 0, .int .i64 0]) ?_ 0 _ rfl; (with_reducible repeat (first | refine zad ?_ _ | refine zab ?_ | refine zac ?_ _)); exact BK540.o) hb); have n1_ := zaa.mk (zao (by repeat (first | (with_reducible first | exact HB.o | apply zaf | apply zah | apply zag | refine zae ?_ GE540.o) | exact HB.o)) hb); clear BK540; clear HB; have BK540 := n0_; have HB := n1_; clear n0_ n1_; (try clear hb); (try clear hb2); (try clear hk); (try clear hi)) | ((with_reducible refine zaq (N := 13) rfl ?_); refine zar ?hg (N := 13) ?hd (cs := #[.int .i64 0, .int .i64 0]) (t := 24) ?hr ?_; (case hd => rfl); (case hg => rfl); (case hr => first | (go_simp; done) | (go_simp; rfl)); intro gb544 hg w26 hbox hb; have n0_ := zaa.mk (zaj (by (with_reducible repeat (first | refine zad ?_ _ | refine zab ?_ | refine zac ?_ _)); exact BK540.o) hb); have n1_ := zaa.mk (zao (by repeat (first | (with_reducible first | exact HB.o | apply zaf | apply zah | apply zag | refine zae ?_ GE540.o) | exact HB.o)) hb); have n2_ := zaa.mk (hbox); have n3_ := zaa.mk ((by rw [hg]; exact (zan (by repeat (first | (with_reducible first | exact HB.o | apply zaf | apply zah | apply zag | refine zae ?_ GE540.o) | exact HB.o))) : w.heap.size ≤ gb544)); have n4_ := zaa.mk ((by rw [hg]; exact (zan (by repeat (first | (with_reducible first | exact HB.o | apply zaf | apply zah | apply zag | refine zae ?_ GE540.o) | exact HB.o))) : w.heap.size ≤ gb544)); have n5_ := zaa.mk ((by rw [hg]; exact Nat.ne_of_lt (zal (g := gb540) (o := .cells #[.int .i64 t537, .int .i64 t538] 24 (0, 0)) (by (with_reducible repeat (first | refine zad ?_ _ | refine zab ?_ | refine zac ?_ _)); exact BK540.o)) : gb540 ≠ gb544)); have n6_ := zaa.mk ((by rw [hg]; exact Nat.ne_of_gt (zal (g := gb540) (o := .cells #[.int .i64 t537, .int .i64 t538] 24 (0, 0)) (by (with_reducible repeat (first | refine zad ?_ _ | refine zab ?_ | refine zac ?_ _)); exact BK540.o)) : gb544 ≠ gb540)); clear BK540; clear HB; have BK540 := n0_; have HB := n1_; have BK544 := n2_; have GW544 := n3_; have GE544 := n4_; have NB540_544 := n5_; have NB544_540 := n6_; clear n0_ n1_ n2_ n3_ n4_ n5_ n6_; clear hb hbox hg; have hnb27 := NB544_540.o; have hnc27 := NB540_544.o; obtain ⟨hcz28_0, hcz28_1⟩ := cz2 BK544.o; obtain ⟨hfz28_0, hfz28_1⟩ := fz2 BK544.o) | ((with_reducible refine zas (f := 21) rfl ?_); refine zat (some 64) rfl rfl Tryd.func21 (by kernel_rfl) rfl #[.int .i64 0, .agg #[.int .i64 t541, .int .i64 t542], .int .i64 t543, .agg #[.int .i64 (wrap64 (a0)), .int .i64 1], .int .i64 0] rfl (by (try simp only [List.map_toArray, List.map_cons, List.map_nil]); first | done | rfl | (simp only [List.length_drop, List.length_take]; rfl)) ?_; (with_reducible refine (vinculumlaw02_op.calls k2 0 t541 t542 t543 (wrap64 (a0)) 1 0 t545 t546 t547 _ A17.o).mono ?_); rintro e w29 ⟨rfl, hb⟩; refine ⟨_, rfl, ?_⟩; have n0_ := zaa.mk (zaj (g := gb540) (o := .cells #[.int .i64 t537, .int .i64 t538] 24 (0, 0)) (by (with_reducible repeat (first | refine zad ?_ _ | refine zab ?_ | refine zac ?_ _)); refine zam ?_ NB540_544.o _; (with_reducible repeat (first | refine zad ?_ _ | refine zab ?_ | refine zac ?_ _)); refine zam ?_ NB540_544.o _; (with_reducible repeat (first | refine zad ?_ _ | refine zab ?_ | refine zac ?_ _)); exact BK540.o) hb); have n1_ := zaa.mk (zaj (g := gb544) (o := .cells #[.int .i64 t541, .int .i64 t542] 24 (0, 0)) (by (with_reducible repeat (first | refine zad ?_ _ | refine zab ?_ | refine zac ?_ _)); refine zap (cs := #[.int .i64 t541, .int .i64 0]) ?_ 1 _ rfl; (with_reducible repeat (first | refine zad ?_ _ | refine zab ?_ | refine zac ?_ _)); refine zap (cs := #[.int .i64 0, .int .i64 0]) ?_ 0 _ rfl; (with_reducible repeat (first | refine zad ?_ _ | refine zab ?_ | refine zac ?_ _)); exact BK544.o) hb); have n2_ := zaa.mk (zao (by repeat (first | (with_reducible first | exact HB.o | apply zaf | apply zah | apply zag | refine zae ?_ GE540.o | refine zae ?_ GE544.o) | exact HB.o)) hb); clear BK540; clear BK544; clear HB; have BK540 := n0_; have BK544 := n1_; have HB := n2_; clear n0_ n1_ n2_; (try clear hb); (try clear hb2); (try clear hk); (try clear hi)) | ((with_reducible refine zaq (N := 15) rfl ?_); refine zar ?hg (N := 15) ?hd (cs := #[.int .i64 0, .int .i64 0]) (t := 24) ?hr ?_; (case hd => rfl); (case hg => rfl); (case hr => first | (go_simp; done) | (go_simp; rfl)); intro gb548 hg w30 hbox hb; have n0_ := zaa.mk (zaj (by (with_reducible repeat (first | refine zad ?_ _ | refine zab ?_ | refine zac ?_ _)); exact BK540.o) hb); have n1_ := zaa.mk (zaj (by (with_reducible repeat (first | refine zad ?_ _ | refine zab ?_ | refine zac ?_ _)); exact BK544.o) hb); have n2_ := zaa.mk (zao (by repeat (first | (with_reducible first | exact HB.o | apply zaf | apply zah | apply zag | refine zae ?_ GE540.o | refine zae ?_ GE544.o) | exact HB.o)) hb); have n3_ := zaa.mk (hbox); have n4_ := zaa.mk ((by rw [hg]; exact (zan (by repeat (first | (with_reducible first | exact HB.o | apply zaf | apply zah | apply zag | refine zae ?_ GE540.o | refine zae ?_ GE544.o) | exact HB.o))) : w.heap.size ≤ gb548)); have n5_ := zaa.mk ((by rw [hg]; exact (zan (by repeat (first | (with_reducible first | exact HB.o | apply zaf | apply zah | apply zag | refine zae ?_ GE540.o | refine zae ?_ GE544.o) | exact HB.o))) : w.heap.size ≤ gb548)); have n6_ := zaa.mk ((by rw [hg]; exact Nat.ne_of_lt (zal (g := gb540) (o := .cells #[.int .i64 t537, .int .i64 t538] 24 (0, 0)) (by (with_reducible repeat (first | refine zad ?_ _ | refine zab ?_ | refine zac ?_ _)); exact BK540.o)) : gb540 ≠ gb548)); have n7_ := zaa.mk ((by rw [hg]; exact Nat.ne_of_gt (zal (g := gb540) (o := .cells #[.int .i64 t537, .int .i64 t538] 24 (0, 0)) (by (with_reducible repeat (first | refine zad ?_ _ | refine zab ?_ | refine zac ?_ _)); exact BK540.o)) : gb548 ≠ gb540)); have n8_ := zaa.mk ((by rw [hg]; exact Nat.ne_of_lt (zal (g := gb544) (o := .cells #[.int .i64 t541, .int .i64 t542] 24 (0, 0)) (by (with_reducible repeat (first | refine zad ?_ _ | refine zab ?_ | refine zac ?_ _)); exact BK544.o)) : gb544 ≠ gb548)); have n9_ := zaa.mk ((by rw [hg]; exact Nat.ne_of_gt (zal (g := gb544) (o := .cells #[.int .i64 t541, .int .i64 t542] 24 (0, 0)) (by (with_reducible repeat (first | refine zad ?_ _ | refine zab ?_ | refine zac ?_ _)); exact BK544.o)) : gb548 ≠ gb544)); clear BK540; clear BK544; clear HB; have BK540 := n0_; have BK544 := n1_; have HB := n2_; have BK548 := n3_; have GW548 := n4_; have GE548 := n5_; have NB540_548 := n6_; have NB548_540 := n7_; have NB544_548 := n8_; have NB548_544 := n9_; clear n0_ n1_ n2_ n3_ n4_ n5_ n6_ n7_ n8_ n9_; clear hb hbox hg; have hnb31 := NB548_540.o; have hnc31 := NB540_548.o; have hnb32 := NB548_544.o; have hnc32 := NB544_548.o; obtain ⟨hcz33_0, hcz33_1⟩ := cz2 BK548.o; obtain ⟨hfz33_0, hfz33_1⟩ := fz2 BK548.o; obtain ⟨hcz34_0, hcz34_1⟩ := cz2 BK540.o; obtain ⟨hfz34_0, hfz34_1⟩ := fz2 BK540.o) | ((with_reducible refine zas (f := 22) rfl ?_); refine zat (some 71) rfl rfl Tryd.func22 (by kernel_rfl) rfl #[.agg #[.int .i64 t537, .int .i64 t538], .int .i64 t539, .agg #[.int .i64 t545, .int .i64 t546], .int .i64 t547] rfl (by (try simp only [List.map_toArray, List.map_cons, List.map_nil]); first | done | rfl | (simp only [List.length_drop, List.length_take]; rfl)) ?_; (with_reducible refine (vinculumlaw02_agree.calls t537 t538 t539 t545 t546 t547 true _ A18.o).mono ?_); rintro e w35 ⟨rfl, hb⟩; refine ⟨_, rfl, ?_⟩; have n0_ := zaa.mk (zaj (g := gb540) (o := .cells #[.int .i64 t537, .int .i64 t538] 24 (0, 0)) (by (with_reducible repeat (first | refine zad ?_ _ | refine zab ?_ | refine zac ?_ _)); refine zam ?_ NB540_548.o _; (with_reducible repeat (first | refine zad ?_ _ | refine zab ?_ | refine zac ?_ _)); refine zam ?_ NB540_548.o _; (with_reducible repeat (first | refine zad ?_ _ | refine zab ?_ | refine zac ?_ _)); exact BK540.o) hb); have n1_ := zaa.mk (zaj (g := gb544) (o := .cells #[.int .i64 t541, .int .i64 t542] 24 (0, 0)) (by (with_reducible repeat (first | refine zad ?_ _ | refine zab ?_ | refine zac ?_ _)); refine zam ?_ NB544_548.o _; (with_reducible repeat (first | refine zad ?_ _ | refine zab ?_ | refine zac ?_ _)); refine zam ?_ NB544_548.o _; (with_reducible repeat (first | refine zad ?_ _ | refine zab ?_ | refine zac ?_ _)); exact BK544.o) hb); have n2_ := zaa.mk (zaj (g := gb548) (o := .cells #[.int .i64 t545, .int .i64 t546] 24 (0, 0)) (by (with_reducible repeat (first | refine zad ?_ _ | refine zab ?_ | refine zac ?_ _)); refine zap (cs := #[.int .i64 t545, .int .i64 0]) ?_ 1 _ rfl; (with_reducible repeat (first | refine zad ?_ _ | refine zab ?_ | refine zac ?_ _)); refine zap (cs := #[.int .i64 0, .int .i64 0]) ?_ 0 _ rfl; (with_reducible repeat (first | refine zad ?_ _ | refine zab ?_ | refine zac ?_ _)); exact BK548.o) hb); have n3_ := zaa.mk (zao (by repeat (first | (with_reducible first | exact HB.o | apply zaf | apply zah | apply zag | refine zae ?_ GE540.o | refine zae ?_ GE544.o | refine zae ?_ GE548.o) | exact HB.o)) hb); clear BK540; clear BK544; clear BK548; clear HB; have BK540 := n0_; have BK544 := n1_; have BK548 := n2_; have HB := n3_; clear n0_ n1_ n2_ n3_; (try clear hb); (try clear hb2); (try clear hk); (try clear hi)))
            go_ret
            exact ⟨by first | rfl | (simp [errW_none, errW_some] <;> rfl) | (simp [*, errW_none, errW_some] <;> rfl), by repeat (first | (with_reducible first | exact HB.o | apply zaf | apply zah | apply zag | refine zae ?_ GE540.o | refine zae ?_ GE544.o | refine zae ?_ GE548.o) | exact HB.o)⟩
           ·rw [if_neg c20] at H
            have c20b0 : (t547 == 0) = false := beq_eq_false_iff_ne.mpr c20
            have c20b1 : (t547 != 0) = true := bne_iff_ne.mpr c20
            obtain rfl := Option.some.inj H
            go_wp2_with (first | ((with_reducible refine zas (f := 17) rfl ?_); refine zat (some 44) rfl rfl Tryd.func17 (by kernel_rfl) rfl #[.agg #[.int .i64 (wrap64 (a0)), .int .i64 1]] rfl (by (try simp only [List.map_toArray, List.map_cons, List.map_nil]); first | done | rfl | (simp only [List.length_drop, List.length_take]; rfl)) ?_; (with_reducible refine (vinculumref02_Text.calls k2 (wrap64 (a0)) 1 t536 _ A12.o).mono ?_); rintro e w36 ⟨rfl, hb⟩; refine ⟨_, rfl, ?_⟩; have n0_ := zaa.mk (zao (by repeat (first | (with_reducible first | exact HB.o | apply zaf | apply zah | apply zag) | exact HB.o)) hb); clear HB; have HB := n0_; clear n0_; (try clear hb); (try clear hb2); (try clear hk); (try clear hi)) | ((with_reducible refine zas (f := 39) rfl ?_); refine zat (some 48) rfl rfl Tryd.func39 (by kernel_rfl) rfl #[.string ((t536 ++ (⟨#[46]⟩ : ByteArray)) ++ x7_1)] rfl (by (try simp only [List.map_toArray, List.map_cons, List.map_nil]); first | done | rfl | (simp only [List.length_drop, List.length_take]; rfl)) ?_; (with_reducible refine (rational_Parse.calls k2 ((t536 ++ (⟨#[46]⟩ : ByteArray)) ++ x7_1) t537 t538 t539 _ A15.o).mono ?_); rintro e w37 ⟨rfl, hb⟩; refine ⟨_, rfl, ?_⟩; have n0_ := zaa.mk (zao (by repeat (first | (with_reducible first | exact HB.o | apply zaf | apply zah | apply zag) | exact HB.o)) hb); clear HB; have HB := n0_; clear n0_; (try clear hb); (try clear hb2); (try clear hk); (try clear hi)) | ((with_reducible refine zaq (N := 11) rfl ?_); refine zar ?hg (N := 11) ?hd (cs := #[.int .i64 0, .int .i64 0]) (t := 24) ?hr ?_; (case hd => rfl); (case hg => rfl); (case hr => first | (go_simp; done) | (go_simp; rfl)); intro gb540 hg w38 hbox hb; have n0_ := zaa.mk (zao (by repeat (first | (with_reducible first | exact HB.o | apply zaf | apply zah | apply zag) | exact HB.o)) hb); have n1_ := zaa.mk (hbox); have n2_ := zaa.mk ((by rw [hg]; exact (zan (by repeat (first | (with_reducible first | exact HB.o | apply zaf | apply zah | apply zag) | exact HB.o))) : w.heap.size ≤ gb540)); have n3_ := zaa.mk ((by rw [hg]; exact (zan (by repeat (first | (with_reducible first | exact HB.o | apply zaf | apply zah | apply zag) | exact HB.o))) : w.heap.size ≤ gb540)); clear HB; have HB := n0_; have BK540 := n1_; have GW540 := n2_; have GE540 := n3_; clear n0_ n1_ n2_ n3_; clear hb hbox hg; obtain ⟨hcz39_0, hcz39_1⟩ := cz2 BK540.o; obtain ⟨hfz39_0, hfz39_1⟩ := fz2 BK540.o) | ((with_reducible refine zas (f := 13) rfl ?_); refine zat (some 55) rfl rfl Tryd.func13 (by kernel_rfl) rfl #[.int .i64 (wrap64 (a1)), .int .i64 x8_2] rfl (by (try simp only [List.map_toArray, List.map_cons, List.map_nil]); first | done | rfl | (simp only [List.length_drop, List.length_take]; rfl)) ?_; (with_reducible refine (rational_Make.calls k2 (wrap64 (a1)) x8_2 t541 t542 t543 _ A16.o).mono ?_); rintro e w40 ⟨rfl, hb⟩; refine ⟨_, rfl, ?_⟩; have n0_ := zaa.mk (zaj (g := gb540) (o := .cells #[.int .i64 t537, .int .i64 t538] 24 (0, 0)) (by (with_reducible repeat (first | refine zad ?_ _ | refine zab ?_ | refine zac ?_ _)); refine zap (cs := #[.int .i64 t537, .int .i64 0]) ?_ 1 _ rfl; (with_reducible repeat (first | refine zad ?_ _ | refine zab ?_ | refine zac ?_ _)); refine zap (cs := #[.int .i64 0, .int .i64 0]) ?_ 0 _ rfl; (with_reducible repeat (first | refine zad ?_ _ | refine zab ?_ | refine zac ?_ _)); exact BK540.o) hb); have n1_ := zaa.mk (zao (by repeat (first | (with_reducible first | exact HB.o | apply zaf | apply zah | apply zag | refine zae ?_ GE540.o) | exact HB.o)) hb); clear BK540; clear HB; have BK540 := n0_; have HB := n1_; clear n0_ n1_; (try clear hb); (try clear hb2); (try clear hk); (try clear hi)) | ((with_reducible refine zaq (N := 13) rfl ?_); refine zar ?hg (N := 13) ?hd (cs := #[.int .i64 0, .int .i64 0]) (t := 24) ?hr ?_; (case hd => rfl); (case hg => rfl); (case hr => first | (go_simp; done) | (go_simp; rfl)); intro gb544 hg w41 hbox hb; have n0_ := zaa.mk (zaj (by (with_reducible repeat (first | refine zad ?_ _ | refine zab ?_ | refine zac ?_ _)); exact BK540.o) hb); have n1_ := zaa.mk (zao (by repeat (first | (with_reducible first | exact HB.o | apply zaf | apply zah | apply zag | refine zae ?_ GE540.o) | exact HB.o)) hb); have n2_ := zaa.mk (hbox); have n3_ := zaa.mk ((by rw [hg]; exact (zan (by repeat (first | (with_reducible first | exact HB.o | apply zaf | apply zah | apply zag | refine zae ?_ GE540.o) | exact HB.o))) : w.heap.size ≤ gb544)); have n4_ := zaa.mk ((by rw [hg]; exact (zan (by repeat (first | (with_reducible first | exact HB.o | apply zaf | apply zah | apply zag | refine zae ?_ GE540.o) | exact HB.o))) : w.heap.size ≤ gb544)); have n5_ := zaa.mk ((by rw [hg]; exact Nat.ne_of_lt (zal (g := gb540) (o := .cells #[.int .i64 t537, .int .i64 t538] 24 (0, 0)) (by (with_reducible repeat (first | refine zad ?_ _ | refine zab ?_ | refine zac ?_ _)); exact BK540.o)) : gb540 ≠ gb544)); have n6_ := zaa.mk ((by rw [hg]; exact Nat.ne_of_gt (zal (g := gb540) (o := .cells #[.int .i64 t537, .int .i64 t538] 24 (0, 0)) (by (with_reducible repeat (first | refine zad ?_ _ | refine zab ?_ | refine zac ?_ _)); exact BK540.o)) : gb544 ≠ gb540)); clear BK540; clear HB; have BK540 := n0_; have HB := n1_; have BK544 := n2_; have GW544 := n3_; have GE544 := n4_; have NB540_544 := n5_; have NB544_540 := n6_; clear n0_ n1_ n2_ n3_ n4_ n5_ n6_; clear hb hbox hg; have hnb42 := NB544_540.o; have hnc42 := NB540_544.o; obtain ⟨hcz43_0, hcz43_1⟩ := cz2 BK544.o; obtain ⟨hfz43_0, hfz43_1⟩ := fz2 BK544.o) | ((with_reducible refine zas (f := 21) rfl ?_); refine zat (some 64) rfl rfl Tryd.func21 (by kernel_rfl) rfl #[.int .i64 0, .agg #[.int .i64 t541, .int .i64 t542], .int .i64 t543, .agg #[.int .i64 (wrap64 (a0)), .int .i64 1], .int .i64 0] rfl (by (try simp only [List.map_toArray, List.map_cons, List.map_nil]); first | done | rfl | (simp only [List.length_drop, List.length_take]; rfl)) ?_; (with_reducible refine (vinculumlaw02_op.calls k2 0 t541 t542 t543 (wrap64 (a0)) 1 0 t545 t546 t547 _ A17.o).mono ?_); rintro e w44 ⟨rfl, hb⟩; refine ⟨_, rfl, ?_⟩; have n0_ := zaa.mk (zaj (g := gb540) (o := .cells #[.int .i64 t537, .int .i64 t538] 24 (0, 0)) (by (with_reducible repeat (first | refine zad ?_ _ | refine zab ?_ | refine zac ?_ _)); refine zam ?_ NB540_544.o _; (with_reducible repeat (first | refine zad ?_ _ | refine zab ?_ | refine zac ?_ _)); refine zam ?_ NB540_544.o _; (with_reducible repeat (first | refine zad ?_ _ | refine zab ?_ | refine zac ?_ _)); exact BK540.o) hb); have n1_ := zaa.mk (zaj (g := gb544) (o := .cells #[.int .i64 t541, .int .i64 t542] 24 (0, 0)) (by (with_reducible repeat (first | refine zad ?_ _ | refine zab ?_ | refine zac ?_ _)); refine zap (cs := #[.int .i64 t541, .int .i64 0]) ?_ 1 _ rfl; (with_reducible repeat (first | refine zad ?_ _ | refine zab ?_ | refine zac ?_ _)); refine zap (cs := #[.int .i64 0, .int .i64 0]) ?_ 0 _ rfl; (with_reducible repeat (first | refine zad ?_ _ | refine zab ?_ | refine zac ?_ _)); exact BK544.o) hb); have n2_ := zaa.mk (zao (by repeat (first | (with_reducible first | exact HB.o | apply zaf | apply zah | apply zag | refine zae ?_ GE540.o | refine zae ?_ GE544.o) | exact HB.o)) hb); clear BK540; clear BK544; clear HB; have BK540 := n0_; have BK544 := n1_; have HB := n2_; clear n0_ n1_ n2_; (try clear hb); (try clear hb2); (try clear hk); (try clear hi)) | ((with_reducible refine zaq (N := 15) rfl ?_); refine zar ?hg (N := 15) ?hd (cs := #[.int .i64 0, .int .i64 0]) (t := 24) ?hr ?_; (case hd => rfl); (case hg => rfl); (case hr => first | (go_simp; done) | (go_simp; rfl)); intro gb548 hg w45 hbox hb; have n0_ := zaa.mk (zaj (by (with_reducible repeat (first | refine zad ?_ _ | refine zab ?_ | refine zac ?_ _)); exact BK540.o) hb); have n1_ := zaa.mk (zaj (by (with_reducible repeat (first | refine zad ?_ _ | refine zab ?_ | refine zac ?_ _)); exact BK544.o) hb); have n2_ := zaa.mk (zao (by repeat (first | (with_reducible first | exact HB.o | apply zaf | apply zah | apply zag | refine zae ?_ GE540.o | refine zae ?_ GE544.o) | exact HB.o)) hb); have n3_ := zaa.mk (hbox); have n4_ := zaa.mk ((by rw [hg]; exact (zan (by repeat (first | (with_reducible first | exact HB.o | apply zaf | apply zah | apply zag | refine zae ?_ GE540.o | refine zae ?_ GE544.o) | exact HB.o))) : w.heap.size ≤ gb548)); have n5_ := zaa.mk ((by rw [hg]; exact (zan (by repeat (first | (with_reducible first | exact HB.o | apply zaf | apply zah | apply zag | refine zae ?_ GE540.o | refine zae ?_ GE544.o) | exact HB.o))) : w.heap.size ≤ gb548)); have n6_ := zaa.mk ((by rw [hg]; exact Nat.ne_of_lt (zal (g := gb540) (o := .cells #[.int .i64 t537, .int .i64 t538] 24 (0, 0)) (by (with_reducible repeat (first | refine zad ?_ _ | refine zab ?_ | refine zac ?_ _)); exact BK540.o)) : gb540 ≠ gb548)); have n7_ := zaa.mk ((by rw [hg]; exact Nat.ne_of_gt (zal (g := gb540) (o := .cells #[.int .i64 t537, .int .i64 t538] 24 (0, 0)) (by (with_reducible repeat (first | refine zad ?_ _ | refine zab ?_ | refine zac ?_ _)); exact BK540.o)) : gb548 ≠ gb540)); have n8_ := zaa.mk ((by rw [hg]; exact Nat.ne_of_lt (zal (g := gb544) (o := .cells #[.int .i64 t541, .int .i64 t542] 24 (0, 0)) (by (with_reducible repeat (first | refine zad ?_ _ | refine zab ?_ | refine zac ?_ _)); exact BK544.o)) : gb544 ≠ gb548)); have n9_ := zaa.mk ((by rw [hg]; exact Nat.ne_of_gt (zal (g := gb544) (o := .cells #[.int .i64 t541, .int .i64 t542] 24 (0, 0)) (by (with_reducible repeat (first | refine zad ?_ _ | refine zab ?_ | refine zac ?_ _)); exact BK544.o)) : gb548 ≠ gb544)); clear BK540; clear BK544; clear HB; have BK540 := n0_; have BK544 := n1_; have HB := n2_; have BK548 := n3_; have GW548 := n4_; have GE548 := n5_; have NB540_548 := n6_; have NB548_540 := n7_; have NB544_548 := n8_; have NB548_544 := n9_; clear n0_ n1_ n2_ n3_ n4_ n5_ n6_ n7_ n8_ n9_; clear hb hbox hg; have hnb46 := NB548_540.o; have hnc46 := NB540_548.o; have hnb47 := NB548_544.o; have hnc47 := NB544_548.o; obtain ⟨hcz48_0, hcz48_1⟩ := cz2 BK548.o; obtain ⟨hfz48_0, hfz48_1⟩ := fz2 BK548.o; obtain ⟨hcz49_0, hcz49_1⟩ := cz2 BK540.o; obtain ⟨hfz49_0, hfz49_1⟩ := fz2 BK540.o) | ((with_reducible refine zas (f := 22) rfl ?_); refine zat (some 71) rfl rfl Tryd.func22 (by kernel_rfl) rfl #[.agg #[.int .i64 t537, .int .i64 t538], .int .i64 t539, .agg #[.int .i64 t545, .int .i64 t546], .int .i64 t547] rfl (by (try simp only [List.map_toArray, List.map_cons, List.map_nil]); first | done | rfl | (simp only [List.length_drop, List.length_take]; rfl)) ?_; (with_reducible refine (vinculumlaw02_agree.calls t537 t538 t539 t545 t546 t547 true _ A18.o).mono ?_); rintro e w50 ⟨rfl, hb⟩; refine ⟨_, rfl, ?_⟩; have n0_ := zaa.mk (zaj (g := gb540) (o := .cells #[.int .i64 t537, .int .i64 t538] 24 (0, 0)) (by (with_reducible repeat (first | refine zad ?_ _ | refine zab ?_ | refine zac ?_ _)); refine zam ?_ NB540_548.o _; (with_reducible repeat (first | refine zad ?_ _ | refine zab ?_ | refine zac ?_ _)); refine zam ?_ NB540_548.o _; (with_reducible repeat (first | refine zad ?_ _ | refine zab ?_ | refine zac ?_ _)); exact BK540.o) hb); have n1_ := zaa.mk (zaj (g := gb544) (o := .cells #[.int .i64 t541, .int .i64 t542] 24 (0, 0)) (by (with_reducible repeat (first | refine zad ?_ _ | refine zab ?_ | refine zac ?_ _)); refine zam ?_ NB544_548.o _; (with_reducible repeat (first | refine zad ?_ _ | refine zab ?_ | refine zac ?_ _)); refine zam ?_ NB544_548.o _; (with_reducible repeat (first | refine zad ?_ _ | refine zab ?_ | refine zac ?_ _)); exact BK544.o) hb); have n2_ := zaa.mk (zaj (g := gb548) (o := .cells #[.int .i64 t545, .int .i64 t546] 24 (0, 0)) (by (with_reducible repeat (first | refine zad ?_ _ | refine zab ?_ | refine zac ?_ _)); refine zap (cs := #[.int .i64 t545, .int .i64 0]) ?_ 1 _ rfl; (with_reducible repeat (first | refine zad ?_ _ | refine zab ?_ | refine zac ?_ _)); refine zap (cs := #[.int .i64 0, .int .i64 0]) ?_ 0 _ rfl; (with_reducible repeat (first | refine zad ?_ _ | refine zab ?_ | refine zac ?_ _)); exact BK548.o) hb); have n3_ := zaa.mk (zao (by repeat (first | (with_reducible first | exact HB.o | apply zaf | apply zah | apply zag | refine zae ?_ GE540.o | refine zae ?_ GE544.o | refine zae ?_ GE548.o) | exact HB.o)) hb); clear BK540; clear BK544; clear BK548; clear HB; have BK540 := n0_; have BK544 := n1_; have BK548 := n2_; have HB := n3_; clear n0_ n1_ n2_ n3_; (try clear hb); (try clear hb2); (try clear hk); (try clear hi)))
            go_ret
            exact ⟨by first | rfl | (simp [errW_none, errW_some] <;> rfl) | (simp [*, errW_none, errW_some] <;> rfl), by repeat (first | (with_reducible first | exact HB.o | apply zaf | apply zah | apply zag | refine zae ?_ GE540.o | refine zae ?_ GE544.o | refine zae ?_ GE548.o) | exact HB.o)⟩
          ·replace c19 := Bool.eq_false_iff.mpr c19
           subst c19
           have H1 : (none) = some r := by rw [if_neg (show ¬ (false = true) by decide)] at H; exact H
           clear H
           have H := H1
           clear H1
           exact absurd H (by simp)
         ·rw [if_neg c14] at H
          exact absurd H (by simp)
        ·rw [if_neg c13] at H
         exact absurd H (by simp)
 ·replace c5 := Bool.eq_false_iff.mpr c5
  subst c5
  have H1 : (none) = some r := by rw [if_neg (show ¬ (false = true) by decide)] at H; exact H
  clear H
  have H := H1
  clear H1
  exact absurd H (by simp)

/-- THE ONE PURE STATEMENT of vinculumlaw02_RationalDecimal: yours. -/
def vinculumlaw02_RationalDecimal.Pure : Prop := ∀ (a0 : Int) (a1 : Int) (a2 : Int), (Lit.int .u16 a0).wf = true → (Lit.int .u16 a1).wf = true → (Lit.int .u8 a2).wf = true → ∃ k, vinculumlaw02_RationalDecimal.f k a0 a1 a2 = some true
theorem vinculumlaw02_RationalDecimal.walk (P : vinculumlaw02_RationalDecimal.Pure) (a0 : Int) (a1 : Int) (a2 : Int) (w : World) (htab : TB w) (w0 : (Lit.int .u16 a0).wf = true) (w1 : (Lit.int .u16 a1).wf = true) (w2 : (Lit.int .u8 a2).wf = true) :
  Calls Tryd.prog 10 #[.int .u16 a0, .int .u16 a1, .int .u8 a2] w fun e w' => e = .returned (.bool true) ∧ Below w.heap.size w w' := by
 obtain ⟨k, h⟩ := P a0 a1 a2 w0 w1 w2
 refine (vinculumlaw02_RationalDecimal.calls k a0 a1 a2 true w htab h).mono ?_
 rintro e w' ⟨rfl, hd⟩
 exact ⟨rfl, hd⟩

end Go.Proofs.YtoieknocpphjoaaDoor.P
