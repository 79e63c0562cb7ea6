--m
/- Written by wip/tool/hprint.py (the kit's print.py with hand-proved contracts set in): contracts of the functions that the statements of this seat reach, without conditions beyond those named in each theorem. -/
import Derived.Test.YtoieknocpphjoaaDoorP0
import Derived.Test.YtoieknocpphjoaaDoorP52
import Derived.Test.YtoieknocpphjoaaDoorP53
namespace Go.Proofs.YtoieknocpphjoaaDoor.P
open Go.RowKit Go.Proofs.YtoieknocpphjoaaDoorW.PrintWords Go.Proofs.YtoieknocpphjoaaDoorW.PrintLast Go.Proofs.YtoieknocpphjoaaDoorW.PrintMore
attribute [local go_sem] zay zaz zaA zaB zaC zaD zaE zaF   -- for this text's walks alone
set_option linter.unusedVariables false
set_option linter.unusedSimpArgs false

/-! ### vinculumref02_Decimal: function 56 -/
def vinculumref02_Decimal.f (k : Nat) (a0 : ByteArray) : Option (Bool) := (vinculumref02_point.f k a0).bind fun t485 => (if t485 ≥ 0 then (if 0 ≤ t485 then (if t485 ≤ (a0.size : Int) then ((vinculumref02_digits.f k (a0.extract 0 (t485 : Int).toNat)).bind fun t486 => (if t486 = true then (if 0 ≤ (wrap64 (t485 + 1)) then (if (wrap64 (t485 + 1)) ≤ (a0.size : Int) then ((vinculumref02_digits.f k (a0.extract ((wrap64 (t485 + 1)) : Int).toNat a0.size)).bind fun t487 => (some t487)) else (none)) else (none)) else (some false))) else (none)) else (none)) else ((vinculumref02_digits.f k a0).bind fun t488 => (some t488)))
theorem vinculumref02_Decimal.mono : ∀ a0 k, LeO (vinculumref02_Decimal.f k a0) (vinculumref02_Decimal.f (k + 1) a0) := by
 intro a0 k
 unfold vinculumref02_Decimal.f
 repeat' first
   | (with_reducible exact vinculumref02_digits.mono _ _)
   | (with_reducible exact vinculumref02_point.mono _ _)
   | (with_reducible exact LeO.refl _)
   | (with_reducible exact LeO.none _)
   | (with_reducible refine LeO.ite ?_ ?_)
   | (with_reducible refine LeO.bind ?_ (fun _ => ?_))
   | exact vinculumref02_digits.mono _ _
   | exact vinculumref02_point.mono _ _
   | exact LeO.none _
   | refine LeO.ite ?_ ?_
   | refine LeO.bind ?_ (fun _ => ?_)
set_option maxHeartbeats 8000000 in
set_option maxRecDepth 100000 in
theorem vinculumref02_Decimal.calls (k : Nat) (a0 : ByteArray) (r : Bool) (w : World) (h : vinculumref02_Decimal.f k a0 = some r) :
  Calls Tryd.prog 56 #[.string a0] w fun e w' => e = .returned (.bool r) ∧ zaw w w' := by
 have H : ((vinculumref02_point.f k a0).bind fun t485 => (if t485 ≥ 0 then (if 0 ≤ t485 then (if t485 ≤ (a0.size : Int) then ((vinculumref02_digits.f k (a0.extract 0 (t485 : Int).toNat)).bind fun t486 => (if t486 = true then (if 0 ≤ (wrap64 (t485 + 1)) then (if (wrap64 (t485 + 1)) ≤ (a0.size : Int) then ((vinculumref02_digits.f k (a0.extract ((wrap64 (t485 + 1)) : Int).toNat a0.size)).bind fun t487 => (some t487)) else (none)) else (none)) else (some false))) else (none)) else (none)) else ((vinculumref02_digits.f k a0).bind fun t488 => (some t488)))) = some r := h
 clear h
 replace H := Option.bind_eq_some_iff.mp H
 obtain ⟨t485, A20, H⟩ := H
 replace H : (if t485 ≥ 0 then (if 0 ≤ t485 then (if t485 ≤ (a0.size : Int) then ((vinculumref02_digits.f k (a0.extract 0 (t485 : Int).toNat)).bind fun t486 => (if t486 = true then (if 0 ≤ (wrap64 (t485 + 1)) then (if (wrap64 (t485 + 1)) ≤ (a0.size : Int) then ((vinculumref02_digits.f k (a0.extract ((wrap64 (t485 + 1)) : Int).toNat a0.size)).bind fun t487 => (some t487)) else (none)) else (none)) else (some false))) else (none)) else (none)) else ((vinculumref02_digits.f k a0).bind fun t488 => (some t488))) = some r := H
 have A2 := zaa.mk A20
 clear A20
 by_cases c3 : t485 ≥ 0
 ·rw [if_pos c3] at H
  have c3b0 : decide (0 ≤ t485) = true := decide_eq_true c3
  clear c3
  by_cases c4 : 0 ≤ t485
  ·rw [if_pos c4] at H
   have c4b0 := eq_true c4
   have c4b1 : decide (0 ≤ t485) = true := decide_eq_true c4
   clear c4
   by_cases c5 : t485 ≤ (a0.size : Int)
   ·rw [if_pos c5] at H
    have c5b0 := eq_true c5
    have c5b1 : decide (t485 ≤ (a0.size : Int)) = true := decide_eq_true c5
    clear c5
    replace H := Option.bind_eq_some_iff.mp H
    obtain ⟨t486, A60, H⟩ := H
    replace H : (if t486 = true then (if 0 ≤ (wrap64 (t485 + 1)) then (if (wrap64 (t485 + 1)) ≤ (a0.size : Int) then ((vinculumref02_digits.f k (a0.extract ((wrap64 (t485 + 1)) : Int).toNat a0.size)).bind fun t487 => (some t487)) else (none)) else (none)) else (some false)) = some r := H
    have A6 := zaa.mk A60
    clear A60
    by_cases c7 : t486 = true
    ·subst c7
     have H1 : (if 0 ≤ (wrap64 (t485 + 1)) then (if (wrap64 (t485 + 1)) ≤ (a0.size : Int) then ((vinculumref02_digits.f k (a0.extract ((wrap64 (t485 + 1)) : Int).toNat a0.size)).bind fun t487 => (some t487)) else (none)) else (none)) = some r := by rw [if_pos rfl] at H; exact H
     clear H
     have H := H1
     clear H1
     obtain ⟨ji8, hji8⟩ : ∃ j_ : Int, (wrap64 (t485 + 1)) = j_ := ⟨_, rfl⟩
     replace H : (if 0 ≤ (ji8) then (if (ji8) ≤ (a0.size : Int) then ((vinculumref02_digits.f k (a0.extract ((ji8) : Int).toNat a0.size)).bind fun t487 => (some t487)) else (none)) else (none)) = some r := by first | (rw [hji8] at H; exact H) | (simp only [hji8] at H ⊢; exact H)
     (try rw [hji8] at A2)
     (try rw [hji8] at A6)
     have hji8w : (IntKind.i64.wrap (t485 + 1)) = ji8 := (i64_w _).trans hji8
     by_cases c9 : 0 ≤ (ji8)
     ·rw [if_pos c9] at H
      have c9b0 := eq_true c9
      have c9b1 : decide (0 ≤ (ji8)) = true := decide_eq_true c9
      clear c9
      by_cases c10 : (ji8) ≤ (a0.size : Int)
      ·rw [if_pos c10] at H
       have c10b0 := eq_true c10
       have c10b1 : decide ((ji8) ≤ (a0.size : Int)) = true := decide_eq_true c10
       clear c10
       replace H := Option.bind_eq_some_iff.mp H
       obtain ⟨t487, A110, H⟩ := H
       replace H : (some t487) = some r := H
       have A11 := zaa.mk A110
       clear A110
       obtain rfl := Option.some.inj H
       go_enter Tryd.func56, Tryd.ntmps56
       go_wp2_with (first | ((with_reducible refine zas (f := 57) rfl ?_); refine zat (some 5) rfl rfl Tryd.func57 (by kernel_rfl) rfl #[.string a0] rfl (by (try simp only [List.map_toArray, List.map_cons, List.map_nil]); first | done | rfl | (simp only [List.length_drop, List.length_take]; rfl)) ?_; (with_reducible refine (vinculumref02_point.calls k a0 t485 _ A2.o).mono ?_); rintro e w' ⟨rfl, ⟨nd, rfl⟩⟩; refine ⟨_, rfl, ?_⟩) | ((with_reducible refine zas (f := 64) rfl ?_); refine zat (some 11) rfl rfl Tryd.func64 (by kernel_rfl) rfl #[.string (a0.extract 0 (t485 : Int).toNat)] rfl (by (try simp only [List.map_toArray, List.map_cons, List.map_nil]); first | done | rfl | (simp only [List.length_drop, List.length_take]; rfl)) ?_; (with_reducible refine (vinculumref02_digits.calls k (a0.extract 0 (t485 : Int).toNat) true _ A6.o).mono ?_); rintro e w' ⟨rfl, ⟨nd, rfl⟩⟩; refine ⟨_, rfl, ?_⟩) | (go_at_call 64; (with_reducible refine (vinculumref02_digits.calls k (a0.extract ((ji8) : Int).toNat a0.size) t487 _ A11.o).mono ?_); rintro e w' ⟨rfl, ⟨nd, rfl⟩⟩))
       go_ret
       exact ⟨by first | rfl | (simp; done) | (simp only [← hji8] <;> (first | rfl | simp)) | (simp [*]; done), by repeat (first | exact zaw.refl _ | apply zaw.step)⟩
      ·rw [if_neg c10] at H
       exact absurd H (by simp)
     ·rw [if_neg c9] at H
      exact absurd H (by simp)
    ·replace c7 := Bool.eq_false_iff.mpr c7
     subst c7
     have H1 : (some false) = some r := by rw [if_neg (show ¬ (false = true) by decide)] at H; exact H
     clear H
     have H := H1
     clear H1
     obtain rfl := Option.some.inj H
     go_enter Tryd.func56, Tryd.ntmps56
     go_wp2_with (first | ((with_reducible refine zas (f := 57) rfl ?_); refine zat (some 5) rfl rfl Tryd.func57 (by kernel_rfl) rfl #[.string a0] rfl (by (try simp only [List.map_toArray, List.map_cons, List.map_nil]); first | done | rfl | (simp only [List.length_drop, List.length_take]; rfl)) ?_; (with_reducible refine (vinculumref02_point.calls k a0 t485 _ A2.o).mono ?_); rintro e w' ⟨rfl, ⟨nd, rfl⟩⟩; refine ⟨_, rfl, ?_⟩) | ((with_reducible refine zas (f := 64) rfl ?_); refine zat (some 11) rfl rfl Tryd.func64 (by kernel_rfl) rfl #[.string (a0.extract 0 (t485 : Int).toNat)] rfl (by (try simp only [List.map_toArray, List.map_cons, List.map_nil]); first | done | rfl | (simp only [List.length_drop, List.length_take]; rfl)) ?_; (with_reducible refine (vinculumref02_digits.calls k (a0.extract 0 (t485 : Int).toNat) false _ A6.o).mono ?_); rintro e w' ⟨rfl, ⟨nd, rfl⟩⟩; refine ⟨_, rfl, ?_⟩))
     go_ret
     exact ⟨by first | rfl | (simp; done) | (simp [*]; done), by repeat (first | exact zaw.refl _ | apply zaw.step)⟩
   ·rw [if_neg c5] at H
    exact absurd H (by simp)
  ·rw [if_neg c4] at H
   exact absurd H (by simp)
 ·rw [if_neg c3] at H
  have c3b0 : decide (0 ≤ t485) = false := decide_eq_false c3
  clear c3
  replace H := Option.bind_eq_some_iff.mp H
  obtain ⟨t488, A120, H⟩ := H
  replace H : (some t488) = some r := H
  have A12 := zaa.mk A120
  clear A120
  obtain rfl := Option.some.inj H
  go_enter Tryd.func56, Tryd.ntmps56
  go_wp2_with (first | ((with_reducible refine zas (f := 57) rfl ?_); refine zat (some 5) rfl rfl Tryd.func57 (by kernel_rfl) rfl #[.string a0] rfl (by (try simp only [List.map_toArray, List.map_cons, List.map_nil]); first | done | rfl | (simp only [List.length_drop, List.length_take]; rfl)) ?_; (with_reducible refine (vinculumref02_point.calls k a0 t485 _ A2.o).mono ?_); rintro e w' ⟨rfl, ⟨nd, rfl⟩⟩; refine ⟨_, rfl, ?_⟩) | ((with_reducible refine zas (f := 64) rfl ?_); refine zat (some 20) rfl rfl Tryd.func64 (by kernel_rfl) rfl #[.string a0] rfl (by (try simp only [List.map_toArray, List.map_cons, List.map_nil]); first | done | rfl | (simp only [List.length_drop, List.length_take]; rfl)) ?_; (with_reducible refine (vinculumref02_digits.calls k a0 t488 _ A12.o).mono ?_); rintro e w' ⟨rfl, ⟨nd, rfl⟩⟩; refine ⟨_, rfl, ?_⟩))
  go_ret
  exact ⟨by first | rfl | (simp; done) | (simp [*]; done), by repeat (first | exact zaw.refl _ | apply zaw.step)⟩

end Go.Proofs.YtoieknocpphjoaaDoor.P
