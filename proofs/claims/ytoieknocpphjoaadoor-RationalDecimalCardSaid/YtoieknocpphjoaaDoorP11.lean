--m
/- Written by wip/tool/hprint.py (the kit's print.py with hand-proved contracts set in): contracts of the functions that the statements of this seat reach, without conditions beyond those named in each theorem. -/
import Derived.Test.YtoieknocpphjoaaDoorP0
namespace Go.Proofs.YtoieknocpphjoaaDoor.P
open Go.RowKit Go.Proofs.YtoieknocpphjoaaDoorW.PrintWords Go.Proofs.YtoieknocpphjoaaDoorW.PrintLast Go.Proofs.YtoieknocpphjoaaDoorW.PrintMore
attribute [local go_sem] zay zaz zaA zaB zaC zaD zaE zaF   -- for this text's walks alone
set_option linter.unusedVariables false
set_option linter.unusedSimpArgs false

/-! ### vinculumref02_common: function 47 -/
def vinculumref02_common.l0 : Nat → Int → Int → Option (Int)
 | 0, _, _ => none
 | k + 1, x0, x1 => if x1 > 0 then (if x1 = 0 then (none) else (vinculumref02_common.l0 k x1 (Int.tmod x0 x1))) else (some x0)
def vinculumref02_common.f (k : Nat) (a0 : Int) (a1 : Int) : Option (Int) := vinculumref02_common.l0 k a0 a1
theorem vinculumref02_common.mono_l : ∀ k, (∀ y0 y1, LeO (vinculumref02_common.l0 k y0 y1) (vinculumref02_common.l0 (k + 1) y0 y1))
 | 0 => fun _ _ r h => by simp [vinculumref02_common.l0] at h
 | k + 1 => by
  have ih0 := vinculumref02_common.mono_l k
  ·intro y0 y1
   unfold vinculumref02_common.l0
   repeat' first
   | (with_reducible exact ih0 _ _)
   | (with_reducible exact LeO.refl _)
   | (with_reducible exact LeO.none _)
   | (with_reducible refine LeO.ite ?_ ?_)
   | (with_reducible refine LeO.bind ?_ (fun _ => ?_))
   | exact ih0 _ _
   | exact LeO.none _
   | refine LeO.ite ?_ ?_
   | refine LeO.bind ?_ (fun _ => ?_)
theorem vinculumref02_common.mono : ∀ a0 a1 k, LeO (vinculumref02_common.f k a0 a1) (vinculumref02_common.f (k + 1) a0 a1) := by
 intro a0 a1 k
 have ih0 := vinculumref02_common.mono_l k
 unfold vinculumref02_common.f
 repeat' first
   | (with_reducible exact ih0 _ _)
   | (with_reducible exact LeO.refl _)
   | (with_reducible exact LeO.none _)
   | (with_reducible refine LeO.ite ?_ ?_)
   | (with_reducible refine LeO.bind ?_ (fun _ => ?_))
   | exact ih0 _ _
   | exact LeO.none _
   | refine LeO.ite ?_ ?_
   | refine LeO.bind ?_ (fun _ => ?_)
set_option maxHeartbeats 8000000 in
set_option maxRecDepth 100000 in
theorem vinculumref02_common.calls (k : Nat) (a0 : Int) (a1 : Int) (r : Int) (w : World) (h : vinculumref02_common.f k a0 a1 = some r) :
  Calls Tryd.prog 47 #[.int .u64 a0, .int .u64 a1] w fun e w' => e = .returned (.int .u64 r) ∧ zaw w w' := by
 have H : (vinculumref02_common.l0 k a0 a1) = some r := h
 clear h
 have H' := zaa.mk H
 clear H
 go_enter Tryd.func47, Tryd.ntmps47
 go_wp2
 repeat (go_quiet (fail); try go_wp2)
 go_loopg [0, 1] k (fun kq v0 v1 w' => ∃ (x0_1 : Int) (x1_1 : Int), v0 = .int .u64 x0_1 ∧ v1 = .int .u64 x1_1 ∧ zaa (vinculumref02_common.l0 kq x0_1 x1_1 = some r) ∧ zaa (kq ≤ k) ∧ zaw w w')
 case atStart => exact ⟨(a0), (a1), (by first | rfl | (simp; done) | (simp [*]; done)), (by first | rfl | (simp; done) | (simp [*]; done)), H', ⟨Nat.le_refl _⟩, by repeat (first | exact zaw.refl _ | apply zaw.step)⟩
 case round =>
  clear H'
  try clear p2
  obtain ⟨x0_1, x1_1, rfl, rfl, HA, HK1, ⟨m1, rfl⟩⟩ := hrel
  cases gk with
  | zero => exact absurd HA.o (by simp [vinculumref02_common.l0])
  | succ k1 =>
   have H := HA.o
   clear HA
   simp only [vinculumref02_common.l0] at H
   by_cases c3 : x1_1 > 0
   ·rw [if_pos c3] at H
    have c3b0 : decide (0 < x1_1) = true := decide_eq_true c3
    clear c3
    by_cases c4 : x1_1 = 0
    ·rw [if_pos c4] at H
     exact absurd H (by simp)
    ·rw [if_neg c4] at H
     have c4b0 : (x1_1 == 0) = false := beq_eq_false_iff_ne.mpr c4
     have c4b1 : (x1_1 != 0) = true := bne_iff_ne.mpr c4
     have H' := zaa.mk H
     clear H
     go_wp2
     repeat (go_quiet (fail); try go_wp2)
     go_roundg k1
     case measure => have := HK1.o; omega
     case rel => exact ⟨(x1_1), (Int.tmod x0_1 x1_1), (by first | rfl | (simp; done) | (simp [*]; done)), (by first | rfl | (simp; done) | (simp [*]; done)), H', ⟨by have := HK1.o; omega⟩, by repeat (first | exact zaw.refl _ | apply zaw.step)⟩
   ·rw [if_neg c3] at H
    have c3b0 : decide (0 < x1_1) = false := decide_eq_false c3
    clear c3
    obtain rfl := Option.some.inj H
    go_wp2
    repeat (go_quiet (fail); try go_wp2)
    go_ret
    exact ⟨by first | rfl | (simp; done) | (simp [*]; done), by repeat (first | exact zaw.refl _ | apply zaw.step)⟩

end Go.Proofs.YtoieknocpphjoaaDoor.P
