--m
/- Written by wip/tool/hprint.py (the kit's print.py with hand-proved contracts set in): contracts of the functions that the statements of this seat reach, without conditions beyond those named in each theorem. -/
import Derived.Test.YtoieknocpphjoaaDoorP0
namespace Go.Proofs.YtoieknocpphjoaaDoor.P
open Go.RowKit Go.Proofs.YtoieknocpphjoaaDoorW.PrintWords Go.Proofs.YtoieknocpphjoaaDoorW.PrintLast Go.Proofs.YtoieknocpphjoaaDoorW.PrintMore
attribute [local go_sem] zay zaz zaA zaB zaC zaD zaE zaF   -- for this text's walks alone
set_option linter.unusedVariables false
set_option linter.unusedSimpArgs false

/-! ### rational_number: function 54 -/
def rational_number.l0 : Nat → Int → List Int → Int → Int → Option (Int)
 | 0, _, _, _, _ => none
 | k + 1, x3, x6, x7, x8 => if x8 < x7 then (if 0 ≤ x8 then (if x8 < (x6.length : Int) then (rational_number.l0 k (mn (wrap64 ((wrap64 (10 * x3)) + (wrap64 (rd x6 x8)))) 2147483648) x6 x7 (wrap64 (x8 + 1))) else (none)) else (none)) else (some x3)
def rational_number.f (k : Nat) (l0 : List Int) : Option (Int) := rational_number.l0 k 0 l0 (l0.length : Int) 0
theorem rational_number.mono_l : ∀ k, (∀ y0 y1 y2 y3, LeO (rational_number.l0 k y0 y1 y2 y3) (rational_number.l0 (k + 1) y0 y1 y2 y3))
 | 0 => fun _ _ _ _ r h => by simp [rational_number.l0] at h
 | k + 1 => by
  have ih0 := rational_number.mono_l k
  ·intro y0 y1 y2 y3
   unfold rational_number.l0
   repeat' first
   | (with_reducible exact ih0 _ _ _ _)
   | (with_reducible exact LeO.refl _)
   | (with_reducible exact LeO.none _)
   | (with_reducible refine LeO.ite ?_ ?_)
   | (with_reducible refine LeO.bind ?_ (fun _ => ?_))
   | exact ih0 _ _ _ _
   | exact LeO.none _
   | refine LeO.ite ?_ ?_
   | refine LeO.bind ?_ (fun _ => ?_)
theorem rational_number.mono : ∀ a0 k, LeO (rational_number.f k a0) (rational_number.f (k + 1) a0) := by
 intro a0 k
 have ih0 := rational_number.mono_l k
 unfold rational_number.f
 repeat' first
   | (with_reducible exact ih0 _ _ _ _)
   | (with_reducible exact LeO.refl _)
   | (with_reducible exact LeO.none _)
   | (with_reducible refine LeO.ite ?_ ?_)
   | (with_reducible refine LeO.bind ?_ (fun _ => ?_))
   | exact ih0 _ _ _ _
   | exact LeO.none _
   | refine LeO.ite ?_ ?_
   | refine LeO.bind ?_ (fun _ => ?_)
set_option maxHeartbeats 8000000 in
set_option maxRecDepth 100000 in
theorem rational_number.calls (k : Nat) (A0 : Option Addr) (c0 : Nat) (l0 : List Int) (r : Int) (w : World) (hr0 : Kd.C (Kd.int .u8) w A0 l0.length l0) (hc0 : l0.length ≤ c0) (h : rational_number.f k l0 = some r) :
  Calls Tryd.prog 54 #[.slice A0 l0.length c0] w fun e w' => e = .returned (.int .i64 r) ∧ Below w.heap.size w w' := by
 have HR0 := zaa.mk hr0
 have HC0 := zaa.mk hc0
 clear hr0 hc0
 have HB := zaa.mk (Below.refl w.heap.size w)
 have H : (rational_number.l0 k 0 l0 (l0.length : Int) 0) = some r := h
 clear h
 have H' := zaa.mk H
 clear H
 go_enter Tryd.func54, Tryd.ntmps54
 go_wp2
 go_loopg [3, 8] k (fun kq v3 v8 w' => ∃ (x3_1 : Int) (x8_1 : Int), v3 = .int .i64 x3_1 ∧ v8 = .int .i64 x8_1 ∧ zaa (rational_number.l0 kq x3_1 l0 (l0.length : Int) x8_1 = some r) ∧ zaa (kq ≤ k) ∧ zaa (Below w.heap.size w w'))
 case atStart => exact ⟨(0), (0), (by first | rfl | (simp; done) | (simp [*]; done)), (by first | rfl | (simp; done) | (simp [*]; done)), H', ⟨Nat.le_refl _⟩, ⟨by repeat (first | (with_reducible first | exact HB.o | apply zaf | apply zah | apply zag) | exact HB.o)⟩⟩
 case round =>
  clear H'
  obtain ⟨x3_1, x8_1, rfl, rfl, HA, HK1, HB⟩ := hrel
  cases gk with
  | zero => exact absurd HA.o (by simp [rational_number.l0])
  | succ k1 =>
   have H := HA.o
   clear HA
   simp only [rational_number.l0] at H
   by_cases c2 : x8_1 < (l0.length : Int)
   ·rw [if_pos c2] at H
    have c2b0 : decide (x8_1 < (l0.length : Int)) = true := decide_eq_true c2
    clear c2
    by_cases c3 : 0 ≤ x8_1
    ·rw [if_pos c3] at H
     have c3b0 : decide (0 ≤ x8_1) = true := decide_eq_true c3
     clear c3
     by_cases c4 : x8_1 < (l0.length : Int)
     ·rw [if_pos c4] at H
      have c4b0 : decide (x8_1 < (l0.length : Int)) = true := decide_eq_true c4
      clear c4
      obtain ⟨ji5, hji5⟩ : ∃ j_ : Int, (mn (wrap64 ((wrap64 (10 * x3_1)) + (wrap64 (rd l0 x8_1)))) 2147483648) = j_ := ⟨_, rfl⟩
      replace H : (rational_number.l0 k1 ji5 l0 (l0.length : Int) (wrap64 (x8_1 + 1))) = some r := by first | (rw [hji5] at H; exact H) | (simp only [hji5] at H ⊢; exact H)
      have hji5_ : (if 2147483648 < (wrap64 ((wrap64 (10 * x3_1)) + (wrap64 (rd l0 x8_1)))) then 2147483648 else (wrap64 ((wrap64 (10 * x3_1)) + (wrap64 (rd l0 x8_1))))) = ji5 := hji5
      have H' := zaa.mk H
      clear H
      have p471 : 0 ≤ (x8_1 : Int) := of_decide_eq_true (by first | (with_reducible assumption) | assumption)
      have q471 : x8_1 < (l0.length : Int) := of_decide_eq_true (by first | (with_reducible assumption) | assumption)
      obtain ⟨ad471, e471, hx471_0⟩ := Kd.at_int HR0.o x8_1 p471 q471
      cases e471
      replace hx471_0 := (HB.o.cell (World.block_lt_of_cell? w _ hx471_0)).trans hx471_0
      replace p471 := eq_true p471
      replace q471 := eq_true q471
      go_wp2
      go_roundg k1
      case measure => have := HK1.o; omega
      case rel => exact ⟨(ji5), (wrap64 (x8_1 + 1)), (by first | rfl | (simp; done) | (simp only [← hji5] <;> (first | rfl | simp)) | (simp [*]; done)), (by first | rfl | (simp; done) | (simp [*]; done)), H', ⟨by have := HK1.o; omega⟩, ⟨by repeat (first | (with_reducible first | exact HB.o | apply zaf | apply zah | apply zag) | exact HB.o)⟩⟩
     ·rw [if_neg c4] at H
      exact absurd H (by simp)
    ·rw [if_neg c3] at H
     exact absurd H (by simp)
   ·rw [if_neg c2] at H
    have c2b0 : decide (x8_1 < (l0.length : Int)) = false := decide_eq_false c2
    clear c2
    obtain rfl := Option.some.inj H
    go_wp2
    go_ret
    exact ⟨by first | rfl | (simp [errW_none, errW_some] <;> rfl) | (simp [*, errW_none, errW_some] <;> rfl), by repeat (first | (with_reducible first | exact HB.o | apply zaf | apply zah | apply zag) | exact HB.o)⟩

end Go.Proofs.YtoieknocpphjoaaDoor.P
