--m
/- Written by wip/tool/hprint.py (the kit's print.py with hand-proved contracts set in): contracts of the functions that the statements of this seat reach, without conditions beyond those named in each theorem. -/
import Derived.Test.YtikgflpobacndaaP0
namespace Go.Proofs.Ytikgflpobacndaa.P
open Go.RowKit Go.Proofs.YtikgflpobacndaaW.PrintWords Go.Proofs.YtikgflpobacndaaW.PrintLast Go.Proofs.YtikgflpobacndaaW.PrintMore
attribute [local go_sem] zaz zaA zaB zaC zaD zaE zaF zaG   -- for this text's walks alone
set_option linter.unusedVariables false
set_option linter.unusedSimpArgs false

/-! ### vinculumlaw13_near: function 30 -/
def vinculumlaw13_near.l0 : Nat → List Int → Int → Int → Option (Bool)
 | 0, _, _, _ => none
 | k + 1, x5, x6, x7 => if x7 < x6 then (if 0 ≤ x7 then (if x7 < (x5.length : Int) then (if (rd x5 x7) > 1099511627776 then (some false) else (if (rd x5 x7) < (-1099511627776) then (some false) else (vinculumlaw13_near.l0 k x5 x6 (wrap64 (x7 + 1))))) else (none)) else (none)) else (some true)
def vinculumlaw13_near.f (k : Nat) (l0 : List Int) : Option (Bool) := vinculumlaw13_near.l0 k l0 (l0.length : Int) 0
theorem vinculumlaw13_near.mono_l : ∀ k, (∀ y0 y1 y2, LeO (vinculumlaw13_near.l0 k y0 y1 y2) (vinculumlaw13_near.l0 (k + 1) y0 y1 y2))
 | 0 => fun _ _ _ r h => by simp [vinculumlaw13_near.l0] at h
 | k + 1 => by
  have ih0 := vinculumlaw13_near.mono_l k
  ·intro y0 y1 y2
   unfold vinculumlaw13_near.l0
   repeat' first
   | (with_reducible exact ih0 _ _ _)
   | (with_reducible exact LeO.refl _)
   | (with_reducible exact LeO.none _)
   | (with_reducible refine LeO.ite ?_ ?_)
   | (with_reducible refine LeO.bind ?_ (fun _ => ?_))
   | exact ih0 _ _ _
   | exact LeO.none _
   | refine LeO.ite ?_ ?_
   | refine LeO.bind ?_ (fun _ => ?_)
theorem vinculumlaw13_near.mono : ∀ a0 k, LeO (vinculumlaw13_near.f k a0) (vinculumlaw13_near.f (k + 1) a0) := by
 intro a0 k
 have ih0 := vinculumlaw13_near.mono_l k
 unfold vinculumlaw13_near.f
 repeat' first
   | (with_reducible exact ih0 _ _ _)
   | (with_reducible exact LeO.refl _)
   | (with_reducible exact LeO.none _)
   | (with_reducible refine LeO.ite ?_ ?_)
   | (with_reducible refine LeO.bind ?_ (fun _ => ?_))
   | exact ih0 _ _ _
   | exact LeO.none _
   | refine LeO.ite ?_ ?_
   | refine LeO.bind ?_ (fun _ => ?_)
set_option maxHeartbeats 8000000 in
set_option maxRecDepth 100000 in
theorem vinculumlaw13_near.calls (k : Nat) (A0 : Option Addr) (c0 : Nat) (l0 : List Int) (r : Bool) (w : World) (hr0 : Kd.C (Kd.int .i64) w A0 l0.length l0) (hc0 : l0.length ≤ c0) (h : vinculumlaw13_near.f k l0 = some r) :
  Calls Try.prog 30 #[.slice A0 l0.length c0] w fun e w' => e = .returned (.bool r) ∧ zar w w' := by
 have HR0 := zab.mk hr0
 have HC0 := zab.mk hc0
 clear hr0 hc0
 have H : (vinculumlaw13_near.l0 k l0 (l0.length : Int) 0) = some r := h
 clear h
 have H' := zab.mk H
 clear H
 go_enter Try.func30, Try.ntmps30
 go_wp2
 go_loopg [7] k (fun kq v7 w' => ∃ (x7_1 : Int), v7 = .int .i64 x7_1 ∧ zab (vinculumlaw13_near.l0 kq l0 (l0.length : Int) x7_1 = some r) ∧ zab (kq ≤ k) ∧ zar w w')
 case atStart => exact ⟨(0), (by first | rfl | (simp; done) | (simp [*]; done)), H', ⟨Nat.le_refl _⟩, by repeat (first | exact zar.refl _ | apply zar.step)⟩
 case round =>
  clear H'
  obtain ⟨x7_1, rfl, HA, HK1, ⟨m1, rfl⟩⟩ := hrel
  cases gk with
  | zero => exact absurd HA.o (by simp [vinculumlaw13_near.l0])
  | succ k1 =>
   have H := HA.o
   clear HA
   simp only [vinculumlaw13_near.l0] at H
   by_cases c2 : x7_1 < (l0.length : Int)
   ·rw [if_pos c2] at H
    have c2b0 : decide (x7_1 < (l0.length : Int)) = true := decide_eq_true c2
    clear c2
    by_cases c3 : 0 ≤ x7_1
    ·rw [if_pos c3] at H
     have c3b0 : decide (0 ≤ x7_1) = true := decide_eq_true c3
     clear c3
     by_cases c4 : x7_1 < (l0.length : Int)
     ·rw [if_pos c4] at H
      have c4b0 : decide (x7_1 < (l0.length : Int)) = true := decide_eq_true c4
      clear c4
      by_cases c5 : (rd l0 x7_1) > 1099511627776
      ·rw [if_pos c5] at H
       have c5b0 : decide (1099511627776 < (rd l0 x7_1)) = true := decide_eq_true c5
       clear c5
       obtain rfl := Option.some.inj H
       have p248 : 0 ≤ (x7_1 : Int) := of_decide_eq_true (by first | (with_reducible assumption) | assumption)
       have q248 : x7_1 < (l0.length : Int) := of_decide_eq_true (by first | (with_reducible assumption) | assumption)
       obtain ⟨ad248, e248, hx248_0⟩ := Kd.at_int HR0.o x7_1 p248 q248
       cases e248
       replace p248 := eq_true p248
       replace q248 := eq_true q248
       go_wp2
       go_ret
       exact ⟨by first | rfl | (simp; done) | (simp [*]; done), by repeat (first | exact zar.refl _ | apply zar.step)⟩
      ·rw [if_neg c5] at H
       have c5b0 : decide (1099511627776 < (rd l0 x7_1)) = false := decide_eq_false c5
       clear c5
       by_cases c6 : (rd l0 x7_1) < (-1099511627776)
       ·rw [if_pos c6] at H
        have c6b0 : decide ((rd l0 x7_1) < (-1099511627776)) = true := decide_eq_true c6
        clear c6
        obtain rfl := Option.some.inj H
        have p248 : 0 ≤ (x7_1 : Int) := of_decide_eq_true (by first | (with_reducible assumption) | assumption)
        have q248 : x7_1 < (l0.length : Int) := of_decide_eq_true (by first | (with_reducible assumption) | assumption)
        obtain ⟨ad248, e248, hx248_0⟩ := Kd.at_int HR0.o x7_1 p248 q248
        cases e248
        replace p248 := eq_true p248
        replace q248 := eq_true q248
        go_wp2
        go_ret
        exact ⟨by first | rfl | (simp; done) | (simp [*]; done), by repeat (first | exact zar.refl _ | apply zar.step)⟩
       ·rw [if_neg c6] at H
        have c6b0 : decide ((rd l0 x7_1) < (-1099511627776)) = false := decide_eq_false c6
        clear c6
        have H' := zab.mk H
        clear H
        have p248 : 0 ≤ (x7_1 : Int) := of_decide_eq_true (by first | (with_reducible assumption) | assumption)
        have q248 : x7_1 < (l0.length : Int) := of_decide_eq_true (by first | (with_reducible assumption) | assumption)
        obtain ⟨ad248, e248, hx248_0⟩ := Kd.at_int HR0.o x7_1 p248 q248
        cases e248
        replace p248 := eq_true p248
        replace q248 := eq_true q248
        go_wp2
        go_roundg k1
        case measure => have := HK1.o; omega
        case rel => exact ⟨(wrap64 (x7_1 + 1)), (by first | rfl | (simp; done) | (simp [*]; done)), H', ⟨by have := HK1.o; omega⟩, by repeat (first | exact zar.refl _ | apply zar.step)⟩
     ·rw [if_neg c4] at H
      exact absurd H (by simp)
    ·rw [if_neg c3] at H
     exact absurd H (by simp)
   ·rw [if_neg c2] at H
    have c2b0 : decide (x7_1 < (l0.length : Int)) = false := decide_eq_false c2
    clear c2
    obtain rfl := Option.some.inj H
    go_wp2
    go_ret
    exact ⟨by first | rfl | (simp; done) | (simp [*]; done), by repeat (first | exact zar.refl _ | apply zar.step)⟩

end Go.Proofs.Ytikgflpobacndaa.P
