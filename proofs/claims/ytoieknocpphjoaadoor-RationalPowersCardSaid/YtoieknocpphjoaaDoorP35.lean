--m
/- Written by wip/tool/hprint.py (the kit's print.py with hand-proved contracts set in): contracts of the functions that the statements of this seat reach, without conditions beyond those named in each theorem. -/
import Derived.Test.YtoieknocpphjoaaDoorP0
namespace Go.Proofs.YtoieknocpphjoaaDoor.P
open Go.RowKit Go.Proofs.YtoieknocpphjoaaDoorW.PrintWords Go.Proofs.YtoieknocpphjoaaDoorW.PrintLast Go.Proofs.YtoieknocpphjoaaDoorW.PrintMore
attribute [local go_sem] zax zay zaz zaA zaB zaC zaD zaE   -- for this text's walks alone
set_option linter.unusedVariables false
set_option linter.unusedSimpArgs false

/-! ### rational_root: function 48 -/
def rational_root.l0 : Nat → Int → Int → Int → Option (Int × Bool)
 | 0, _, _, _ => none
 | k + 1, x0, x4, x5 => if x4 < x5 then (if (wrap64 ((wrap64 (Int.tdiv (wrap64 (x4 + x5)) 2)) * (wrap64 (Int.tdiv (wrap64 (x4 + x5)) 2)))) < x0 then (rational_root.l0 k x0 (wrap64 ((wrap64 (Int.tdiv (wrap64 (x4 + x5)) 2)) + 1)) x5) else (rational_root.l0 k x0 x4 (wrap64 (Int.tdiv (wrap64 (x4 + x5)) 2)))) else (some (x4, ((wrap64 (x4 * x4)) == x0)))
def rational_root.f (k : Nat) (a0 : Int) : Option (Int × Bool) := rational_root.l0 k a0 0 65536
theorem rational_root.mono_l : ∀ k, (∀ y0 y1 y2, LeO (rational_root.l0 k y0 y1 y2) (rational_root.l0 (k + 1) y0 y1 y2))
 | 0 => fun _ _ _ r h => by simp [rational_root.l0] at h
 | k + 1 => by
  have ih0 := rational_root.mono_l k
  ·intro y0 y1 y2
   unfold rational_root.l0
   repeat' first
   | (with_reducible exact ih0 _ _ _)
   | (with_reducible exact LeO.refl _)
   | (with_reducible exact LeO.none _)
   | (with_reducible refine LeO.ite ?_ ?_)
   | (with_reducible refine LeO.bind ?_ (fun _ => ?_))
   | exact ih0 _ _ _
   | exact LeO.none _
   | refine LeO.ite ?_ ?_
   | refine LeO.bind ?_ (fun _ => ?_)
theorem rational_root.mono : ∀ a0 k, LeO (rational_root.f k a0) (rational_root.f (k + 1) a0) := by
 intro a0 k
 have ih0 := rational_root.mono_l k
 unfold rational_root.f
 repeat' first
   | (with_reducible exact ih0 _ _ _)
   | (with_reducible exact LeO.refl _)
   | (with_reducible exact LeO.none _)
   | (with_reducible refine LeO.ite ?_ ?_)
   | (with_reducible refine LeO.bind ?_ (fun _ => ?_))
   | exact ih0 _ _ _
   | exact LeO.none _
   | refine LeO.ite ?_ ?_
   | refine LeO.bind ?_ (fun _ => ?_)
set_option maxHeartbeats 8000000 in
set_option maxRecDepth 100000 in
theorem rational_root.calls_q (k : Nat) (a0 : Int) (r1 : Int) (r2 : Bool) (w : World) (h : rational_root.f k a0 = some (r1, r2)) :
  Calls Tryd.prog 48 #[.int .i64 a0] w fun e w' => e = .returned (.tuple #[.int .i64 r1, .bool r2]) ∧ zav w w' := by
 have H : (rational_root.l0 k a0 0 65536) = some (r1, r2) := h
 clear h
 have H' := zaa.mk H
 clear H
 go_enter Tryd.func48, Tryd.ntmps48
 go_wp2
 go_loopg [4, 5] k (fun kq v4 v5 w' => ∃ (x4_1 : Int) (x5_1 : Int), v4 = .int .i64 x4_1 ∧ v5 = .int .i64 x5_1 ∧ zaa (rational_root.l0 kq a0 x4_1 x5_1 = some (r1, r2)) ∧ zaa (kq ≤ k) ∧ zav w w')
 case atStart => exact ⟨(0), (65536), (by first | rfl | (simp; done) | (simp [*]; done)), (by first | rfl | (simp; done) | (simp [*]; done)), H', ⟨Nat.le_refl _⟩, by repeat (first | exact zav.refl _ | apply zav.step)⟩
 case round =>
  clear H'
  obtain ⟨x4_1, x5_1, rfl, rfl, HA, HK1, ⟨m1, rfl⟩⟩ := hrel
  cases gk with
  | zero => exact absurd HA.o (by simp [rational_root.l0])
  | succ k1 =>
   have H := HA.o
   clear HA
   simp only [rational_root.l0] at H
   by_cases c2 : x4_1 < x5_1
   ·rw [if_pos c2] at H
    have c2b0 : decide (x4_1 < x5_1) = true := decide_eq_true c2
    clear c2
    by_cases c3 : (wrap64 ((wrap64 (Int.tdiv (wrap64 (x4_1 + x5_1)) 2)) * (wrap64 (Int.tdiv (wrap64 (x4_1 + x5_1)) 2)))) < a0
    ·rw [if_pos c3] at H
     have c3b0 : decide ((wrap64 ((wrap64 (Int.tdiv (wrap64 (x4_1 + x5_1)) 2)) * (wrap64 (Int.tdiv (wrap64 (x4_1 + x5_1)) 2)))) < a0) = true := decide_eq_true c3
     clear c3
     have H' := zaa.mk H
     clear H
     go_wp2
     go_roundg k1
     case measure => have := HK1.o; omega
     case rel => exact ⟨(wrap64 ((wrap64 (Int.tdiv (wrap64 (x4_1 + x5_1)) 2)) + 1)), (x5_1), (by first | rfl | (simp; done) | (simp [*]; done)), (by first | rfl | (simp; done) | (simp [*]; done)), H', ⟨by have := HK1.o; omega⟩, by repeat (first | exact zav.refl _ | apply zav.step)⟩
    ·rw [if_neg c3] at H
     have c3b0 : decide ((wrap64 ((wrap64 (Int.tdiv (wrap64 (x4_1 + x5_1)) 2)) * (wrap64 (Int.tdiv (wrap64 (x4_1 + x5_1)) 2)))) < a0) = false := decide_eq_false c3
     clear c3
     have H' := zaa.mk H
     clear H
     go_wp2
     go_roundg k1
     case measure => have := HK1.o; omega
     case rel => exact ⟨(x4_1), (wrap64 (Int.tdiv (wrap64 (x4_1 + x5_1)) 2)), (by first | rfl | (simp; done) | (simp [*]; done)), (by first | rfl | (simp; done) | (simp [*]; done)), H', ⟨by have := HK1.o; omega⟩, by repeat (first | exact zav.refl _ | apply zav.step)⟩
   ·rw [if_neg c2] at H
    have c2b0 : decide (x4_1 < x5_1) = false := decide_eq_false c2
    clear c2
    simp only [Option.some.injEq, Prod.mk.injEq] at H
    obtain ⟨rfl, rfl⟩ := H
    go_wp2
    go_ret2
    exact ⟨by first | rfl | (simp; done) | (simp [*]; done), by repeat (first | exact zav.refl _ | apply zav.step)⟩

theorem rational_root.calls (k : Nat) (a0 : Int) (r1 : Int) (r2 : Bool) (w : World) (h : rational_root.f k a0 = some (r1, r2)) :
  Calls Tryd.prog 48 #[.int .i64 a0] w fun e w' => e = .returned (.tuple #[.int .i64 r1, .bool r2]) ∧ Below w.heap.size w w' :=
 (rational_root.calls_q k a0 r1 r2 w h).mono fun e w' h_ => ⟨h_.1, h_.2.below⟩

end Go.Proofs.YtoieknocpphjoaaDoor.P
