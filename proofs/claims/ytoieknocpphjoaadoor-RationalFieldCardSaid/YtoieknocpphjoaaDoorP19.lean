--m
/- Written by wip/tool/hprint.py (the kit's print.py with hand-proved contracts set in): contracts of the functions that the statements of this seat reach, without conditions beyond those named in each theorem. -/
import Derived.Test.YtoieknocpphjoaaDoorP0
import Derived.Test.YtoieknocpphjoaaDoorP5
import Derived.Lib.Hide
namespace Go.Proofs.YtoieknocpphjoaaDoor.P
open Go.RowKit Go.Proofs.YtoieknocpphjoaaDoorW.PrintWords Go.Proofs.YtoieknocpphjoaaDoorW.PrintLast Go.Proofs.YtoieknocpphjoaaDoorW.PrintMore
attribute [local go_sem] zax zay zaz zaA zaB zaC zaD zaE   -- for this text's walks alone
set_option linter.unusedVariables false
set_option linter.unusedSimpArgs false

-- IMPORTS: Derived.Lib.Hide

def vinculumlaw02_numbers.f (k : Nat) (a0_0 a0_1 a0_2 a0_3 a0_4 a0_5 : Int) : Option (Int × Int × Int × Int × Int × Int) := (rational_Make.f k (wrap64 a0_0) (if wrap64 a0_1 = 0 then 1 else wrap64 a0_1)).bind fun x => (rational_Make.f k (wrap64 a0_2) (if wrap64 a0_3 = 0 then 1 else wrap64 a0_3)).bind fun y => (rational_Make.f k (wrap64 a0_4) (if wrap64 a0_5 = 0 then 1 else wrap64 a0_5)).bind fun z => some (x.1, x.2.1, y.1, y.2.1, z.1, z.2.1)
theorem vinculumlaw02_numbers.mono : ∀ a0 a1 a2 a3 a4 a5 k, LeO (vinculumlaw02_numbers.f k a0 a1 a2 a3 a4 a5) (vinculumlaw02_numbers.f (k + 1) a0 a1 a2 a3 a4 a5) := by
 intro a0 a1 a2 a3 a4 a5 k
 unfold vinculumlaw02_numbers.f
 repeat' first
   | (with_reducible exact rational_Make.mono _ _ _)
   | (with_reducible exact LeO.refl _)
   | (with_reducible exact LeO.none _)
   | (with_reducible refine LeO.ite ?_ ?_)
   | (with_reducible refine LeO.bind ?_ (fun _ => ?_))
def outC (j : Nat) (r1 r2 r3 r4 r5 r6 : Int) : Array Value := #[.int .i64 (if 0 < j then r1 else 0), .int .i64 (if 0 < j then r2 else 0), .int .i64 (if 1 < j then r3 else 0), .int .i64 (if 1 < j then r4 else 0), .int .i64 (if 2 < j then r5 else 0), .int .i64 (if 2 < j then r6 else 0)]
set_option maxRecDepth 100000 in
set_option maxHeartbeats 4000000 in
theorem vinculumlaw02_numbers.calls (k : Nat) (a0_0 a0_1 a0_2 a0_3 a0_4 a0_5 : Int) (r1 r2 r3 r4 r5 r6 : Int) (w : World) (h : vinculumlaw02_numbers.f k a0_0 a0_1 a0_2 a0_3 a0_4 a0_5 = some (r1, r2, r3, r4, r5, r6)) :
  Calls Tryd.prog 20 #[.agg #[.int .i16 a0_0, .int .i16 a0_1, .int .i16 a0_2, .int .i16 a0_3, .int .i16 a0_4, .int .i16 a0_5]] w fun e w' => e = .returned (.agg #[.int .i64 r1, .int .i64 r2, .int .i64 r3, .int .i64 r4, .int .i64 r5, .int .i64 r6]) ∧ Below w.heap.size w w' := by
 have hu := Tryd.underlying24
 unfold vinculumlaw02_numbers.f at h
 obtain ⟨⟨x1, x2, x3⟩, hx, h⟩ := Option.bind_eq_some_iff.1 h
 obtain ⟨⟨y1, y2, y3⟩, hy, h⟩ := Option.bind_eq_some_iff.1 h
 obtain ⟨⟨z1, z2, z3⟩, hz, h⟩ := Option.bind_eq_some_iff.1 h
 simp only [Option.some.injEq, Prod.mk.injEq] at h
 obtain ⟨rfl, rfl, rfl, rfl, rfl, rfl⟩ := h
 have HX := Lib.hid hx
 have HY := Lib.hid hy
 have HZ := Lib.hid hz
 clear hx hy hz
 go_enter Tryd.func20, Tryd.ntmps20
 go_wp2
 go_loopw [4, 5] (fun i _ W => ∃ j : Nat, j ≤ 3 ∧ i = .int .i64 j ∧ zaa (Below w.heap.size w W) ∧ zaa (W.heap[w.heap.size]? = some (.cells #[.int .i16 a0_0, .int .i16 a0_1, .int .i16 a0_2, .int .i16 a0_3, .int .i16 a0_4, .int .i16 a0_5] 40 (0, 0))) ∧ zaa (W.heap[w.heap.size + 1]? = some (.cells #[.int .i64 0, .int .i64 0, .int .i64 0, .int .i64 0, .int .i64 0, .int .i64 0] 41 (0, 0))) ∧ zaa (W.heap[w.heap.size + 1 + 1]? = some (.cells (outC j x1 x2 y1 y2 z1 z2) 41 (0, 0)))) (fun i _ _ => 3 - (intOf i).toNat)
 case atStart =>
  refine ⟨0, by omega, rfl, ⟨?_⟩, ⟨?_⟩, ⟨?_⟩, ⟨?_⟩⟩
  ·exact zaf (zaf (zaf (Below.refl _ _) _) _) _
  ·exact zac (zac (blk_new _ _) _) _
  ·exact zac (by simpa using blk_new (w.alloc _) _) _
  ·simpa [outC] using blk_new ((w.alloc _).alloc _) _
 case round =>
  obtain ⟨j, hj, rfl, HB, B0, B1, B2⟩ := hrel
  have c0 := zai B0.out
  obtain rfl | rfl | rfl | rfl : j = 0 ∨ j = 1 ∨ j = 2 ∨ j = 3 := by omega
  ·have a_0 := c0 0
   have a_1 := c0 1
   simp at a_0 a_1
   clear c0
   by_cases hd : wrap64 a0_1 = 0
   ·have hd' : (wrap64 a0_1 == 0) = true := by simpa using hd
    have HM := Lib.hid HX.out
    rw [if_pos hd] at HM
    go_wp2_with (go_at_call 13; refine (rational_Make.calls k (wrap64 a0_0) 1 x1 x2 x3 _ HM.out).mono ?_; rintro e w5 ⟨rfl, hb⟩; have B2_ := zaa.mk (zaj B2.out hb); have q0 := zai B2_.out 0; have q1 := zai B2_.out 1; have g0 := zak B2_.out 0; have g1 := zak B2_.out 1; simp [outC] at q0 q1; have HB5 := zaa.mk hb; clear hb)
    refine ⟨⟨1, by omega, by first | rfl | simp, ⟨?_⟩, ⟨?_⟩, ⟨?_⟩, ⟨?_⟩⟩, by simp [intOf]⟩
    ·exact zae (zae (below_then HB.o HB.o.size HB5.out) (by omega)) (by omega)
    ·exact zam (zam (zaj B0.out HB5.out) (by simp; omega) _) (by simp; omega) _
    ·exact zam (zam (zaj B1.out HB5.out) (by simp) _) (by simp) _
    ·exact zap (zap B2_.out 0 _ rfl) 1 _ (by simp [outC])
   ·have hd' : (wrap64 a0_1 == 0) = false := by simpa using hd
    have HM := Lib.hid HX.out
    rw [if_neg hd] at HM
    go_wp2_with (go_at_call 13; refine (rational_Make.calls k (wrap64 a0_0) (wrap64 a0_1) x1 x2 x3 _ HM.out).mono ?_; rintro e w5 ⟨rfl, hb⟩; have B2_ := zaa.mk (zaj B2.out hb); have q0 := zai B2_.out 0; have q1 := zai B2_.out 1; have g0 := zak B2_.out 0; have g1 := zak B2_.out 1; simp [outC] at q0 q1; have HB5 := zaa.mk hb; clear hb)
    refine ⟨⟨1, by omega, by first | rfl | simp, ⟨?_⟩, ⟨?_⟩, ⟨?_⟩, ⟨?_⟩⟩, by simp [intOf]⟩
    ·exact zae (zae (below_then HB.o HB.o.size HB5.out) (by omega)) (by omega)
    ·exact zam (zam (zaj B0.out HB5.out) (by simp; omega) _) (by simp; omega) _
    ·exact zam (zam (zaj B1.out HB5.out) (by simp) _) (by simp) _
    ·exact zap (zap B2_.out 0 _ rfl) 1 _ (by simp [outC])
  ·have a_0 := c0 2
   have a_1 := c0 3
   simp at a_0 a_1
   clear c0
   by_cases hd : wrap64 a0_3 = 0
   ·have hd' : (wrap64 a0_3 == 0) = true := by simpa using hd
    have HM := Lib.hid HY.out
    rw [if_pos hd] at HM
    go_wp2_with (go_at_call 13; refine (rational_Make.calls k (wrap64 a0_2) 1 y1 y2 y3 _ HM.out).mono ?_; rintro e w5 ⟨rfl, hb⟩; have B2_ := zaa.mk (zaj B2.out hb); have q0 := zai B2_.out 2; have q1 := zai B2_.out 3; have g0 := zak B2_.out 2; have g1 := zak B2_.out 3; simp [outC] at q0 q1; have HB5 := zaa.mk hb; clear hb)
    refine ⟨⟨2, by omega, by first | rfl | simp, ⟨?_⟩, ⟨?_⟩, ⟨?_⟩, ⟨?_⟩⟩, by simp [intOf]⟩
    ·exact zae (zae (below_then HB.o HB.o.size HB5.out) (by omega)) (by omega)
    ·exact zam (zam (zaj B0.out HB5.out) (by simp; omega) _) (by simp; omega) _
    ·exact zam (zam (zaj B1.out HB5.out) (by simp) _) (by simp) _
    ·exact zap (zap B2_.out 2 _ rfl) 3 _ (by simp [outC])
   ·have hd' : (wrap64 a0_3 == 0) = false := by simpa using hd
    have HM := Lib.hid HY.out
    rw [if_neg hd] at HM
    go_wp2_with (go_at_call 13; refine (rational_Make.calls k (wrap64 a0_2) (wrap64 a0_3) y1 y2 y3 _ HM.out).mono ?_; rintro e w5 ⟨rfl, hb⟩; have B2_ := zaa.mk (zaj B2.out hb); have q0 := zai B2_.out 2; have q1 := zai B2_.out 3; have g0 := zak B2_.out 2; have g1 := zak B2_.out 3; simp [outC] at q0 q1; have HB5 := zaa.mk hb; clear hb)
    refine ⟨⟨2, by omega, by first | rfl | simp, ⟨?_⟩, ⟨?_⟩, ⟨?_⟩, ⟨?_⟩⟩, by simp [intOf]⟩
    ·exact zae (zae (below_then HB.o HB.o.size HB5.out) (by omega)) (by omega)
    ·exact zam (zam (zaj B0.out HB5.out) (by simp; omega) _) (by simp; omega) _
    ·exact zam (zam (zaj B1.out HB5.out) (by simp) _) (by simp) _
    ·exact zap (zap B2_.out 2 _ rfl) 3 _ (by simp [outC])
  ·have a_0 := c0 4
   have a_1 := c0 5
   simp at a_0 a_1
   clear c0
   by_cases hd : wrap64 a0_5 = 0
   ·have hd' : (wrap64 a0_5 == 0) = true := by simpa using hd
    have HM := Lib.hid HZ.out
    rw [if_pos hd] at HM
    go_wp2_with (go_at_call 13; refine (rational_Make.calls k (wrap64 a0_4) 1 z1 z2 z3 _ HM.out).mono ?_; rintro e w5 ⟨rfl, hb⟩; have B2_ := zaa.mk (zaj B2.out hb); have q0 := zai B2_.out 4; have q1 := zai B2_.out 5; have g0 := zak B2_.out 4; have g1 := zak B2_.out 5; simp [outC] at q0 q1; have HB5 := zaa.mk hb; clear hb)
    refine ⟨⟨3, by omega, by first | rfl | simp, ⟨?_⟩, ⟨?_⟩, ⟨?_⟩, ⟨?_⟩⟩, by simp [intOf]⟩
    ·exact zae (zae (below_then HB.o HB.o.size HB5.out) (by omega)) (by omega)
    ·exact zam (zam (zaj B0.out HB5.out) (by simp; omega) _) (by simp; omega) _
    ·exact zam (zam (zaj B1.out HB5.out) (by simp) _) (by simp) _
    ·exact zap (zap B2_.out 4 _ rfl) 5 _ (by simp [outC])
   ·have hd' : (wrap64 a0_5 == 0) = false := by simpa using hd
    have HM := Lib.hid HZ.out
    rw [if_neg hd] at HM
    go_wp2_with (go_at_call 13; refine (rational_Make.calls k (wrap64 a0_4) (wrap64 a0_5) z1 z2 z3 _ HM.out).mono ?_; rintro e w5 ⟨rfl, hb⟩; have B2_ := zaa.mk (zaj B2.out hb); have q0 := zai B2_.out 4; have q1 := zai B2_.out 5; have g0 := zak B2_.out 4; have g1 := zak B2_.out 5; simp [outC] at q0 q1; have HB5 := zaa.mk hb; clear hb)
    refine ⟨⟨3, by omega, by first | rfl | simp, ⟨?_⟩, ⟨?_⟩, ⟨?_⟩, ⟨?_⟩⟩, by simp [intOf]⟩
    ·exact zae (zae (below_then HB.o HB.o.size HB5.out) (by omega)) (by omega)
    ·exact zam (zam (zaj B0.out HB5.out) (by simp; omega) _) (by simp; omega) _
    ·exact zam (zam (zaj B1.out HB5.out) (by simp) _) (by simp) _
    ·exact zap (zap B2_.out 4 _ rfl) 5 _ (by simp [outC])
  ·have B2' : wr.heap[w.heap.size + 1 + 1]? = some (.cells #[.int .i64 x1, .int .i64 x2, .int .i64 y1, .int .i64 y2, .int .i64 z1, .int .i64 z2] 41 (0, 0)) := by simpa [outC] using B2.out
   obtain ⟨q0, q1, q2, q3, q4, q5⟩ : wr.cell? ⟨w.heap.size + 1 + 1, 0, none⟩ = some (.int .i64 x1) ∧ wr.cell? ⟨w.heap.size + 1 + 1, 1, none⟩ = some (.int .i64 x2) ∧ wr.cell? ⟨w.heap.size + 1 + 1, 2, none⟩ = some (.int .i64 y1) ∧ wr.cell? ⟨w.heap.size + 1 + 1, 3, none⟩ = some (.int .i64 y2) ∧ wr.cell? ⟨w.heap.size + 1 + 1, 4, none⟩ = some (.int .i64 z1) ∧ wr.cell? ⟨w.heap.size + 1 + 1, 5, none⟩ = some (.int .i64 z2) := ⟨(zai B2' 0).trans rfl, (zai B2' 1).trans rfl, (zai B2' 2).trans rfl, (zai B2' 3).trans rfl, (zai B2' 4).trans rfl, (zai B2' 5).trans rfl⟩
   obtain ⟨p0, p1, p2, p3, p4, p5⟩ : wr.cell? ⟨w.heap.size + 1, 0, none⟩ = some (.int .i64 0) ∧ wr.cell? ⟨w.heap.size + 1, 1, none⟩ = some (.int .i64 0) ∧ wr.cell? ⟨w.heap.size + 1, 2, none⟩ = some (.int .i64 0) ∧ wr.cell? ⟨w.heap.size + 1, 3, none⟩ = some (.int .i64 0) ∧ wr.cell? ⟨w.heap.size + 1, 4, none⟩ = some (.int .i64 0) ∧ wr.cell? ⟨w.heap.size + 1, 5, none⟩ = some (.int .i64 0) := ⟨(zai B1.out 0).trans rfl, (zai B1.out 1).trans rfl, (zai B1.out 2).trans rfl, (zai B1.out 3).trans rfl, (zai B1.out 4).trans rfl, (zai B1.out 5).trans rfl⟩
   have g0 := zak B1.out 0
   have g1 := zak B1.out 1
   have g2 := zak B1.out 2
   have g3 := zak B1.out 3
   have g4 := zak B1.out 4
   have g5 := zak B1.out 5
   clear c0 B2'
   go_wp2
   have BB := (zap (cs' := #[.int .i64 x1, .int .i64 x2, .int .i64 y1, .int .i64 y2, .int .i64 z1, .int .i64 z2]) (zap (cs' := #[.int .i64 x1, .int .i64 x2, .int .i64 y1, .int .i64 y2, .int .i64 z1, .int .i64 0]) (zap (cs' := #[.int .i64 x1, .int .i64 x2, .int .i64 y1, .int .i64 y2, .int .i64 0, .int .i64 0]) (zap (cs' := #[.int .i64 x1, .int .i64 x2, .int .i64 y1, .int .i64 0, .int .i64 0, .int .i64 0]) (zap (cs' := #[.int .i64 x1, .int .i64 x2, .int .i64 0, .int .i64 0, .int .i64 0, .int .i64 0]) (zap (cs' := #[.int .i64 x1, .int .i64 0, .int .i64 0, .int .i64 0, .int .i64 0, .int .i64 0]) B1.out 0 (.int .i64 x1) rfl) 1 (.int .i64 x2) rfl) 2 (.int .i64 y1) rfl) 3 (.int .i64 y2) rfl) 4 (.int .i64 z1) rfl) 5 (.int .i64 z2) rfl)
   refine bodyPost_ret (v := .agg #[.int .i64 x1, .int .i64 x2, .int .i64 y1, .int .i64 y2, .int .i64 z1, .int .i64 z2]) (by
    have hl_ := run_loadVar_row (P := Tryd.prog) _ (w.heap.size + 1) 41 41 _ (0, 0) _ BB Tryd.underlying41 rfl (by kernel_rfl)
    simp [results, Tryd.f20, asAddr, hl_]) rfl ?_
   exact ⟨rfl, (zae (zae (zae (zae (zae (zae HB.o (by omega)) (by omega)) (by omega)) (by omega)) (by omega)) (by omega))⟩

end Go.Proofs.YtoieknocpphjoaaDoor.P
