--m
/- Written by wip/tool/hprint.py (the kit's print.py with hand-proved contracts set in): contracts of the functions that the statements of this seat reach, without conditions beyond those named in each theorem. -/
import Derived.Test.YtoieknocpphjoaaDoorP0
namespace Go.Proofs.YtoieknocpphjoaaDoor.P
open Go.RowKit Go.Proofs.YtoieknocpphjoaaDoorW.PrintWords Go.Proofs.YtoieknocpphjoaaDoorW.PrintLast Go.Proofs.YtoieknocpphjoaaDoorW.PrintMore
attribute [local go_sem] zay zaz zaA zaB zaC zaD zaE zaF   -- for this text's walks alone
set_option linter.unusedVariables false
set_option linter.unusedSimpArgs false

/-! ### vinculumref02_divided: function 65 -/
def vinculumref02_divided.l0 : Nat → List Int → Int → List Int → Int → Int → Option (List Int)
 | 0, _, _, _, _, _ => none
 | k + 1, x0, x1, x5, x6, x7 => if x7 < (x0.length : Int) then (if 0 ≤ x7 then (if x1 = 0 then (none) else (if x5.length < 140737488355328 then (vinculumref02_divided.l0 k x0 x1 (x5 ++ [(wrap64 (48 + (wrap64 (Int.tdiv (wrap64 ((wrap64 (10 * x6)) + (((rd x0 x7) - 48) % 256))) x1)))) % 256]) (Int.tmod (wrap64 ((wrap64 (10 * x6)) + (((rd x0 x7) - 48) % 256))) x1) (wrap64 (x7 + 1))) else (none))) else (none)) else (some x5)
def vinculumref02_divided.f (k : Nat) (l0 : List Int) (a1 : Int) : Option (List Int) := vinculumref02_divided.l0 k l0 a1 ([] : List Int) 0 0
theorem vinculumref02_divided.mono_l : ∀ k, (∀ y0 y1 y2 y3 y4, LeO (vinculumref02_divided.l0 k y0 y1 y2 y3 y4) (vinculumref02_divided.l0 (k + 1) y0 y1 y2 y3 y4))
 | 0 => fun _ _ _ _ _ r h => by simp [vinculumref02_divided.l0] at h
 | k + 1 => by
  have ih0 := vinculumref02_divided.mono_l k
  ·intro y0 y1 y2 y3 y4
   unfold vinculumref02_divided.l0
   repeat' first
   | (with_reducible exact ih0 _ _ _ _ _)
   | (with_reducible exact LeO.refl _)
   | (with_reducible exact LeO.none _)
   | (with_reducible refine LeO.ite ?_ ?_)
   | (with_reducible refine LeO.bind ?_ (fun _ => ?_))
   | exact ih0 _ _ _ _ _
   | exact LeO.none _
   | refine LeO.ite ?_ ?_
   | refine LeO.bind ?_ (fun _ => ?_)
theorem vinculumref02_divided.mono : ∀ a0 a1 k, LeO (vinculumref02_divided.f k a0 a1) (vinculumref02_divided.f (k + 1) a0 a1) := by
 intro a0 a1 k
 have ih0 := vinculumref02_divided.mono_l k
 unfold vinculumref02_divided.f
 repeat' first
   | (with_reducible exact ih0 _ _ _ _ _)
   | (with_reducible exact LeO.refl _)
   | (with_reducible exact LeO.none _)
   | (with_reducible refine LeO.ite ?_ ?_)
   | (with_reducible refine LeO.bind ?_ (fun _ => ?_))
   | exact ih0 _ _ _ _ _
   | exact LeO.none _
   | refine LeO.ite ?_ ?_
   | refine LeO.bind ?_ (fun _ => ?_)
set_option maxHeartbeats 8000000 in
set_option maxRecDepth 100000 in
theorem vinculumref02_divided.calls (k : Nat) (A0 : Option Addr) (c0 : Nat) (l0 : List Int) (a1 : Int) (r : List Int) (w : World) (hr0 : Kd.C (Kd.int .u8) w A0 l0.length l0) (hc0 : l0.length ≤ c0) (h : vinculumref02_divided.f k l0 a1 = some r) :
  Calls Tryd.prog 65 #[.slice A0 l0.length c0, .int .i64 a1] w fun e w' => ∃ v0_ : Value, e = .returned (v0_) ∧ Kd.R (Kd.int .u8) 5 w' w.heap.size (fun _ => True) v0_ r ∧ Below w.heap.size w w' := by
 have HR0 := zaa.mk hr0
 have HC0 := zaa.mk hc0
 clear hr0 hc0
 have HB := zaa.mk (Below.refl w.heap.size w)
 have H : (vinculumref02_divided.l0 k l0 a1 ([] : List Int) 0 0) = some r := h
 clear h
 have H' := zaa.mk H
 clear H
 go_enter Tryd.func65, Tryd.ntmps65
 go_wp2
 go_loopg [5, 6, 7] k (fun kq v5 v6 v7 w' => ∃ (x5_1 : List Int) (x6_1 : Int) (x7_1 : Int), v6 = .int .i64 x6_1 ∧ v7 = .int .i64 x7_1 ∧ zaa (vinculumref02_divided.l0 kq l0 a1 x5_1 x6_1 x7_1 = some r) ∧ zaa (kq ≤ k) ∧ zaa (Kd.R (Kd.int .u8) 5 w' w.heap.size (fun _ => True) v5 x5_1) ∧ zaa (Below w.heap.size w w'))
 case atStart => exact ⟨(([] : List Int)), (0), (0), (by first | rfl | (simp; done) | (simp [*]; done)), (by first | rfl | (simp; done) | (simp [*]; done)), H', ⟨Nat.le_refl _⟩, ⟨by first | exact Kd.R_nil _ _ _ _ _ | exact Kd.N_nil _ _ _ _ _ | exact Kd.V_nil _ _ _ _ _ | exact Kd.Q_nil _ _ _ _ _ | exact Kd.S_nil _ _ _ _ _⟩, ⟨by repeat (first | (with_reducible first | exact HB.o | apply zaf | apply zah | apply zag) | exact HB.o)⟩⟩
 case round =>
  clear H'
  try clear p2
  obtain ⟨x5_1, x6_1, x7_1, rfl, rfl, HA, HK1, HO_5, HB⟩ := hrel
  cases gk with
  | zero => exact absurd HA.o (by simp [vinculumref02_divided.l0])
  | succ k1 =>
   have H := HA.o
   clear HA
   simp only [vinculumref02_divided.l0] at H
   by_cases c3 : x7_1 < (l0.length : Int)
   ·rw [if_pos c3] at H
    have c3b0 : decide (x7_1 < (l0.length : Int)) = true := decide_eq_true c3
    clear c3
    by_cases c4 : 0 ≤ x7_1
    ·rw [if_pos c4] at H
     have c4b0 : decide (0 ≤ x7_1) = true := decide_eq_true c4
     clear c4
     by_cases c5 : a1 = 0
     ·rw [if_pos c5] at H
      exact absurd H (by simp)
     ·rw [if_neg c5] at H
      have c5b0 : (a1 == 0) = false := beq_eq_false_iff_ne.mpr c5
      have c5b1 : (a1 != 0) = true := bne_iff_ne.mpr c5
      by_cases c6 : x5_1.length < 140737488355328
      ·rw [if_pos c6] at H
       have LMc6 := zaa.mk c6
       clear c6
       obtain ⟨y490, hy490⟩ : ∃ y_ : List Int, y_ = (x5_1 ++ [(wrap64 (48 + (wrap64 (Int.tdiv (wrap64 ((wrap64 (10 * x6_1)) + (((rd l0 x7_1) - 48) % 256))) a1)))) % 256]) := ⟨_, rfl⟩
       replace H : (vinculumref02_divided.l0 k1 l0 a1 y490 (Int.tmod (wrap64 ((wrap64 (10 * x6_1)) + (((rd l0 x7_1) - 48) % 256))) a1) (wrap64 (x7_1 + 1))) = some r := by first | (rw [hy490]; with_reducible exact H) | (have H2_ := (Option.bind_some _ _).symm.trans H; rw [hy490]; with_reducible exact H2_) | (have H2_ := (Option.bind_some _ _).symm.trans H; with_reducible exact H2_) | with_reducible exact H | (rw [hy490]; exact H) | exact H
       have Ny490 := zaa.mk hy490
       clear hy490
       have H' := zaa.mk H
       clear H
       have p489 : 0 ≤ (x7_1 : Int) := of_decide_eq_true (by first | (with_reducible assumption) | assumption)
       have q489 : x7_1 < (l0.length : Int) := of_decide_eq_true (by first | (with_reducible assumption) | assumption)
       obtain ⟨ad489, e489, hx489_0⟩ := Kd.at_int HR0.o x7_1 p489 q489
       cases e489
       replace hx489_0 := (HB.o.cell (World.block_lt_of_cell? w _ hx489_0)).trans hx489_0
       replace p489 := eq_true p489
       replace q489 := eq_true q489
       go_wp2_with (first | ((with_reducible refine gate_builtin (b := .append) (xs := #[.tmp 23, .tmp 29]) rfl ?_); at_builtin; refine Kd.R_append (Kd.int .u8) (w0 := w) w.heap.size rfl (.tmp 23) (.tmp 29) 76 5 (.int .u8 0) 1 rfl Tryd.underlying76 info5 rfl (by decide) (by omega) u5 x5_1 ((wrap64 (48 + (wrap64 (Int.tdiv (wrap64 ((wrap64 (10 * x6_1)) + (((rd l0 x7_1) - 48) % 256))) a1)))) % 256) [.int .u8 ((wrap64 (48 + (wrap64 (Int.tdiv (wrap64 ((wrap64 (10 * x6_1)) + (((rd l0 x7_1) - 48) % 256))) a1)))) % 256)] (fun _ => True) (fun _ => False) rfl rfl ?aP (fun _ hk => hk.elim) ?aF ?aO ?aB ?aS ?aL ?_; (case aP => exact rfl); (case aB => exact (by repeat (first | (with_reducible first | exact HB.o | apply zaf | apply zah | apply zag) | exact HB.o))); (case aF => exact (fun _ _ => trivial)); (case aO => exact (by (with_reducible repeat (first | apply Kd.R_alloc | apply Kd.R_drewN | apply Kd.R_drew)); exact HO_5.o)); (case aS => exact (zan (by repeat (first | (with_reducible first | exact HB.o | apply zaf | apply zah | apply zag) | exact HB.o)))); (case aL => have := LMc6.out; omega); intro v491 w7 ho hb hg hat; rw [← Ny490.out] at ho; have n0_ := zaa.mk (hb); have n1_ := zaa.mk (ho); clear HB; clear HO_5; have HB := n0_; have HO492 := n1_; clear n0_ n1_; clear ho hb hg hat))
       go_roundg k1
       case measure => have := HK1.o; omega
       case rel => exact ⟨(y490), (Int.tmod (wrap64 ((wrap64 (10 * x6_1)) + (((rd l0 x7_1) - 48) % 256))) a1), (wrap64 (x7_1 + 1)), (by first | rfl | (simp; done) | (simp [*]; done)), (by first | rfl | (simp; done) | (simp [*]; done)), H', ⟨by have := HK1.o; omega⟩, ⟨by (with_reducible repeat (first | apply Kd.R_alloc | apply Kd.R_drewN | apply Kd.R_drew)); exact HO492.o⟩, ⟨by repeat (first | (with_reducible first | exact HB.o | apply zaf | apply zah | apply zag) | exact HB.o)⟩⟩
      ·rw [if_neg c6] at H
       exact absurd H (by simp)
    ·rw [if_neg c4] at H
     exact absurd H (by simp)
   ·rw [if_neg c3] at H
    have c3b0 : decide (x7_1 < (l0.length : Int)) = false := decide_eq_false c3
    clear c3
    obtain rfl := Option.some.inj H
    go_wp2
    go_ret
    exact ⟨_, by first | rfl | (simp [errW_none, errW_some] <;> rfl) | (simp [*, errW_none, errW_some] <;> rfl), by (with_reducible repeat (first | apply Kd.R_alloc | apply Kd.R_drewN | apply Kd.R_drew)); exact HO_5.o, by repeat (first | (with_reducible first | exact HB.o | apply zaf | apply zah | apply zag) | exact HB.o)⟩

end Go.Proofs.YtoieknocpphjoaaDoor.P
