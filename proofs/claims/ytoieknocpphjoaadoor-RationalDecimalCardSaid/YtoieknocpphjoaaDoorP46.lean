--m
/- Written by wip/tool/hprint.py (the kit's print.py with hand-proved contracts set in): contracts of the functions that the statements of this seat reach, without conditions beyond those named in each theorem. -/
import Derived.Test.YtoieknocpphjoaaDoorP0
namespace Go.Proofs.YtoieknocpphjoaaDoor.P
open Go.RowKit Go.Proofs.YtoieknocpphjoaaDoorW.PrintWords Go.Proofs.YtoieknocpphjoaaDoorW.PrintLast Go.Proofs.YtoieknocpphjoaaDoorW.PrintMore
attribute [local go_sem] zay zaz zaA zaB zaC zaD zaE zaF   -- for this text's walks alone
set_option linter.unusedVariables false
set_option linter.unusedSimpArgs false

/-! ### rational_split: function 52 -/
mutual
def rational_split.l0 : Nat → ByteArray → List Int → Int → Int → Int → Option (List Int × Int × Bool)
 | 0, _, _, _, _, _ => none
 | k + 1, x0, x2, x3, x5, x6 => if x6 < (x0.size : Int) then (if 0 ≤ x6 then (if (bt x0 x6) ≥ 48 then (rational_split.j1 k x0 x2 x3 x5 x6 (bt x0 x6) (decide ((bt x0 x6) ≤ 57))) else (rational_split.j1 k x0 x2 x3 x5 x6 (bt x0 x6) false)) else (none)) else (if (x2.length : Int) = 0 then (rational_split.j2 k x0 x2 x3 x5 true) else (if (x0.size : Int) > 40 then (rational_split.j2 k x0 x2 x3 x5 true) else (rational_split.j2 k x0 x2 x3 x5 (x5 == (wrap64 ((x0.size : Int) - 1))))))
def rational_split.j1 : Nat → ByteArray → List Int → Int → Int → Int → Int → Bool → Option (List Int × Int × Bool)
 | 0, _, _, _, _, _, _, _ => none
 | k + 1, x0, x2, x3, x5, x6, x7, x17 => if x17 = true then (if x2.length < 140737488355328 then (rational_split.l0 k x0 (x2 ++ [(x7 - 48) % 256]) x3 x5 (wrap64 (x6 + 1))) else (none)) else (if x7 = 46 then (if x5 < 0 then (if x6 > 0 then (rational_split.l0 k x0 x2 x3 x6 (wrap64 (x6 + 1))) else (some (([] : List Int), 0, false))) else (some (([] : List Int), 0, false))) else (some (([] : List Int), 0, false)))
def rational_split.j2 : Nat → ByteArray → List Int → Int → Int → Bool → Option (List Int × Int × Bool)
 | 0, _, _, _, _, _ => none
 | k + 1, x0, x2, x3, x5, x55 => if x55 = true then (some (([] : List Int), 0, false)) else (if x5 ≥ 0 then (some (x2, wrap64 ((wrap64 ((x0.size : Int) - 1)) - x5), true)) else (some (x2, x3, true)))
end
def rational_split.f (k : Nat) (a0 : ByteArray) : Option (List Int × Int × Bool) := rational_split.l0 k a0 ([] : List Int) 0 (-1) 0
theorem rational_split.mono_l : ∀ k, (∀ y0 y1 y2 y3 y4, LeO (rational_split.l0 k y0 y1 y2 y3 y4) (rational_split.l0 (k + 1) y0 y1 y2 y3 y4)) ∧ (∀ y0 y1 y2 y3 y4 y5 y6, LeO (rational_split.j1 k y0 y1 y2 y3 y4 y5 y6) (rational_split.j1 (k + 1) y0 y1 y2 y3 y4 y5 y6)) ∧ (∀ y0 y1 y2 y3 y4, LeO (rational_split.j2 k y0 y1 y2 y3 y4) (rational_split.j2 (k + 1) y0 y1 y2 y3 y4))
 | 0 => ⟨fun _ _ _ _ _ r h => by simp [rational_split.l0] at h, fun _ _ _ _ _ _ _ r h => by simp [rational_split.j1] at h, fun _ _ _ _ _ r h => by simp [rational_split.j2] at h⟩
 | k + 1 => by
  obtain ⟨ih0, ih1, ih2⟩ := rational_split.mono_l k
  refine ⟨?_, ?_, ?_⟩
  ·intro y0 y1 y2 y3 y4
   unfold rational_split.l0
   repeat' first
   | (with_reducible exact ih0 _ _ _ _ _)
   | (with_reducible exact ih1 _ _ _ _ _ _ _)
   | (with_reducible exact ih2 _ _ _ _ _)
   | (with_reducible exact LeO.refl _)
   | (with_reducible exact LeO.none _)
   | (with_reducible refine LeO.ite ?_ ?_)
   | (with_reducible refine LeO.bind ?_ (fun _ => ?_))
   | exact ih0 _ _ _ _ _
   | exact ih1 _ _ _ _ _ _ _
   | exact ih2 _ _ _ _ _
   | exact LeO.none _
   | refine LeO.ite ?_ ?_
   | refine LeO.bind ?_ (fun _ => ?_)
  ·intro y0 y1 y2 y3 y4 y5 y6
   unfold rational_split.j1
   repeat' first
   | (with_reducible exact ih0 _ _ _ _ _)
   | (with_reducible exact ih1 _ _ _ _ _ _ _)
   | (with_reducible exact ih2 _ _ _ _ _)
   | (with_reducible exact LeO.refl _)
   | (with_reducible exact LeO.none _)
   | (with_reducible refine LeO.ite ?_ ?_)
   | (with_reducible refine LeO.bind ?_ (fun _ => ?_))
   | exact ih0 _ _ _ _ _
   | exact ih1 _ _ _ _ _ _ _
   | exact ih2 _ _ _ _ _
   | exact LeO.none _
   | refine LeO.ite ?_ ?_
   | refine LeO.bind ?_ (fun _ => ?_)
  ·intro y0 y1 y2 y3 y4
   unfold rational_split.j2
   repeat' first
   | (with_reducible exact ih0 _ _ _ _ _)
   | (with_reducible exact ih1 _ _ _ _ _ _ _)
   | (with_reducible exact ih2 _ _ _ _ _)
   | (with_reducible exact LeO.refl _)
   | (with_reducible exact LeO.none _)
   | (with_reducible refine LeO.ite ?_ ?_)
   | (with_reducible refine LeO.bind ?_ (fun _ => ?_))
   | exact ih0 _ _ _ _ _
   | exact ih1 _ _ _ _ _ _ _
   | exact ih2 _ _ _ _ _
   | exact LeO.none _
   | refine LeO.ite ?_ ?_
   | refine LeO.bind ?_ (fun _ => ?_)
theorem rational_split.mono : ∀ a0 k, LeO (rational_split.f k a0) (rational_split.f (k + 1) a0) := by
 intro a0 k
 obtain ⟨ih0, ih1, ih2⟩ := rational_split.mono_l k
 unfold rational_split.f
 repeat' first
   | (with_reducible exact ih0 _ _ _ _ _)
   | (with_reducible exact ih1 _ _ _ _ _ _ _)
   | (with_reducible exact ih2 _ _ _ _ _)
   | (with_reducible exact LeO.refl _)
   | (with_reducible exact LeO.none _)
   | (with_reducible refine LeO.ite ?_ ?_)
   | (with_reducible refine LeO.bind ?_ (fun _ => ?_))
   | exact ih0 _ _ _ _ _
   | exact ih1 _ _ _ _ _ _ _
   | exact ih2 _ _ _ _ _
   | exact LeO.none _
   | refine LeO.ite ?_ ?_
   | refine LeO.bind ?_ (fun _ => ?_)
set_option maxHeartbeats 8000000 in
set_option maxRecDepth 100000 in
theorem rational_split.calls (k : Nat) (a0 : ByteArray) (r1 : List Int) (r2 : Int) (r3 : Bool) (w : World) (h : rational_split.f k a0 = some (r1, r2, r3)) :
  Calls Tryd.prog 52 #[.string a0] w fun e w' => ∃ v0_ : Value, e = .returned (.tuple #[v0_, .int .i64 r2, .bool r3]) ∧ Kd.R (Kd.int .u8) 5 w' w.heap.size (fun _ => True) v0_ r1 ∧ Below w.heap.size w w' := by
 have HB := zaa.mk (Below.refl w.heap.size w)
 have H : (rational_split.l0 k a0 ([] : List Int) 0 (-1) 0) = some (r1, r2, r3) := h
 clear h
 have H' := zaa.mk H
 clear H
 go_enter Tryd.func52, Tryd.ntmps52
 go_wp2
 go_loopg [2, 3, 5, 6] k (fun kq v2 v3 v5 v6 w' => ∃ (x2_1 : List Int) (x3_1 : Int) (x5_1 : Int) (x6_1 : Int), v3 = .int .i64 x3_1 ∧ v5 = .int .i64 x5_1 ∧ v6 = .int .i64 x6_1 ∧ zaa (rational_split.l0 kq a0 x2_1 x3_1 x5_1 x6_1 = some (r1, r2, r3)) ∧ zaa (kq ≤ k) ∧ zaa (Kd.R (Kd.int .u8) 5 w' w.heap.size (fun _ => True) v2 x2_1) ∧ zaa (Below w.heap.size w w'))
 case atStart => exact ⟨(([] : List Int)), (0), ((-1)), (0), (by first | rfl | (simp; done) | (simp [*]; done)), (by first | rfl | (simp; done) | (simp [*]; done)), (by first | rfl | (simp; done) | (simp [*]; done)), H', ⟨Nat.le_refl _⟩, ⟨by first | exact Kd.R_nil _ _ _ _ _ | exact Kd.N_nil _ _ _ _ _ | exact Kd.V_nil _ _ _ _ _ | exact Kd.Q_nil _ _ _ _ _ | exact Kd.S_nil _ _ _ _ _⟩, ⟨by repeat (first | (with_reducible first | exact HB.o | apply zaf | apply zah | apply zag) | exact HB.o)⟩⟩
 case round =>
  clear H'
  obtain ⟨x2_1, x3_1, x5_1, x6_1, rfl, rfl, rfl, HA, HK1, HO_2, HB⟩ := hrel
  cases gk with
  | zero => exact absurd HA.o (by simp [rational_split.l0])
  | succ k1 =>
   have H := HA.o
   clear HA
   simp only [rational_split.l0] at H
   by_cases c2 : x6_1 < (a0.size : Int)
   ·rw [if_pos c2] at H
    have c2b0 : decide (x6_1 < (a0.size : Int)) = true := decide_eq_true c2
    clear c2
    by_cases c3 : 0 ≤ x6_1
    ·rw [if_pos c3] at H
     have c3b0 : decide (0 ≤ x6_1) = true := decide_eq_true c3
     clear c3
     have HC5 := zaa.mk H
     clear H
     have p4 : 0 ≤ (x6_1 : Int) := of_decide_eq_true (by first | (with_reducible assumption) | assumption)
     have q4 : x6_1 < (a0.size : Int) := of_decide_eq_true (by first | (with_reducible assumption) | assumption)
     have hx4 := bt_at a0 x6_1
     replace p4 := eq_true p4
     replace q4 := eq_true q4
     go_upto_region 7 with (fail)
     go_cut [17] (fun v17 wc => ∃ (kq : Nat) (x17_4 : Bool), v17 = .bool x17_4 ∧ zaa (rational_split.j1 kq a0 x2_1 x3_1 x5_1 x6_1 (bt a0 x6_1) x17_4 = some (r1, r2, r3)) ∧ zaa (kq ≤ k1) ∧ zaa (Kd.R (Kd.int .u8) 5 wc w.heap.size (fun _ => True) u2 x2_1) ∧ zaa (Below w.heap.size w wc))
     case first =>
      have H := HC5.out
      clear HC5
      by_cases c6 : (bt a0 x6_1) ≥ 48
      ·rw [if_pos c6] at H
       have c6b0 : decide (48 ≤ (bt a0 x6_1)) = true := decide_eq_true c6
       clear c6
       (first | rw [c6b0] | (simp only [i64_w, i32_w]; rw [c6b0]) | skip)
       have H' := zaa.mk H
       clear H
       go_wp2
       go_meet
       case rel => exact ⟨_, (decide ((bt a0 x6_1) ≤ 57)), (by first | rfl | (simp; done) | (simp [*]; done)), H', ⟨by have := HK1.o; first | omega | exact Nat.le_refl _⟩, ⟨by (with_reducible repeat (first | apply Kd.R_alloc | apply Kd.R_drewN | apply Kd.R_drew)); exact HO_2.o⟩, ⟨by repeat (first | (with_reducible first | exact HB.o | apply zaf | apply zah | apply zag) | exact HB.o)⟩⟩
      ·rw [if_neg c6] at H
       have c6b0 : decide (48 ≤ (bt a0 x6_1)) = false := decide_eq_false c6
       clear c6
       (first | rw [c6b0] | (simp only [i64_w, i32_w]; rw [c6b0]) | skip)
       have H' := zaa.mk H
       clear H
       go_wp2
       go_meet
       case rel => exact ⟨_, (false), (by first | rfl | (simp; done) | (simp [*]; done)), H', ⟨by have := HK1.o; first | omega | exact Nat.le_refl _⟩, ⟨by (with_reducible repeat (first | apply Kd.R_alloc | apply Kd.R_drewN | apply Kd.R_drew)); exact HO_2.o⟩, ⟨by repeat (first | (with_reducible first | exact HB.o | apply zaf | apply zah | apply zag) | exact HB.o)⟩⟩
     case rest =>
      clear HC5
      try clear c2
      try clear c2b0
      try clear p2
      try clear c3
      try clear c3b0
      try clear p4
      try clear q4
      try clear hx4
      try clear c5
      try clear c6
      try clear c6b0
      try clear p4
      try clear q4
      obtain ⟨kq, x17_4, rfl, HA, HJ4, HO_2, HB⟩ := hcut
      cases kq with
      | zero => exact absurd HA.o (by simp [rational_split.j1])
      | succ kj4 =>
       have H := HA.o
       clear HA
       simp only [rational_split.j1] at H
       by_cases c7 : x17_4 = true
       ·subst c7
        have H1 : (if x2_1.length < 140737488355328 then (rational_split.l0 kj4 a0 (x2_1 ++ [((bt a0 x6_1) - 48) % 256]) x3_1 x5_1 (wrap64 (x6_1 + 1))) else (none)) = some (r1, r2, r3) := by rw [if_pos rfl] at H; exact H
        clear H
        have H := H1
        clear H1
        by_cases c8 : x2_1.length < 140737488355328
        ·rw [if_pos c8] at H
         have LMc8 := zaa.mk c8
         clear c8
         obtain ⟨y464, hy464⟩ : ∃ y_ : List Int, y_ = (x2_1 ++ [((bt a0 x6_1) - 48) % 256]) := ⟨_, rfl⟩
         replace H : (rational_split.l0 kj4 a0 y464 x3_1 x5_1 (wrap64 (x6_1 + 1))) = some (r1, r2, r3) := by first | (rw [hy464]; with_reducible exact H) | (have H2_ := (Option.bind_some _ _).symm.trans H; rw [hy464]; with_reducible exact H2_) | (have H2_ := (Option.bind_some _ _).symm.trans H; with_reducible exact H2_) | with_reducible exact H | (rw [hy464]; exact H) | exact H
         have Ny464 := zaa.mk hy464
         clear hy464
         have H' := zaa.mk H
         clear H
         go_wp2_with (first | ((with_reducible refine gate_builtin (b := .append) (xs := #[.tmp 24, .tmp 27]) rfl ?_); (try (refine gate_guard (by rfl) ?_; dsimp only)); at_builtin; refine Kd.R_append (Kd.int .u8) (w0 := w) w.heap.size rfl (.tmp 24) (.tmp 27) 76 5 (.int .u8 0) 1 rfl Tryd.underlying76 info5 rfl (by decide) (by omega) u2 x2_1 (((bt a0 x6_1) - 48) % 256) [.int .u8 (((bt a0 x6_1) - 48) % 256)] (fun _ => True) (fun _ => False) rfl rfl ?aP (fun _ hk => hk.elim) ?aF ?aO ?aB ?aS ?aL ?_; (case aP => exact rfl); (case aB => exact (by repeat (first | (with_reducible first | exact HB.o | apply zaf | apply zah | apply zag) | exact HB.o))); (case aF => exact (fun _ _ => trivial)); (case aO => exact (by (with_reducible repeat (first | apply Kd.R_alloc | apply Kd.R_drewN | apply Kd.R_drew)); exact HO_2.o)); (case aS => exact (zan (by repeat (first | (with_reducible first | exact HB.o | apply zaf | apply zah | apply zag) | exact HB.o)))); (case aL => have := LMc8.out; omega); intro v465 w9 ho hb hg hat; rw [← Ny464.out] at ho; have n0_ := zaa.mk (hb); have n1_ := zaa.mk (ho); clear HB; clear HO_2; have HB := n0_; have HO466 := n1_; clear n0_ n1_; clear ho hb hg hat))
         go_roundg kj4
         case measure => have := HK1.o; have := HJ4.out; omega
         case rel => exact ⟨(y464), (x3_1), (x5_1), (wrap64 (x6_1 + 1)), (by first | rfl | (simp; done) | (simp [*]; done)), (by first | rfl | (simp; done) | (simp [*]; done)), (by first | rfl | (simp; done) | (simp [*]; done)), H', ⟨by have := HK1.o; have := HJ4.out; omega⟩, ⟨by (with_reducible repeat (first | apply Kd.R_alloc | apply Kd.R_drewN | apply Kd.R_drew)); exact HO466.o⟩, ⟨by repeat (first | (with_reducible first | exact HB.o | apply zaf | apply zah | apply zag) | exact HB.o)⟩⟩
        ·rw [if_neg c8] at H
         exact absurd H (by simp)
       ·replace c7 := Bool.eq_false_iff.mpr c7
        subst c7
        have H1 : (if (bt a0 x6_1) = 46 then (if x5_1 < 0 then (if x6_1 > 0 then (rational_split.l0 kj4 a0 x2_1 x3_1 x6_1 (wrap64 (x6_1 + 1))) else (some (([] : List Int), 0, false))) else (some (([] : List Int), 0, false))) else (some (([] : List Int), 0, false))) = some (r1, r2, r3) := by rw [if_neg (show ¬ (false = true) by decide)] at H; exact H
        clear H
        have H := H1
        clear H1
        by_cases c10 : (bt a0 x6_1) = 46
        ·rw [if_pos c10] at H
         have c10b0 : ((bt a0 x6_1) == 46) = true := beq_iff_eq.mpr c10
         have c10b1 : ((bt a0 x6_1) != 46) = false := bne_eq_false_iff_eq.mpr c10
         clear c10
         by_cases c11 : x5_1 < 0
         ·rw [if_pos c11] at H
          have c11b0 : decide (x5_1 < 0) = true := decide_eq_true c11
          clear c11
          by_cases c12 : x6_1 > 0
          ·rw [if_pos c12] at H
           have c12b0 : decide (0 < x6_1) = true := decide_eq_true c12
           clear c12
           have H' := zaa.mk H
           clear H
           go_wp2
           go_roundg kj4
           case measure => have := HK1.o; have := HJ4.out; omega
           case rel => exact ⟨(x2_1), (x3_1), (x6_1), (wrap64 (x6_1 + 1)), (by first | rfl | (simp; done) | (simp [*]; done)), (by first | rfl | (simp; done) | (simp [*]; done)), (by first | rfl | (simp; done) | (simp [*]; done)), H', ⟨by have := HK1.o; have := HJ4.out; omega⟩, ⟨by (with_reducible repeat (first | apply Kd.R_alloc | apply Kd.R_drewN | apply Kd.R_drew)); exact HO_2.o⟩, ⟨by repeat (first | (with_reducible first | exact HB.o | apply zaf | apply zah | apply zag) | exact HB.o)⟩⟩
          ·rw [if_neg c12] at H
           have c12b0 : decide (0 < x6_1) = false := decide_eq_false c12
           clear c12
           simp only [Option.some.injEq, Prod.mk.injEq] at H
           obtain ⟨rfl, rfl, rfl⟩ := H
           go_wp2
           go_ret3
           exact ⟨_, by first | rfl | (simp [errW_none, errW_some] <;> rfl) | (simp [*, errW_none, errW_some] <;> rfl), by first | exact Kd.R_nil _ _ _ _ _ | exact Kd.N_nil _ _ _ _ _ | exact Kd.V_nil _ _ _ _ _ | exact Kd.Q_nil _ _ _ _ _ | exact Kd.S_nil _ _ _ _ _, by repeat (first | (with_reducible first | exact HB.o | apply zaf | apply zah | apply zag) | exact HB.o)⟩
         ·rw [if_neg c11] at H
          have c11b0 : decide (x5_1 < 0) = false := decide_eq_false c11
          clear c11
          simp only [Option.some.injEq, Prod.mk.injEq] at H
          obtain ⟨rfl, rfl, rfl⟩ := H
          go_wp2
          go_ret3
          exact ⟨_, by first | rfl | (simp [errW_none, errW_some] <;> rfl) | (simp [*, errW_none, errW_some] <;> rfl), by first | exact Kd.R_nil _ _ _ _ _ | exact Kd.N_nil _ _ _ _ _ | exact Kd.V_nil _ _ _ _ _ | exact Kd.Q_nil _ _ _ _ _ | exact Kd.S_nil _ _ _ _ _, by repeat (first | (with_reducible first | exact HB.o | apply zaf | apply zah | apply zag) | exact HB.o)⟩
        ·rw [if_neg c10] at H
         have c10b0 : ((bt a0 x6_1) == 46) = false := beq_eq_false_iff_ne.mpr c10
         have c10b1 : ((bt a0 x6_1) != 46) = true := bne_iff_ne.mpr c10
         simp only [Option.some.injEq, Prod.mk.injEq] at H
         obtain ⟨rfl, rfl, rfl⟩ := H
         go_wp2
         go_ret3
         exact ⟨_, by first | rfl | (simp [errW_none, errW_some] <;> rfl) | (simp [*, errW_none, errW_some] <;> rfl), by first | exact Kd.R_nil _ _ _ _ _ | exact Kd.N_nil _ _ _ _ _ | exact Kd.V_nil _ _ _ _ _ | exact Kd.Q_nil _ _ _ _ _ | exact Kd.S_nil _ _ _ _ _, by repeat (first | (with_reducible first | exact HB.o | apply zaf | apply zah | apply zag) | exact HB.o)⟩
    ·rw [if_neg c3] at H
     exact absurd H (by simp)
   ·rw [if_neg c2] at H
    have c2b0 : decide (x6_1 < (a0.size : Int)) = false := decide_eq_false c2
    clear c2
    have HC13 := zaa.mk H
    clear H
    go_upto_region 11 with (fail)
    go_cut [55] (fun v55 wc => ∃ (kq : Nat) (x55_12 : Bool), v55 = .bool x55_12 ∧ zaa (rational_split.j2 kq a0 x2_1 x3_1 x5_1 x55_12 = some (r1, r2, r3)) ∧ zaa (kq ≤ k1) ∧ zaa (Kd.R (Kd.int .u8) 5 wc w.heap.size (fun _ => True) u2 x2_1) ∧ zaa (Below w.heap.size w wc))
    case first =>
     have H := HC13.out
     clear HC13
     by_cases c14 : (x2_1.length : Int) = 0
     ·rw [if_pos c14] at H
      have c14b0 : ((x2_1.length : Int) == 0) = true := beq_iff_eq.mpr c14
      have c14b1 : ((x2_1.length : Int) != 0) = false := bne_eq_false_iff_eq.mpr c14
      clear c14
      (first | rw [c14b0] | (simp only [i64_w, i32_w]; rw [c14b0]) | skip)
      have H' := zaa.mk H
      clear H
      obtain ⟨Ao15, co15, eo15⟩ := Kd.R_slice HO_2.o
      subst eo15
      go_wp2
      go_meet
      case rel => exact ⟨_, (true), (by first | rfl | (simp; done) | (simp [*]; done)), H', ⟨by have := HK1.o; first | omega | exact Nat.le_refl _⟩, ⟨by (with_reducible repeat (first | apply Kd.R_alloc | apply Kd.R_drewN | apply Kd.R_drew)); exact HO_2.o⟩, ⟨by repeat (first | (with_reducible first | exact HB.o | apply zaf | apply zah | apply zag) | exact HB.o)⟩⟩
     ·rw [if_neg c14] at H
      have c14b0 : ((x2_1.length : Int) == 0) = false := beq_eq_false_iff_ne.mpr c14
      have c14b1 : ((x2_1.length : Int) != 0) = true := bne_iff_ne.mpr c14
      have c14b2 : ¬ (x2_1 = []) := fun h_ => c14 (by rw [h_]; rfl)
      (first | rw [c14b0] | (simp only [i64_w, i32_w]; rw [c14b0]) | skip)
      by_cases c16 : (a0.size : Int) > 40
      ·rw [if_pos c16] at H
       have c16b0 : decide (40 < (a0.size : Int)) = true := decide_eq_true c16
       have c16b1 : decide (40 < a0.size) = true := decide_eq_true (by omega)
       clear c16
       have H' := zaa.mk H
       clear H
       obtain ⟨Ao17, co17, eo17⟩ := Kd.R_slice HO_2.o
       subst eo17
       go_wp2
       go_meet
       case rel => exact ⟨_, (true), (by first | rfl | (simp; done) | (simp [*]; done)), H', ⟨by have := HK1.o; first | omega | exact Nat.le_refl _⟩, ⟨by (with_reducible repeat (first | apply Kd.R_alloc | apply Kd.R_drewN | apply Kd.R_drew)); exact HO_2.o⟩, ⟨by repeat (first | (with_reducible first | exact HB.o | apply zaf | apply zah | apply zag) | exact HB.o)⟩⟩
      ·rw [if_neg c16] at H
       have c16b0 : decide (40 < (a0.size : Int)) = false := decide_eq_false c16
       have c16b1 : decide (40 < a0.size) = false := decide_eq_false (by omega)
       clear c16
       have H' := zaa.mk H
       clear H
       obtain ⟨Ao18, co18, eo18⟩ := Kd.R_slice HO_2.o
       subst eo18
       go_wp2
       go_meet
       case rel => exact ⟨_, ((x5_1 == (wrap64 ((a0.size : Int) - 1)))), (by first | rfl | (simp; done) | (simp [*]; done)), H', ⟨by have := HK1.o; first | omega | exact Nat.le_refl _⟩, ⟨by (with_reducible repeat (first | apply Kd.R_alloc | apply Kd.R_drewN | apply Kd.R_drew)); exact HO_2.o⟩, ⟨by repeat (first | (with_reducible first | exact HB.o | apply zaf | apply zah | apply zag) | exact HB.o)⟩⟩
    case rest =>
     clear HC13
     try clear c1
     try clear c2
     try clear c2b0
     try clear p2
     try clear c3
     try clear c3b0
     try clear p4
     try clear q4
     try clear hx4
     try clear c5
     try clear c6
     try clear c6b0
     try clear p6
     try clear c7
     try clear c8
     try clear c10
     try clear c10b0
     try clear c10b1
     try clear c11
     try clear c11b0
     try clear c12
     try clear c12b0
     try clear c14
     try clear c14b0
     try clear c14b1
     try clear c14b2
     try clear c16
     try clear c16b0
     try clear c16b1
     try clear p2
     try clear p4
     try clear q4
     obtain ⟨kq, x55_12, rfl, HA, HJ12, HO_2, HB⟩ := hcut
     cases kq with
     | zero => exact absurd HA.o (by simp [rational_split.j2])
     | succ kj12 =>
      have H := HA.o
      clear HA
      simp only [rational_split.j2] at H
      by_cases c19 : x55_12 = true
      ·subst c19
       have H1 : (some (([] : List Int), 0, false)) = some (r1, r2, r3) := by rw [if_pos rfl] at H; exact H
       clear H
       have H := H1
       clear H1
       simp only [Option.some.injEq, Prod.mk.injEq] at H
       obtain ⟨rfl, rfl, rfl⟩ := H
       go_wp2
       go_ret3
       exact ⟨_, by first | rfl | (simp [errW_none, errW_some] <;> rfl) | (simp [*, errW_none, errW_some] <;> rfl), by first | exact Kd.R_nil _ _ _ _ _ | exact Kd.N_nil _ _ _ _ _ | exact Kd.V_nil _ _ _ _ _ | exact Kd.Q_nil _ _ _ _ _ | exact Kd.S_nil _ _ _ _ _, by repeat (first | (with_reducible first | exact HB.o | apply zaf | apply zah | apply zag) | exact HB.o)⟩
      ·replace c19 := Bool.eq_false_iff.mpr c19
       subst c19
       have H1 : (if x5_1 ≥ 0 then (some (x2_1, wrap64 ((wrap64 ((a0.size : Int) - 1)) - x5_1), true)) else (some (x2_1, x3_1, true))) = some (r1, r2, r3) := by rw [if_neg (show ¬ (false = true) by decide)] at H; exact H
       clear H
       have H := H1
       clear H1
       by_cases c20 : x5_1 ≥ 0
       ·rw [if_pos c20] at H
        have c20b0 : decide (0 ≤ x5_1) = true := decide_eq_true c20
        clear c20
        simp only [Option.some.injEq, Prod.mk.injEq] at H
        obtain ⟨rfl, rfl, rfl⟩ := H
        go_wp2
        go_ret3
        exact ⟨_, by first | rfl | (simp [errW_none, errW_some] <;> rfl) | (simp [*, errW_none, errW_some] <;> rfl), by (with_reducible repeat (first | apply Kd.R_alloc | apply Kd.R_drewN | apply Kd.R_drew)); exact HO_2.o, by repeat (first | (with_reducible first | exact HB.o | apply zaf | apply zah | apply zag) | exact HB.o)⟩
       ·rw [if_neg c20] at H
        have c20b0 : decide (0 ≤ x5_1) = false := decide_eq_false c20
        clear c20
        simp only [Option.some.injEq, Prod.mk.injEq] at H
        obtain ⟨rfl, rfl, rfl⟩ := H
        go_wp2
        go_ret3
        exact ⟨_, by first | rfl | (simp [errW_none, errW_some] <;> rfl) | (simp [*, errW_none, errW_some] <;> rfl), by (with_reducible repeat (first | apply Kd.R_alloc | apply Kd.R_drewN | apply Kd.R_drew)); exact HO_2.o, by repeat (first | (with_reducible first | exact HB.o | apply zaf | apply zah | apply zag) | exact HB.o)⟩

end Go.Proofs.YtoieknocpphjoaaDoor.P
