/- Written by wip/tool/hprint.py (the kit's print.py with hand-proved contracts set in): contracts of the functions that the statements of this seat reach, without conditions beyond those named in each theorem. -/
import Derived.Test.YtnnhhkjcjkinpaaP0
import Derived.Test.YtnnhhkjcjkinpaaP12
import Derived.Test.YtnnhhkjcjkinpaaP13
namespace Go.Proofs.Ytnnhhkjcjkinpaa.P
open Go.RowKit Go.Proofs.YtnnhhkjcjkinpaaW.PrintWords Go.Proofs.YtnnhhkjcjkinpaaW.PrintLast Go.Proofs.YtnnhhkjcjkinpaaW.PrintMore
attribute [local go_sem] max2_int min2_int max_two min_two max_three min_three max_four min_four   -- for this text's walks alone
set_option linter.unusedVariables false
set_option linter.unusedSimpArgs false

/-! ### vinculumref28_Nested: function 47 -/
mutual
def vinculumref28_Nested.l0 : Nat → Int → Int → Int → ByteArray → Int → Int → Int → Int → Int → Int → List (S28) → Int → List Int → Option (Int)
  | 0, _, _, _, _, _, _, _, _, _, _, _, _, _ => none
  | k + 1, x3, x4, x222000, x222001, x222002, x222003, x222004, x222005, x222006, x222007, x222008, x222009, x222010 => if x4 < (x222008.length : Int) then (if 0 ≤ x4 then ((vinculumref28_Nested.f k ((rd_T28 x222008 x4).f0) ((rd_T28 x222008 x4).f1) ((rd_T28 x222008 x4).f2) ((rd_T28 x222008 x4).f3) ((rd_T28 x222008 x4).f4) ((rd_T28 x222008 x4).f5) ((rd_T28 x222008 x4).f6) ((rd_T28 x222008 x4).f7) ((rd_T28 x222008 x4).f8) ((rd_T28 x222008 x4).f9) ((rd_T28 x222008 x4).f10)).bind fun t223 => (vinculumref28_Nested.l0 k (mx x3 t223) (wrap64 (x4 + 1)) x222000 x222001 x222002 x222003 x222004 x222005 x222006 x222007 x222008 x222009 x222010)) else (none)) else (some (wrap64 (x3 + 1)))
def vinculumref28_Nested.f : Nat → Int → ByteArray → Int → Int → Int → Int → Int → Int → List (S28) → Int → List Int → Option (Int)
  | 0, _, _, _, _, _, _, _, _, _, _, _ => none
  | k + 1, a0_0, a0_1, a0_2, a0_3, a0_4, a0_5, a0_6, a0_7, l0_8, a0_9, l0_10 => vinculumref28_Nested.l0 k 0 0 a0_0 a0_1 a0_2 a0_3 a0_4 a0_5 a0_6 a0_7 l0_8 a0_9 l0_10
end
theorem vinculumref28_Nested.mono_l : ∀ k, (∀ y0 y1 y2 y3 y4 y5 y6 y7 y8 y9 y10, LeO (vinculumref28_Nested.f k y0 y1 y2 y3 y4 y5 y6 y7 y8 y9 y10) (vinculumref28_Nested.f (k + 1) y0 y1 y2 y3 y4 y5 y6 y7 y8 y9 y10)) ∧ (∀ y0 y1 y2 y3 y4 y5 y6 y7 y8 y9 y10 y11 y12, LeO (vinculumref28_Nested.l0 k y0 y1 y2 y3 y4 y5 y6 y7 y8 y9 y10 y11 y12) (vinculumref28_Nested.l0 (k + 1) y0 y1 y2 y3 y4 y5 y6 y7 y8 y9 y10 y11 y12))
  | 0 => ⟨fun _ _ _ _ _ _ _ _ _ _ _ r h => by simp [vinculumref28_Nested.f] at h, fun _ _ _ _ _ _ _ _ _ _ _ _ _ r h => by simp [vinculumref28_Nested.l0] at h⟩
  | k + 1 => by
    obtain ⟨ih0, ih1⟩ := vinculumref28_Nested.mono_l k
    refine ⟨?_, ?_⟩
    · intro y0 y1 y2 y3 y4 y5 y6 y7 y8 y9 y10
      unfold vinculumref28_Nested.f
      repeat' first
      | (with_reducible exact ih0 _ _ _ _ _ _ _ _ _ _ _)
      | (with_reducible exact ih1 _ _ _ _ _ _ _ _ _ _ _ _ _)
      | (with_reducible exact LeO.refl _)
      | (with_reducible exact LeO.none _)
      | (with_reducible refine LeO.ite ?_ ?_)
      | (with_reducible refine LeO.bind ?_ (fun _ => ?_))
      | exact ih0 _ _ _ _ _ _ _ _ _ _ _
      | exact ih1 _ _ _ _ _ _ _ _ _ _ _ _ _
      | exact LeO.none _
      | refine LeO.ite ?_ ?_
      | refine LeO.bind ?_ (fun _ => ?_)
    · intro y0 y1 y2 y3 y4 y5 y6 y7 y8 y9 y10 y11 y12
      unfold vinculumref28_Nested.l0
      repeat' first
      | (with_reducible exact ih0 _ _ _ _ _ _ _ _ _ _ _)
      | (with_reducible exact ih1 _ _ _ _ _ _ _ _ _ _ _ _ _)
      | (with_reducible exact LeO.refl _)
      | (with_reducible exact LeO.none _)
      | (with_reducible refine LeO.ite ?_ ?_)
      | (with_reducible refine LeO.bind ?_ (fun _ => ?_))
      | exact ih0 _ _ _ _ _ _ _ _ _ _ _
      | exact ih1 _ _ _ _ _ _ _ _ _ _ _ _ _
      | exact LeO.none _
      | refine LeO.ite ?_ ?_
      | refine LeO.bind ?_ (fun _ => ?_)
theorem vinculumref28_Nested.mono : ∀ a0 a1 a2 a3 a4 a5 a6 a7 a8 a9 a10 k, LeO (vinculumref28_Nested.f k a0 a1 a2 a3 a4 a5 a6 a7 a8 a9 a10) (vinculumref28_Nested.f (k + 1) a0 a1 a2 a3 a4 a5 a6 a7 a8 a9 a10) := by
  intro a0 a1 a2 a3 a4 a5 a6 a7 a8 a9 a10 k
  obtain ⟨ih0, ih1⟩ := vinculumref28_Nested.mono_l k
  exact ih0 a0 a1 a2 a3 a4 a5 a6 a7 a8 a9 a10
set_option maxHeartbeats 8000000 in
set_option maxRecDepth 100000 in
theorem vinculumref28_Nested.calls (k : Nat) : ∀ (a0_0 : Int) (a0_1 : ByteArray) (a0_2 : Int) (a0_3 : Int) (a0_4 : Int) (a0_5 : Int) (a0_6 : Int) (a0_7 : Int) (A0_8 : Option Addr) (c0_8 : Nat) (l0_8 : List (S28)) (a0_9 : Int) (A0_10 : Option Addr) (c0_10 : Nat) (l0_10 : List Int) (r : Int) (w : World) (hr0_8 : Kd.C k28 w A0_8 l0_8.length l0_8) (hc0_8 : l0_8.length ≤ c0_8) (hr0_10 : Kd.C (Kd.int .i64) w A0_10 l0_10.length l0_10) (hc0_10 : l0_10.length ≤ c0_10) (h : vinculumref28_Nested.f k a0_0 a0_1 a0_2 a0_3 a0_4 a0_5 a0_6 a0_7 l0_8 a0_9 l0_10 = some r),
    Calls Try.prog 47 #[.agg #[.int .i64 a0_0, .string a0_1, .int .i64 a0_2, .int .i64 a0_3, .int .i64 a0_4, .int .i64 a0_5, .int .i64 a0_6, .int .i64 a0_7, .slice A0_8 l0_8.length c0_8, .int .i64 a0_9, .slice A0_10 l0_10.length c0_10]] w fun e w' => e = .returned (.int .i64 r) ∧ Below w.heap.size w w' := by
  induction k using Nat.strongRecOn with
  | _ k ih =>
  intro a0_0 a0_1 a0_2 a0_3 a0_4 a0_5 a0_6 a0_7 A0_8 c0_8 l0_8 a0_9 A0_10 c0_10 l0_10 r w hr0_8 hc0_8 hr0_10 hc0_10 h
  cases k with
  | zero => exact absurd h (by simp [vinculumref28_Nested.f])
  | succ k =>
  simp only [vinculumref28_Nested.f] at h
  have hu28 := Try.underlying28
  have HR0_8 := Aside0.mk hr0_8
  have HC0_8 := Aside0.mk hc0_8
  clear hr0_8 hc0_8
  have HR0_10 := Aside0.mk hr0_10
  have HC0_10 := Aside0.mk hc0_10
  clear hr0_10 hc0_10
  have HB := Aside0.mk (Below.refl w.heap.size w)
  have H : (vinculumref28_Nested.l0 k 0 0 a0_0 a0_1 a0_2 a0_3 a0_4 a0_5 a0_6 a0_7 l0_8 a0_9 l0_10) = some r := h
  clear h
  have H' := Aside0.mk H
  clear H
  go_enter Try.func47, Try.ntmps47
  go_wp2_with (first | ((with_reducible refine gate_dst (N := 1) rfl ?_); refine box_event ?hg (N := 1) ?hd (cs := #[.int .i64 a0_0, .string a0_1, .int .i64 a0_2, .int .i64 a0_3, .int .i64 a0_4, .int .i64 a0_5, .int .i64 a0_6, .int .i64 a0_7, .slice A0_8 l0_8.length c0_8, .int .i64 a0_9, .slice A0_10 l0_10.length c0_10]) (t := 28) ?hr ?_; (case hd => rfl); (case hg => rfl); (case hr => first | (go_simp; done) | (go_simp; rfl)); intro gb221 hg w2 hbox hb; have n0_ := Aside0.mk (below_step (by repeat (first | (with_reducible first | exact HB.out | apply below_alloc | apply pw_below_drewN | apply below_drew1) | exact HB.out)) hb); have n1_ := Aside0.mk (hbox); have n2_ := Aside0.mk ((by rw [hg]; exact (below_size (by repeat (first | (with_reducible first | exact HB.out | apply below_alloc | apply pw_below_drewN | apply below_drew1) | exact HB.out))) : w.heap.size ≤ gb221)); have n3_ := Aside0.mk ((by rw [hg]; exact (below_size (by repeat (first | (with_reducible first | exact HB.out | apply below_alloc | apply pw_below_drewN | apply below_drew1) | exact HB.out))) : w.heap.size ≤ gb221)); clear HB; have HB := n0_; have BK221 := n1_; have GW221 := n2_; have GE221 := n3_; clear n0_ n1_ n2_ n3_; clear hb hbox hg))
  go_loopg [3, 4] k (fun kq v3 v4 w' => ∃ (x3_1 : Int) (x4_1 : Int), v3 = .int .i64 x3_1 ∧ v4 = .int .i64 x4_1 ∧ Aside0 (vinculumref28_Nested.l0 kq x3_1 x4_1 a0_0 a0_1 a0_2 a0_3 a0_4 a0_5 a0_6 a0_7 l0_8 a0_9 l0_10 = some r) ∧ Aside0 (kq ≤ k) ∧ Aside0 (w'.heap[gb221]? = some (.cells #[.int .i64 a0_0, .string a0_1, .int .i64 a0_2, .int .i64 a0_3, .int .i64 a0_4, .int .i64 a0_5, .int .i64 a0_6, .int .i64 a0_7, (.slice A0_8 l0_8.length c0_8), .int .i64 a0_9, (.slice A0_10 l0_10.length c0_10)] 28 (0, 0))) ∧ Aside0 (Below w.heap.size w w'))
  case atStart => exact ⟨(0), (0), (by first | rfl | (simp; done) | (simp [*]; done)), (by first | rfl | (simp; done) | (simp [*]; done)), H', ⟨Nat.le_refl _⟩, ⟨by (with_reducible repeat (first | refine blk_drewN ?_ _ | refine blk_drew ?_ | refine blk_alloc ?_ _)); exact BK221.out⟩, ⟨by repeat (first | (with_reducible first | exact HB.out | apply below_alloc | apply pw_below_drewN | apply below_drew1 | refine below_set ?_ GE221.out) | exact HB.out)⟩⟩
  case round =>
    clear H'
    try clear p2
    obtain ⟨x3_1, x4_1, rfl, rfl, HA, HK1, BK221, HB⟩ := hrel
    cases gk with
    | zero => exact absurd HA.out (by simp [vinculumref28_Nested.l0])
    | succ k1 =>
      have H := HA.out
      clear HA
      simp only [vinculumref28_Nested.l0] at H
      by_cases c3 : x4_1 < (l0_8.length : Int)
      · rw [if_pos c3] at H
        have c3b0 : decide (x4_1 < (l0_8.length : Int)) = true := decide_eq_true c3
        clear c3
        by_cases c4 : 0 ≤ x4_1
        · rw [if_pos c4] at H
          have c4b0 : decide (0 ≤ x4_1) = true := decide_eq_true c4
          clear c4
          replace H := Option.bind_eq_some_iff.mp H
          obtain ⟨t223, A50, H⟩ := H
          replace H : (vinculumref28_Nested.l0 k1 (mx x3_1 t223) (wrap64 (x4_1 + 1)) a0_0 a0_1 a0_2 a0_3 a0_4 a0_5 a0_6 a0_7 l0_8 a0_9 l0_10) = some r := H
          have A5 := Aside0.mk A50
          clear A50
          obtain ⟨ji6, hji6⟩ : ∃ j_ : Int, (mx x3_1 t223) = j_ := ⟨_, rfl⟩
          replace H : (vinculumref28_Nested.l0 k1 ji6 (wrap64 (x4_1 + 1)) a0_0 a0_1 a0_2 a0_3 a0_4 a0_5 a0_6 a0_7 l0_8 a0_9 l0_10) = some r := by first | (rw [hji6] at H; exact H) | (simp only [hji6] at H ⊢; exact H)
          (try rw [hji6] at A5)
          have hji6_ : (if x3_1 < t223 then t223 else x3_1) = ji6 := hji6
          have H' := Aside0.mk H
          clear H
          have hcz7_0 : wr.cell? ⟨gb221, 0, none⟩ = some (.int .i64 a0_0) := (blk_cell BK221.out 0).trans rfl
          have hcz7_1 : wr.cell? ⟨gb221, 1, none⟩ = some (.string a0_1) := (blk_cell BK221.out 1).trans rfl
          have hcz7_2 : wr.cell? ⟨gb221, 2, none⟩ = some (.int .i64 a0_2) := (blk_cell BK221.out 2).trans rfl
          have hcz7_3 : wr.cell? ⟨gb221, 3, none⟩ = some (.int .i64 a0_3) := (blk_cell BK221.out 3).trans rfl
          have hcz7_4 : wr.cell? ⟨gb221, 4, none⟩ = some (.int .i64 a0_4) := (blk_cell BK221.out 4).trans rfl
          have hcz7_5 : wr.cell? ⟨gb221, 5, none⟩ = some (.int .i64 a0_5) := (blk_cell BK221.out 5).trans rfl
          have hcz7_6 : wr.cell? ⟨gb221, 6, none⟩ = some (.int .i64 a0_6) := (blk_cell BK221.out 6).trans rfl
          have hcz7_7 : wr.cell? ⟨gb221, 7, none⟩ = some (.int .i64 a0_7) := (blk_cell BK221.out 7).trans rfl
          have hcz7_8 : wr.cell? ⟨gb221, 8, none⟩ = some (.slice A0_8 l0_8.length c0_8) := (blk_cell BK221.out 8).trans rfl
          have hcz7_9 : wr.cell? ⟨gb221, 9, none⟩ = some (.int .i64 a0_9) := (blk_cell BK221.out 9).trans rfl
          have hcz7_10 : wr.cell? ⟨gb221, 10, none⟩ = some (.slice A0_10 l0_10.length c0_10) := (blk_cell BK221.out 10).trans rfl
          have hfz7_0 := blk_frozen BK221.out 0
          have hfz7_1 := blk_frozen BK221.out 1
          have hfz7_2 := blk_frozen BK221.out 2
          have hfz7_3 := blk_frozen BK221.out 3
          have hfz7_4 := blk_frozen BK221.out 4
          have hfz7_5 := blk_frozen BK221.out 5
          have hfz7_6 := blk_frozen BK221.out 6
          have hfz7_7 := blk_frozen BK221.out 7
          have hfz7_8 := blk_frozen BK221.out 8
          have hfz7_9 := blk_frozen BK221.out 9
          have hfz7_10 := blk_frozen BK221.out 10
          have p222 : 0 ≤ (x4_1 : Int) := of_decide_eq_true (by first | (with_reducible assumption) | assumption)
          have q222 : x4_1 < (l0_8.length : Int) := of_decide_eq_true (by first | (with_reducible assumption) | assumption)
          obtain ⟨ad222, A222_8, c222_8, A222_10, c222_10, e222, hx222_0, hx222_1, hx222_2, hx222_3, hx222_4, hx222_5, hx222_6, hx222_7, hx222_8, hx222_9, hx222_10, hl222_8, hi222_8, hl222_10, hi222_10⟩ := at_T28 HR0_8.out x4_1 p222 q222
          cases e222
          replace hx222_0 := (HB.out.cell (World.block_lt_of_cell? w _ hx222_0)).trans hx222_0
          replace hx222_1 := (HB.out.cell (World.block_lt_of_cell? w _ hx222_1)).trans hx222_1
          replace hx222_2 := (HB.out.cell (World.block_lt_of_cell? w _ hx222_2)).trans hx222_2
          replace hx222_3 := (HB.out.cell (World.block_lt_of_cell? w _ hx222_3)).trans hx222_3
          replace hx222_4 := (HB.out.cell (World.block_lt_of_cell? w _ hx222_4)).trans hx222_4
          replace hx222_5 := (HB.out.cell (World.block_lt_of_cell? w _ hx222_5)).trans hx222_5
          replace hx222_6 := (HB.out.cell (World.block_lt_of_cell? w _ hx222_6)).trans hx222_6
          replace hx222_7 := (HB.out.cell (World.block_lt_of_cell? w _ hx222_7)).trans hx222_7
          replace hx222_8 := (HB.out.cell (World.block_lt_of_cell? w _ hx222_8)).trans hx222_8
          replace hx222_9 := (HB.out.cell (World.block_lt_of_cell? w _ hx222_9)).trans hx222_9
          replace hx222_10 := (HB.out.cell (World.block_lt_of_cell? w _ hx222_10)).trans hx222_10
          have HR222_8 := Aside0.mk hi222_8
          have HC222_8 := Aside0.mk hl222_8
          clear hi222_8 hl222_8
          have HR222_10 := Aside0.mk hi222_10
          have HC222_10 := Aside0.mk hl222_10
          clear hi222_10 hl222_10
          replace p222 := eq_true p222
          replace q222 := eq_true q222
          go_wp2_with (first | ((with_reducible refine gate_callee (f := 47) rfl ?_); refine goesL_ (some 18) rfl rfl Try.func47 (by kernel_rfl) rfl #[.agg #[.int .i64 ((rd_T28 l0_8 x4_1).f0), .string ((rd_T28 l0_8 x4_1).f1), .int .i64 ((rd_T28 l0_8 x4_1).f2), .int .i64 ((rd_T28 l0_8 x4_1).f3), .int .i64 ((rd_T28 l0_8 x4_1).f4), .int .i64 ((rd_T28 l0_8 x4_1).f5), .int .i64 ((rd_T28 l0_8 x4_1).f6), .int .i64 ((rd_T28 l0_8 x4_1).f7), .slice A222_8 ((rd_T28 l0_8 x4_1).f8).length c222_8, .int .i64 ((rd_T28 l0_8 x4_1).f9), .slice A222_10 ((rd_T28 l0_8 x4_1).f10).length c222_10]] rfl (by (try simp only [List.map_toArray, List.map_cons, List.map_nil]); first | done | rfl | (simp only [List.length_drop, List.length_take]; rfl)) ?_; (with_reducible refine (ih k1 (by have := HK1.out; omega) ((rd_T28 l0_8 x4_1).f0) ((rd_T28 l0_8 x4_1).f1) ((rd_T28 l0_8 x4_1).f2) ((rd_T28 l0_8 x4_1).f3) ((rd_T28 l0_8 x4_1).f4) ((rd_T28 l0_8 x4_1).f5) ((rd_T28 l0_8 x4_1).f6) ((rd_T28 l0_8 x4_1).f7) _ _ ((rd_T28 l0_8 x4_1).f8) ((rd_T28 l0_8 x4_1).f9) _ _ ((rd_T28 l0_8 x4_1).f10) t223 _ ?side1 ?side2 ?side3 ?side4 A5.out).mono ?_); (case side1 => repeat (first | exact (Kd.C_below HR222_8.out HB.out) | (with_reducible refine Kd.C_alloc ?_ _) | (with_reducible refine Kd.C_drewN ?_ _) | (with_reducible refine Kd.C_drew ?_))); (case side2 => exact HC222_8.out); (case side3 => repeat (first | exact (Kd.C_below HR222_10.out HB.out) | (with_reducible refine Kd.C_alloc ?_ _) | (with_reducible refine Kd.C_drewN ?_ _) | (with_reducible refine Kd.C_drew ?_))); (case side4 => exact HC222_10.out); rintro e w8 ⟨rfl, hb⟩; refine ⟨_, rfl, ?_⟩; have n0_ := Aside0.mk (blk_below (g := gb221) (o := .cells #[.int .i64 a0_0, .string a0_1, .int .i64 a0_2, .int .i64 a0_3, .int .i64 a0_4, .int .i64 a0_5, .int .i64 a0_6, .int .i64 a0_7, .slice (some ad222) l0_8.length c0_8, .int .i64 a0_9, .slice A0_10 l0_10.length c0_10] 28 (0, 0)) (by (with_reducible repeat (first | refine blk_drewN ?_ _ | refine blk_drew ?_ | refine blk_alloc ?_ _)); exact BK221.out) hb); have n1_ := Aside0.mk (below_step (by repeat (first | (with_reducible first | exact HB.out | apply below_alloc | apply pw_below_drewN | apply below_drew1 | refine below_set ?_ GE221.out) | exact HB.out)) hb); clear BK221; clear HB; have BK221 := n0_; have HB := n1_; clear n0_ n1_; (try clear hb); (try clear hb2); (try clear hk); (try clear hi)))
          go_roundg k1
          case measure => have := HK1.out; omega
          case rel => exact ⟨(ji6), (wrap64 (x4_1 + 1)), (by first | rfl | (simp; done) | (simp only [← hji6] <;> (first | rfl | simp)) | (simp [*]; done)), (by first | rfl | (simp; done) | (simp [*]; done)), H', ⟨by have := HK1.out; omega⟩, ⟨by (with_reducible repeat (first | refine blk_drewN ?_ _ | refine blk_drew ?_ | refine blk_alloc ?_ _)); exact BK221.out⟩, ⟨by repeat (first | (with_reducible first | exact HB.out | apply below_alloc | apply pw_below_drewN | apply below_drew1 | refine below_set ?_ GE221.out) | exact HB.out)⟩⟩
        · rw [if_neg c4] at H
          exact absurd H (by simp)
      · rw [if_neg c3] at H
        have c3b0 : decide (x4_1 < (l0_8.length : Int)) = false := decide_eq_false c3
        clear c3
        obtain rfl := Option.some.inj H
        have hcz9_0 : wr.cell? ⟨gb221, 0, none⟩ = some (.int .i64 a0_0) := (blk_cell BK221.out 0).trans rfl
        have hcz9_1 : wr.cell? ⟨gb221, 1, none⟩ = some (.string a0_1) := (blk_cell BK221.out 1).trans rfl
        have hcz9_2 : wr.cell? ⟨gb221, 2, none⟩ = some (.int .i64 a0_2) := (blk_cell BK221.out 2).trans rfl
        have hcz9_3 : wr.cell? ⟨gb221, 3, none⟩ = some (.int .i64 a0_3) := (blk_cell BK221.out 3).trans rfl
        have hcz9_4 : wr.cell? ⟨gb221, 4, none⟩ = some (.int .i64 a0_4) := (blk_cell BK221.out 4).trans rfl
        have hcz9_5 : wr.cell? ⟨gb221, 5, none⟩ = some (.int .i64 a0_5) := (blk_cell BK221.out 5).trans rfl
        have hcz9_6 : wr.cell? ⟨gb221, 6, none⟩ = some (.int .i64 a0_6) := (blk_cell BK221.out 6).trans rfl
        have hcz9_7 : wr.cell? ⟨gb221, 7, none⟩ = some (.int .i64 a0_7) := (blk_cell BK221.out 7).trans rfl
        have hcz9_8 : wr.cell? ⟨gb221, 8, none⟩ = some (.slice A0_8 l0_8.length c0_8) := (blk_cell BK221.out 8).trans rfl
        have hcz9_9 : wr.cell? ⟨gb221, 9, none⟩ = some (.int .i64 a0_9) := (blk_cell BK221.out 9).trans rfl
        have hcz9_10 : wr.cell? ⟨gb221, 10, none⟩ = some (.slice A0_10 l0_10.length c0_10) := (blk_cell BK221.out 10).trans rfl
        have hfz9_0 := blk_frozen BK221.out 0
        have hfz9_1 := blk_frozen BK221.out 1
        have hfz9_2 := blk_frozen BK221.out 2
        have hfz9_3 := blk_frozen BK221.out 3
        have hfz9_4 := blk_frozen BK221.out 4
        have hfz9_5 := blk_frozen BK221.out 5
        have hfz9_6 := blk_frozen BK221.out 6
        have hfz9_7 := blk_frozen BK221.out 7
        have hfz9_8 := blk_frozen BK221.out 8
        have hfz9_9 := blk_frozen BK221.out 9
        have hfz9_10 := blk_frozen BK221.out 10
        go_wp2
        go_ret
        exact ⟨by first | rfl | (simp [errW_none, errW_some] <;> rfl) | (simp [*, errW_none, errW_some] <;> rfl), by repeat (first | (with_reducible first | exact HB.out | apply below_alloc | apply pw_below_drewN | apply below_drew1 | refine below_set ?_ GE221.out) | exact HB.out)⟩

/-! ### vinculumref28_Valid: function 24 -/
def vinculumref28_Valid.f (k : Nat) (a0_0 : Int) (a0_1 : ByteArray) (a0_2 : Int) (a0_3 : Int) (a0_4 : Int) (a0_5 : Int) (a0_6 : Int) (a0_7 : Int) (l0_8 : List (S28)) (a0_9 : Int) (l0_10 : List Int) : Option (Bool) := (vinculumref28_proper.f k a0_0 a0_1 a0_2 a0_3 a0_4 a0_5 a0_6 a0_7 l0_8 a0_9 l0_10).bind fun t225 => (if t225 = true then ((vinculumref28_Count.f k a0_0 a0_1 a0_2 a0_3 a0_4 a0_5 a0_6 a0_7 l0_8 a0_9 l0_10).bind fun t226 => (if t226 ≤ 20000 then ((vinculumref28_Nested.f k a0_0 a0_1 a0_2 a0_3 a0_4 a0_5 a0_6 a0_7 l0_8 a0_9 l0_10).bind fun t227 => (some (decide (t227 ≤ 100)))) else (some false))) else (some false))
theorem vinculumref28_Valid.mono : ∀ a0 a1 a2 a3 a4 a5 a6 a7 a8 a9 a10 k, LeO (vinculumref28_Valid.f k a0 a1 a2 a3 a4 a5 a6 a7 a8 a9 a10) (vinculumref28_Valid.f (k + 1) a0 a1 a2 a3 a4 a5 a6 a7 a8 a9 a10) := by
  intro a0 a1 a2 a3 a4 a5 a6 a7 a8 a9 a10 k
  unfold vinculumref28_Valid.f
  repeat' first
      | (with_reducible exact vinculumref28_Count.mono _ _ _ _ _ _ _ _ _ _ _ _)
      | (with_reducible exact vinculumref28_Nested.mono _ _ _ _ _ _ _ _ _ _ _ _)
      | (with_reducible exact vinculumref28_proper.mono _ _ _ _ _ _ _ _ _ _ _ _)
      | (with_reducible exact LeO.refl _)
      | (with_reducible exact LeO.none _)
      | (with_reducible refine LeO.ite ?_ ?_)
      | (with_reducible refine LeO.bind ?_ (fun _ => ?_))
      | exact vinculumref28_Count.mono _ _ _ _ _ _ _ _ _ _ _ _
      | exact vinculumref28_Nested.mono _ _ _ _ _ _ _ _ _ _ _ _
      | exact vinculumref28_proper.mono _ _ _ _ _ _ _ _ _ _ _ _
      | exact LeO.none _
      | refine LeO.ite ?_ ?_
      | refine LeO.bind ?_ (fun _ => ?_)
set_option maxHeartbeats 8000000 in
set_option maxRecDepth 100000 in
theorem vinculumref28_Valid.calls (k : Nat) (a0_0 : Int) (a0_1 : ByteArray) (a0_2 : Int) (a0_3 : Int) (a0_4 : Int) (a0_5 : Int) (a0_6 : Int) (a0_7 : Int) (A0_8 : Option Addr) (c0_8 : Nat) (l0_8 : List (S28)) (a0_9 : Int) (A0_10 : Option Addr) (c0_10 : Nat) (l0_10 : List Int) (r : Bool) (w : World) (hr0_8 : Kd.C k28 w A0_8 l0_8.length l0_8) (hc0_8 : l0_8.length ≤ c0_8) (hr0_10 : Kd.C (Kd.int .i64) w A0_10 l0_10.length l0_10) (hc0_10 : l0_10.length ≤ c0_10) (h : vinculumref28_Valid.f k a0_0 a0_1 a0_2 a0_3 a0_4 a0_5 a0_6 a0_7 l0_8 a0_9 l0_10 = some r) :
    Calls Try.prog 24 #[.agg #[.int .i64 a0_0, .string a0_1, .int .i64 a0_2, .int .i64 a0_3, .int .i64 a0_4, .int .i64 a0_5, .int .i64 a0_6, .int .i64 a0_7, .slice A0_8 l0_8.length c0_8, .int .i64 a0_9, .slice A0_10 l0_10.length c0_10]] w fun e w' => e = .returned (.bool r) ∧ Below w.heap.size w w' := by
  have hu28 := Try.underlying28
  have HR0_8 := Aside0.mk hr0_8
  have HC0_8 := Aside0.mk hc0_8
  clear hr0_8 hc0_8
  have HR0_10 := Aside0.mk hr0_10
  have HC0_10 := Aside0.mk hc0_10
  clear hr0_10 hc0_10
  have HB := Aside0.mk (Below.refl w.heap.size w)
  have H : ((vinculumref28_proper.f k a0_0 a0_1 a0_2 a0_3 a0_4 a0_5 a0_6 a0_7 l0_8 a0_9 l0_10).bind fun t225 => (if t225 = true then ((vinculumref28_Count.f k a0_0 a0_1 a0_2 a0_3 a0_4 a0_5 a0_6 a0_7 l0_8 a0_9 l0_10).bind fun t226 => (if t226 ≤ 20000 then ((vinculumref28_Nested.f k a0_0 a0_1 a0_2 a0_3 a0_4 a0_5 a0_6 a0_7 l0_8 a0_9 l0_10).bind fun t227 => (some (decide (t227 ≤ 100)))) else (some false))) else (some false))) = some r := h
  clear h
  replace H := Option.bind_eq_some_iff.mp H
  obtain ⟨t225, A20, H⟩ := H
  replace H : (if t225 = true then ((vinculumref28_Count.f k a0_0 a0_1 a0_2 a0_3 a0_4 a0_5 a0_6 a0_7 l0_8 a0_9 l0_10).bind fun t226 => (if t226 ≤ 20000 then ((vinculumref28_Nested.f k a0_0 a0_1 a0_2 a0_3 a0_4 a0_5 a0_6 a0_7 l0_8 a0_9 l0_10).bind fun t227 => (some (decide (t227 ≤ 100)))) else (some false))) else (some false)) = some r := H
  have A2 := Aside0.mk A20
  clear A20
  by_cases c3 : t225 = true
  · subst c3
    have H1 : ((vinculumref28_Count.f k a0_0 a0_1 a0_2 a0_3 a0_4 a0_5 a0_6 a0_7 l0_8 a0_9 l0_10).bind fun t226 => (if t226 ≤ 20000 then ((vinculumref28_Nested.f k a0_0 a0_1 a0_2 a0_3 a0_4 a0_5 a0_6 a0_7 l0_8 a0_9 l0_10).bind fun t227 => (some (decide (t227 ≤ 100)))) else (some false))) = some r := by rw [if_pos rfl] at H; exact H
    clear H
    have H := H1
    clear H1
    replace H := Option.bind_eq_some_iff.mp H
    obtain ⟨t226, A40, H⟩ := H
    replace H : (if t226 ≤ 20000 then ((vinculumref28_Nested.f k a0_0 a0_1 a0_2 a0_3 a0_4 a0_5 a0_6 a0_7 l0_8 a0_9 l0_10).bind fun t227 => (some (decide (t227 ≤ 100)))) else (some false)) = some r := H
    have A4 := Aside0.mk A40
    clear A40
    by_cases c5 : t226 ≤ 20000
    · rw [if_pos c5] at H
      have c5b0 : decide (t226 ≤ 20000) = true := decide_eq_true c5
      clear c5
      replace H := Option.bind_eq_some_iff.mp H
      obtain ⟨t227, A60, H⟩ := H
      replace H : (some (decide (t227 ≤ 100))) = some r := H
      have A6 := Aside0.mk A60
      clear A60
      obtain rfl := Option.some.inj H
      go_enter Try.func24, Try.ntmps24
      go_wp2_with (first | ((with_reducible refine gate_dst (N := 1) rfl ?_); refine box_event ?hg (N := 1) ?hd (cs := #[.int .i64 a0_0, .string a0_1, .int .i64 a0_2, .int .i64 a0_3, .int .i64 a0_4, .int .i64 a0_5, .int .i64 a0_6, .int .i64 a0_7, .slice A0_8 l0_8.length c0_8, .int .i64 a0_9, .slice A0_10 l0_10.length c0_10]) (t := 28) ?hr ?_; (case hd => rfl); (case hg => rfl); (case hr => first | (go_simp; done) | (go_simp; rfl)); intro gb224 hg w7 hbox hb; have n0_ := Aside0.mk (below_step (by repeat (first | (with_reducible first | exact HB.out | apply below_alloc | apply pw_below_drewN | apply below_drew1) | exact HB.out)) hb); have n1_ := Aside0.mk (hbox); have n2_ := Aside0.mk ((by rw [hg]; exact (below_size (by repeat (first | (with_reducible first | exact HB.out | apply below_alloc | apply pw_below_drewN | apply below_drew1) | exact HB.out))) : w.heap.size ≤ gb224)); have n3_ := Aside0.mk ((by rw [hg]; exact (below_size (by repeat (first | (with_reducible first | exact HB.out | apply below_alloc | apply pw_below_drewN | apply below_drew1) | exact HB.out))) : w.heap.size ≤ gb224)); clear HB; have HB := n0_; have BK224 := n1_; have GW224 := n2_; have GE224 := n3_; clear n0_ n1_ n2_ n3_; clear hb hbox hg; have hcz8_0 : w7.cell? ⟨gb224, 0, none⟩ = some (.int .i64 a0_0) := (blk_cell BK224.out 0).trans rfl; have hcz8_1 : w7.cell? ⟨gb224, 1, none⟩ = some (.string a0_1) := (blk_cell BK224.out 1).trans rfl; have hcz8_2 : w7.cell? ⟨gb224, 2, none⟩ = some (.int .i64 a0_2) := (blk_cell BK224.out 2).trans rfl; have hcz8_3 : w7.cell? ⟨gb224, 3, none⟩ = some (.int .i64 a0_3) := (blk_cell BK224.out 3).trans rfl; have hcz8_4 : w7.cell? ⟨gb224, 4, none⟩ = some (.int .i64 a0_4) := (blk_cell BK224.out 4).trans rfl; have hcz8_5 : w7.cell? ⟨gb224, 5, none⟩ = some (.int .i64 a0_5) := (blk_cell BK224.out 5).trans rfl; have hcz8_6 : w7.cell? ⟨gb224, 6, none⟩ = some (.int .i64 a0_6) := (blk_cell BK224.out 6).trans rfl; have hcz8_7 : w7.cell? ⟨gb224, 7, none⟩ = some (.int .i64 a0_7) := (blk_cell BK224.out 7).trans rfl; have hcz8_8 : w7.cell? ⟨gb224, 8, none⟩ = some (.slice A0_8 l0_8.length c0_8) := (blk_cell BK224.out 8).trans rfl; have hcz8_9 : w7.cell? ⟨gb224, 9, none⟩ = some (.int .i64 a0_9) := (blk_cell BK224.out 9).trans rfl; have hcz8_10 : w7.cell? ⟨gb224, 10, none⟩ = some (.slice A0_10 l0_10.length c0_10) := (blk_cell BK224.out 10).trans rfl; have hfz8_0 := blk_frozen BK224.out 0; have hfz8_1 := blk_frozen BK224.out 1; have hfz8_2 := blk_frozen BK224.out 2; have hfz8_3 := blk_frozen BK224.out 3; have hfz8_4 := blk_frozen BK224.out 4; have hfz8_5 := blk_frozen BK224.out 5; have hfz8_6 := blk_frozen BK224.out 6; have hfz8_7 := blk_frozen BK224.out 7; have hfz8_8 := blk_frozen BK224.out 8; have hfz8_9 := blk_frozen BK224.out 9; have hfz8_10 := blk_frozen BK224.out 10) | ((with_reducible refine gate_callee (f := 46) rfl ?_); refine goesL_ (some 4) rfl rfl Try.func46 (by kernel_rfl) rfl #[.agg #[.int .i64 a0_0, .string a0_1, .int .i64 a0_2, .int .i64 a0_3, .int .i64 a0_4, .int .i64 a0_5, .int .i64 a0_6, .int .i64 a0_7, .slice A0_8 l0_8.length c0_8, .int .i64 a0_9, .slice A0_10 l0_10.length c0_10]] rfl (by (try simp only [List.map_toArray, List.map_cons, List.map_nil]); first | done | rfl | (simp only [List.length_drop, List.length_take]; rfl)) ?_; (with_reducible refine (vinculumref28_proper.calls k a0_0 a0_1 a0_2 a0_3 a0_4 a0_5 a0_6 a0_7 _ _ l0_8 a0_9 _ _ l0_10 true _ ?side1 ?side2 ?side3 ?side4 A2.out).mono ?_); (case side1 => repeat (first | exact (Kd.C_below HR0_8.out HB.out) | (with_reducible refine Kd.C_alloc ?_ _) | (with_reducible refine Kd.C_drewN ?_ _) | (with_reducible refine Kd.C_drew ?_))); (case side2 => exact HC0_8.out); (case side3 => repeat (first | exact (Kd.C_below HR0_10.out HB.out) | (with_reducible refine Kd.C_alloc ?_ _) | (with_reducible refine Kd.C_drewN ?_ _) | (with_reducible refine Kd.C_drew ?_))); (case side4 => exact HC0_10.out); rintro e w9 ⟨rfl, hb⟩; refine ⟨_, rfl, ?_⟩; have n0_ := Aside0.mk (blk_below (g := gb224) (o := .cells #[.int .i64 a0_0, .string a0_1, .int .i64 a0_2, .int .i64 a0_3, .int .i64 a0_4, .int .i64 a0_5, .int .i64 a0_6, .int .i64 a0_7, .slice A0_8 l0_8.length c0_8, .int .i64 a0_9, .slice A0_10 l0_10.length c0_10] 28 (0, 0)) (by (with_reducible repeat (first | refine blk_drewN ?_ _ | refine blk_drew ?_ | refine blk_alloc ?_ _)); exact BK224.out) hb); have n1_ := Aside0.mk (below_step (by repeat (first | (with_reducible first | exact HB.out | apply below_alloc | apply pw_below_drewN | apply below_drew1 | refine below_set ?_ GE224.out) | exact HB.out)) hb); clear BK224; clear HB; have BK224 := n0_; have HB := n1_; clear n0_ n1_; (try clear hb); (try clear hb2); (try clear hk); (try clear hi); have hcz10_0 : w9.cell? ⟨gb224, 0, none⟩ = some (.int .i64 a0_0) := (blk_cell BK224.out 0).trans rfl; have hcz10_1 : w9.cell? ⟨gb224, 1, none⟩ = some (.string a0_1) := (blk_cell BK224.out 1).trans rfl; have hcz10_2 : w9.cell? ⟨gb224, 2, none⟩ = some (.int .i64 a0_2) := (blk_cell BK224.out 2).trans rfl; have hcz10_3 : w9.cell? ⟨gb224, 3, none⟩ = some (.int .i64 a0_3) := (blk_cell BK224.out 3).trans rfl; have hcz10_4 : w9.cell? ⟨gb224, 4, none⟩ = some (.int .i64 a0_4) := (blk_cell BK224.out 4).trans rfl; have hcz10_5 : w9.cell? ⟨gb224, 5, none⟩ = some (.int .i64 a0_5) := (blk_cell BK224.out 5).trans rfl; have hcz10_6 : w9.cell? ⟨gb224, 6, none⟩ = some (.int .i64 a0_6) := (blk_cell BK224.out 6).trans rfl; have hcz10_7 : w9.cell? ⟨gb224, 7, none⟩ = some (.int .i64 a0_7) := (blk_cell BK224.out 7).trans rfl; have hcz10_8 : w9.cell? ⟨gb224, 8, none⟩ = some (.slice A0_8 l0_8.length c0_8) := (blk_cell BK224.out 8).trans rfl; have hcz10_9 : w9.cell? ⟨gb224, 9, none⟩ = some (.int .i64 a0_9) := (blk_cell BK224.out 9).trans rfl; have hcz10_10 : w9.cell? ⟨gb224, 10, none⟩ = some (.slice A0_10 l0_10.length c0_10) := (blk_cell BK224.out 10).trans rfl; have hfz10_0 := blk_frozen BK224.out 0; have hfz10_1 := blk_frozen BK224.out 1; have hfz10_2 := blk_frozen BK224.out 2; have hfz10_3 := blk_frozen BK224.out 3; have hfz10_4 := blk_frozen BK224.out 4; have hfz10_5 := blk_frozen BK224.out 5; have hfz10_6 := blk_frozen BK224.out 6; have hfz10_7 := blk_frozen BK224.out 7; have hfz10_8 := blk_frozen BK224.out 8; have hfz10_9 := blk_frozen BK224.out 9; have hfz10_10 := blk_frozen BK224.out 10) | (go_at_call 30; (with_reducible refine (vinculumref28_Count.calls k a0_0 a0_1 a0_2 a0_3 a0_4 a0_5 a0_6 a0_7 _ _ l0_8 a0_9 _ _ l0_10 t226 _ ?side1 ?side2 ?side3 ?side4 A4.out).mono ?_); (case side1 => repeat (first | exact (Kd.C_below HR0_8.out HB.out) | (with_reducible refine Kd.C_alloc ?_ _) | (with_reducible refine Kd.C_drewN ?_ _) | (with_reducible refine Kd.C_drew ?_))); (case side2 => exact HC0_8.out); (case side3 => repeat (first | exact (Kd.C_below HR0_10.out HB.out) | (with_reducible refine Kd.C_alloc ?_ _) | (with_reducible refine Kd.C_drewN ?_ _) | (with_reducible refine Kd.C_drew ?_))); (case side4 => exact HC0_10.out); rintro e w11 ⟨rfl, hb⟩; have n0_ := Aside0.mk (blk_below (g := gb224) (o := .cells #[.int .i64 a0_0, .string a0_1, .int .i64 a0_2, .int .i64 a0_3, .int .i64 a0_4, .int .i64 a0_5, .int .i64 a0_6, .int .i64 a0_7, .slice A0_8 l0_8.length c0_8, .int .i64 a0_9, .slice A0_10 l0_10.length c0_10] 28 (0, 0)) (by (with_reducible repeat (first | refine blk_drewN ?_ _ | refine blk_drew ?_ | refine blk_alloc ?_ _)); exact BK224.out) hb); have n1_ := Aside0.mk (below_step (by repeat (first | (with_reducible first | exact HB.out | apply below_alloc | apply pw_below_drewN | apply below_drew1 | refine below_set ?_ GE224.out) | exact HB.out)) hb); clear BK224; clear HB; have BK224 := n0_; have HB := n1_; clear n0_ n1_; (try clear hb); (try clear hb2); (try clear hk); (try clear hi); have hcz12_0 : w11.cell? ⟨gb224, 0, none⟩ = some (.int .i64 a0_0) := (blk_cell BK224.out 0).trans rfl; have hcz12_1 : w11.cell? ⟨gb224, 1, none⟩ = some (.string a0_1) := (blk_cell BK224.out 1).trans rfl; have hcz12_2 : w11.cell? ⟨gb224, 2, none⟩ = some (.int .i64 a0_2) := (blk_cell BK224.out 2).trans rfl; have hcz12_3 : w11.cell? ⟨gb224, 3, none⟩ = some (.int .i64 a0_3) := (blk_cell BK224.out 3).trans rfl; have hcz12_4 : w11.cell? ⟨gb224, 4, none⟩ = some (.int .i64 a0_4) := (blk_cell BK224.out 4).trans rfl; have hcz12_5 : w11.cell? ⟨gb224, 5, none⟩ = some (.int .i64 a0_5) := (blk_cell BK224.out 5).trans rfl; have hcz12_6 : w11.cell? ⟨gb224, 6, none⟩ = some (.int .i64 a0_6) := (blk_cell BK224.out 6).trans rfl; have hcz12_7 : w11.cell? ⟨gb224, 7, none⟩ = some (.int .i64 a0_7) := (blk_cell BK224.out 7).trans rfl; have hcz12_8 : w11.cell? ⟨gb224, 8, none⟩ = some (.slice A0_8 l0_8.length c0_8) := (blk_cell BK224.out 8).trans rfl; have hcz12_9 : w11.cell? ⟨gb224, 9, none⟩ = some (.int .i64 a0_9) := (blk_cell BK224.out 9).trans rfl; have hcz12_10 : w11.cell? ⟨gb224, 10, none⟩ = some (.slice A0_10 l0_10.length c0_10) := (blk_cell BK224.out 10).trans rfl; have hfz12_0 := blk_frozen BK224.out 0; have hfz12_1 := blk_frozen BK224.out 1; have hfz12_2 := blk_frozen BK224.out 2; have hfz12_3 := blk_frozen BK224.out 3; have hfz12_4 := blk_frozen BK224.out 4; have hfz12_5 := blk_frozen BK224.out 5; have hfz12_6 := blk_frozen BK224.out 6; have hfz12_7 := blk_frozen BK224.out 7; have hfz12_8 := blk_frozen BK224.out 8; have hfz12_9 := blk_frozen BK224.out 9; have hfz12_10 := blk_frozen BK224.out 10) | (go_at_call 47; (with_reducible refine (vinculumref28_Nested.calls k a0_0 a0_1 a0_2 a0_3 a0_4 a0_5 a0_6 a0_7 _ _ l0_8 a0_9 _ _ l0_10 t227 _ ?side1 ?side2 ?side3 ?side4 A6.out).mono ?_); (case side1 => repeat (first | exact (Kd.C_below HR0_8.out HB.out) | (with_reducible refine Kd.C_alloc ?_ _) | (with_reducible refine Kd.C_drewN ?_ _) | (with_reducible refine Kd.C_drew ?_))); (case side2 => exact HC0_8.out); (case side3 => repeat (first | exact (Kd.C_below HR0_10.out HB.out) | (with_reducible refine Kd.C_alloc ?_ _) | (with_reducible refine Kd.C_drewN ?_ _) | (with_reducible refine Kd.C_drew ?_))); (case side4 => exact HC0_10.out); rintro e w13 ⟨rfl, hb⟩; have n0_ := Aside0.mk (blk_below (g := gb224) (o := .cells #[.int .i64 a0_0, .string a0_1, .int .i64 a0_2, .int .i64 a0_3, .int .i64 a0_4, .int .i64 a0_5, .int .i64 a0_6, .int .i64 a0_7, .slice A0_8 l0_8.length c0_8, .int .i64 a0_9, .slice A0_10 l0_10.length c0_10] 28 (0, 0)) (by (with_reducible repeat (first | refine blk_drewN ?_ _ | refine blk_drew ?_ | refine blk_alloc ?_ _)); exact BK224.out) hb); have n1_ := Aside0.mk (below_step (by repeat (first | (with_reducible first | exact HB.out | apply below_alloc | apply pw_below_drewN | apply below_drew1 | refine below_set ?_ GE224.out) | exact HB.out)) hb); clear BK224; clear HB; have BK224 := n0_; have HB := n1_; clear n0_ n1_; (try clear hb); (try clear hb2); (try clear hk); (try clear hi)))
      go_ret
      exact ⟨by first | rfl | (simp [errW_none, errW_some] <;> rfl) | (simp [*, errW_none, errW_some] <;> rfl), by repeat (first | (with_reducible first | exact HB.out | apply below_alloc | apply pw_below_drewN | apply below_drew1 | refine below_set ?_ GE224.out) | exact HB.out)⟩
    · rw [if_neg c5] at H
      have c5b0 : decide (t226 ≤ 20000) = false := decide_eq_false c5
      clear c5
      obtain rfl := Option.some.inj H
      go_enter Try.func24, Try.ntmps24
      go_wp2_with (first | ((with_reducible refine gate_dst (N := 1) rfl ?_); refine box_event ?hg (N := 1) ?hd (cs := #[.int .i64 a0_0, .string a0_1, .int .i64 a0_2, .int .i64 a0_3, .int .i64 a0_4, .int .i64 a0_5, .int .i64 a0_6, .int .i64 a0_7, .slice A0_8 l0_8.length c0_8, .int .i64 a0_9, .slice A0_10 l0_10.length c0_10]) (t := 28) ?hr ?_; (case hd => rfl); (case hg => rfl); (case hr => first | (go_simp; done) | (go_simp; rfl)); intro gb224 hg w14 hbox hb; have n0_ := Aside0.mk (below_step (by repeat (first | (with_reducible first | exact HB.out | apply below_alloc | apply pw_below_drewN | apply below_drew1) | exact HB.out)) hb); have n1_ := Aside0.mk (hbox); have n2_ := Aside0.mk ((by rw [hg]; exact (below_size (by repeat (first | (with_reducible first | exact HB.out | apply below_alloc | apply pw_below_drewN | apply below_drew1) | exact HB.out))) : w.heap.size ≤ gb224)); have n3_ := Aside0.mk ((by rw [hg]; exact (below_size (by repeat (first | (with_reducible first | exact HB.out | apply below_alloc | apply pw_below_drewN | apply below_drew1) | exact HB.out))) : w.heap.size ≤ gb224)); clear HB; have HB := n0_; have BK224 := n1_; have GW224 := n2_; have GE224 := n3_; clear n0_ n1_ n2_ n3_; clear hb hbox hg; have hcz15_0 : w14.cell? ⟨gb224, 0, none⟩ = some (.int .i64 a0_0) := (blk_cell BK224.out 0).trans rfl; have hcz15_1 : w14.cell? ⟨gb224, 1, none⟩ = some (.string a0_1) := (blk_cell BK224.out 1).trans rfl; have hcz15_2 : w14.cell? ⟨gb224, 2, none⟩ = some (.int .i64 a0_2) := (blk_cell BK224.out 2).trans rfl; have hcz15_3 : w14.cell? ⟨gb224, 3, none⟩ = some (.int .i64 a0_3) := (blk_cell BK224.out 3).trans rfl; have hcz15_4 : w14.cell? ⟨gb224, 4, none⟩ = some (.int .i64 a0_4) := (blk_cell BK224.out 4).trans rfl; have hcz15_5 : w14.cell? ⟨gb224, 5, none⟩ = some (.int .i64 a0_5) := (blk_cell BK224.out 5).trans rfl; have hcz15_6 : w14.cell? ⟨gb224, 6, none⟩ = some (.int .i64 a0_6) := (blk_cell BK224.out 6).trans rfl; have hcz15_7 : w14.cell? ⟨gb224, 7, none⟩ = some (.int .i64 a0_7) := (blk_cell BK224.out 7).trans rfl; have hcz15_8 : w14.cell? ⟨gb224, 8, none⟩ = some (.slice A0_8 l0_8.length c0_8) := (blk_cell BK224.out 8).trans rfl; have hcz15_9 : w14.cell? ⟨gb224, 9, none⟩ = some (.int .i64 a0_9) := (blk_cell BK224.out 9).trans rfl; have hcz15_10 : w14.cell? ⟨gb224, 10, none⟩ = some (.slice A0_10 l0_10.length c0_10) := (blk_cell BK224.out 10).trans rfl; have hfz15_0 := blk_frozen BK224.out 0; have hfz15_1 := blk_frozen BK224.out 1; have hfz15_2 := blk_frozen BK224.out 2; have hfz15_3 := blk_frozen BK224.out 3; have hfz15_4 := blk_frozen BK224.out 4; have hfz15_5 := blk_frozen BK224.out 5; have hfz15_6 := blk_frozen BK224.out 6; have hfz15_7 := blk_frozen BK224.out 7; have hfz15_8 := blk_frozen BK224.out 8; have hfz15_9 := blk_frozen BK224.out 9; have hfz15_10 := blk_frozen BK224.out 10) | ((with_reducible refine gate_callee (f := 46) rfl ?_); refine goesL_ (some 4) rfl rfl Try.func46 (by kernel_rfl) rfl #[.agg #[.int .i64 a0_0, .string a0_1, .int .i64 a0_2, .int .i64 a0_3, .int .i64 a0_4, .int .i64 a0_5, .int .i64 a0_6, .int .i64 a0_7, .slice A0_8 l0_8.length c0_8, .int .i64 a0_9, .slice A0_10 l0_10.length c0_10]] rfl (by (try simp only [List.map_toArray, List.map_cons, List.map_nil]); first | done | rfl | (simp only [List.length_drop, List.length_take]; rfl)) ?_; (with_reducible refine (vinculumref28_proper.calls k a0_0 a0_1 a0_2 a0_3 a0_4 a0_5 a0_6 a0_7 _ _ l0_8 a0_9 _ _ l0_10 true _ ?side1 ?side2 ?side3 ?side4 A2.out).mono ?_); (case side1 => repeat (first | exact (Kd.C_below HR0_8.out HB.out) | (with_reducible refine Kd.C_alloc ?_ _) | (with_reducible refine Kd.C_drewN ?_ _) | (with_reducible refine Kd.C_drew ?_))); (case side2 => exact HC0_8.out); (case side3 => repeat (first | exact (Kd.C_below HR0_10.out HB.out) | (with_reducible refine Kd.C_alloc ?_ _) | (with_reducible refine Kd.C_drewN ?_ _) | (with_reducible refine Kd.C_drew ?_))); (case side4 => exact HC0_10.out); rintro e w16 ⟨rfl, hb⟩; refine ⟨_, rfl, ?_⟩; have n0_ := Aside0.mk (blk_below (g := gb224) (o := .cells #[.int .i64 a0_0, .string a0_1, .int .i64 a0_2, .int .i64 a0_3, .int .i64 a0_4, .int .i64 a0_5, .int .i64 a0_6, .int .i64 a0_7, .slice A0_8 l0_8.length c0_8, .int .i64 a0_9, .slice A0_10 l0_10.length c0_10] 28 (0, 0)) (by (with_reducible repeat (first | refine blk_drewN ?_ _ | refine blk_drew ?_ | refine blk_alloc ?_ _)); exact BK224.out) hb); have n1_ := Aside0.mk (below_step (by repeat (first | (with_reducible first | exact HB.out | apply below_alloc | apply pw_below_drewN | apply below_drew1 | refine below_set ?_ GE224.out) | exact HB.out)) hb); clear BK224; clear HB; have BK224 := n0_; have HB := n1_; clear n0_ n1_; (try clear hb); (try clear hb2); (try clear hk); (try clear hi); have hcz17_0 : w16.cell? ⟨gb224, 0, none⟩ = some (.int .i64 a0_0) := (blk_cell BK224.out 0).trans rfl; have hcz17_1 : w16.cell? ⟨gb224, 1, none⟩ = some (.string a0_1) := (blk_cell BK224.out 1).trans rfl; have hcz17_2 : w16.cell? ⟨gb224, 2, none⟩ = some (.int .i64 a0_2) := (blk_cell BK224.out 2).trans rfl; have hcz17_3 : w16.cell? ⟨gb224, 3, none⟩ = some (.int .i64 a0_3) := (blk_cell BK224.out 3).trans rfl; have hcz17_4 : w16.cell? ⟨gb224, 4, none⟩ = some (.int .i64 a0_4) := (blk_cell BK224.out 4).trans rfl; have hcz17_5 : w16.cell? ⟨gb224, 5, none⟩ = some (.int .i64 a0_5) := (blk_cell BK224.out 5).trans rfl; have hcz17_6 : w16.cell? ⟨gb224, 6, none⟩ = some (.int .i64 a0_6) := (blk_cell BK224.out 6).trans rfl; have hcz17_7 : w16.cell? ⟨gb224, 7, none⟩ = some (.int .i64 a0_7) := (blk_cell BK224.out 7).trans rfl; have hcz17_8 : w16.cell? ⟨gb224, 8, none⟩ = some (.slice A0_8 l0_8.length c0_8) := (blk_cell BK224.out 8).trans rfl; have hcz17_9 : w16.cell? ⟨gb224, 9, none⟩ = some (.int .i64 a0_9) := (blk_cell BK224.out 9).trans rfl; have hcz17_10 : w16.cell? ⟨gb224, 10, none⟩ = some (.slice A0_10 l0_10.length c0_10) := (blk_cell BK224.out 10).trans rfl; have hfz17_0 := blk_frozen BK224.out 0; have hfz17_1 := blk_frozen BK224.out 1; have hfz17_2 := blk_frozen BK224.out 2; have hfz17_3 := blk_frozen BK224.out 3; have hfz17_4 := blk_frozen BK224.out 4; have hfz17_5 := blk_frozen BK224.out 5; have hfz17_6 := blk_frozen BK224.out 6; have hfz17_7 := blk_frozen BK224.out 7; have hfz17_8 := blk_frozen BK224.out 8; have hfz17_9 := blk_frozen BK224.out 9; have hfz17_10 := blk_frozen BK224.out 10) | (go_at_call 30; (with_reducible refine (vinculumref28_Count.calls k a0_0 a0_1 a0_2 a0_3 a0_4 a0_5 a0_6 a0_7 _ _ l0_8 a0_9 _ _ l0_10 t226 _ ?side1 ?side2 ?side3 ?side4 A4.out).mono ?_); (case side1 => repeat (first | exact (Kd.C_below HR0_8.out HB.out) | (with_reducible refine Kd.C_alloc ?_ _) | (with_reducible refine Kd.C_drewN ?_ _) | (with_reducible refine Kd.C_drew ?_))); (case side2 => exact HC0_8.out); (case side3 => repeat (first | exact (Kd.C_below HR0_10.out HB.out) | (with_reducible refine Kd.C_alloc ?_ _) | (with_reducible refine Kd.C_drewN ?_ _) | (with_reducible refine Kd.C_drew ?_))); (case side4 => exact HC0_10.out); rintro e w18 ⟨rfl, hb⟩; have n0_ := Aside0.mk (blk_below (g := gb224) (o := .cells #[.int .i64 a0_0, .string a0_1, .int .i64 a0_2, .int .i64 a0_3, .int .i64 a0_4, .int .i64 a0_5, .int .i64 a0_6, .int .i64 a0_7, .slice A0_8 l0_8.length c0_8, .int .i64 a0_9, .slice A0_10 l0_10.length c0_10] 28 (0, 0)) (by (with_reducible repeat (first | refine blk_drewN ?_ _ | refine blk_drew ?_ | refine blk_alloc ?_ _)); exact BK224.out) hb); have n1_ := Aside0.mk (below_step (by repeat (first | (with_reducible first | exact HB.out | apply below_alloc | apply pw_below_drewN | apply below_drew1 | refine below_set ?_ GE224.out) | exact HB.out)) hb); clear BK224; clear HB; have BK224 := n0_; have HB := n1_; clear n0_ n1_; (try clear hb); (try clear hb2); (try clear hk); (try clear hi)))
      go_ret
      exact ⟨by first | rfl | (simp [errW_none, errW_some] <;> rfl) | (simp [*, errW_none, errW_some] <;> rfl), by repeat (first | (with_reducible first | exact HB.out | apply below_alloc | apply pw_below_drewN | apply below_drew1 | refine below_set ?_ GE224.out) | exact HB.out)⟩
  · replace c3 := Bool.eq_false_iff.mpr c3
    subst c3
    have H1 : (some false) = some r := by rw [if_neg (show ¬ (false = true) by decide)] at H; exact H
    clear H
    have H := H1
    clear H1
    obtain rfl := Option.some.inj H
    go_enter Try.func24, Try.ntmps24
    go_wp2_with (first | ((with_reducible refine gate_dst (N := 1) rfl ?_); refine box_event ?hg (N := 1) ?hd (cs := #[.int .i64 a0_0, .string a0_1, .int .i64 a0_2, .int .i64 a0_3, .int .i64 a0_4, .int .i64 a0_5, .int .i64 a0_6, .int .i64 a0_7, .slice A0_8 l0_8.length c0_8, .int .i64 a0_9, .slice A0_10 l0_10.length c0_10]) (t := 28) ?hr ?_; (case hd => rfl); (case hg => rfl); (case hr => first | (go_simp; done) | (go_simp; rfl)); intro gb224 hg w19 hbox hb; have n0_ := Aside0.mk (below_step (by repeat (first | (with_reducible first | exact HB.out | apply below_alloc | apply pw_below_drewN | apply below_drew1) | exact HB.out)) hb); have n1_ := Aside0.mk (hbox); have n2_ := Aside0.mk ((by rw [hg]; exact (below_size (by repeat (first | (with_reducible first | exact HB.out | apply below_alloc | apply pw_below_drewN | apply below_drew1) | exact HB.out))) : w.heap.size ≤ gb224)); have n3_ := Aside0.mk ((by rw [hg]; exact (below_size (by repeat (first | (with_reducible first | exact HB.out | apply below_alloc | apply pw_below_drewN | apply below_drew1) | exact HB.out))) : w.heap.size ≤ gb224)); clear HB; have HB := n0_; have BK224 := n1_; have GW224 := n2_; have GE224 := n3_; clear n0_ n1_ n2_ n3_; clear hb hbox hg; have hcz20_0 : w19.cell? ⟨gb224, 0, none⟩ = some (.int .i64 a0_0) := (blk_cell BK224.out 0).trans rfl; have hcz20_1 : w19.cell? ⟨gb224, 1, none⟩ = some (.string a0_1) := (blk_cell BK224.out 1).trans rfl; have hcz20_2 : w19.cell? ⟨gb224, 2, none⟩ = some (.int .i64 a0_2) := (blk_cell BK224.out 2).trans rfl; have hcz20_3 : w19.cell? ⟨gb224, 3, none⟩ = some (.int .i64 a0_3) := (blk_cell BK224.out 3).trans rfl; have hcz20_4 : w19.cell? ⟨gb224, 4, none⟩ = some (.int .i64 a0_4) := (blk_cell BK224.out 4).trans rfl; have hcz20_5 : w19.cell? ⟨gb224, 5, none⟩ = some (.int .i64 a0_5) := (blk_cell BK224.out 5).trans rfl; have hcz20_6 : w19.cell? ⟨gb224, 6, none⟩ = some (.int .i64 a0_6) := (blk_cell BK224.out 6).trans rfl; have hcz20_7 : w19.cell? ⟨gb224, 7, none⟩ = some (.int .i64 a0_7) := (blk_cell BK224.out 7).trans rfl; have hcz20_8 : w19.cell? ⟨gb224, 8, none⟩ = some (.slice A0_8 l0_8.length c0_8) := (blk_cell BK224.out 8).trans rfl; have hcz20_9 : w19.cell? ⟨gb224, 9, none⟩ = some (.int .i64 a0_9) := (blk_cell BK224.out 9).trans rfl; have hcz20_10 : w19.cell? ⟨gb224, 10, none⟩ = some (.slice A0_10 l0_10.length c0_10) := (blk_cell BK224.out 10).trans rfl; have hfz20_0 := blk_frozen BK224.out 0; have hfz20_1 := blk_frozen BK224.out 1; have hfz20_2 := blk_frozen BK224.out 2; have hfz20_3 := blk_frozen BK224.out 3; have hfz20_4 := blk_frozen BK224.out 4; have hfz20_5 := blk_frozen BK224.out 5; have hfz20_6 := blk_frozen BK224.out 6; have hfz20_7 := blk_frozen BK224.out 7; have hfz20_8 := blk_frozen BK224.out 8; have hfz20_9 := blk_frozen BK224.out 9; have hfz20_10 := blk_frozen BK224.out 10) | ((with_reducible refine gate_callee (f := 46) rfl ?_); refine goesL_ (some 4) rfl rfl Try.func46 (by kernel_rfl) rfl #[.agg #[.int .i64 a0_0, .string a0_1, .int .i64 a0_2, .int .i64 a0_3, .int .i64 a0_4, .int .i64 a0_5, .int .i64 a0_6, .int .i64 a0_7, .slice A0_8 l0_8.length c0_8, .int .i64 a0_9, .slice A0_10 l0_10.length c0_10]] rfl (by (try simp only [List.map_toArray, List.map_cons, List.map_nil]); first | done | rfl | (simp only [List.length_drop, List.length_take]; rfl)) ?_; (with_reducible refine (vinculumref28_proper.calls k a0_0 a0_1 a0_2 a0_3 a0_4 a0_5 a0_6 a0_7 _ _ l0_8 a0_9 _ _ l0_10 false _ ?side1 ?side2 ?side3 ?side4 A2.out).mono ?_); (case side1 => repeat (first | exact (Kd.C_below HR0_8.out HB.out) | (with_reducible refine Kd.C_alloc ?_ _) | (with_reducible refine Kd.C_drewN ?_ _) | (with_reducible refine Kd.C_drew ?_))); (case side2 => exact HC0_8.out); (case side3 => repeat (first | exact (Kd.C_below HR0_10.out HB.out) | (with_reducible refine Kd.C_alloc ?_ _) | (with_reducible refine Kd.C_drewN ?_ _) | (with_reducible refine Kd.C_drew ?_))); (case side4 => exact HC0_10.out); rintro e w21 ⟨rfl, hb⟩; refine ⟨_, rfl, ?_⟩; have n0_ := Aside0.mk (blk_below (g := gb224) (o := .cells #[.int .i64 a0_0, .string a0_1, .int .i64 a0_2, .int .i64 a0_3, .int .i64 a0_4, .int .i64 a0_5, .int .i64 a0_6, .int .i64 a0_7, .slice A0_8 l0_8.length c0_8, .int .i64 a0_9, .slice A0_10 l0_10.length c0_10] 28 (0, 0)) (by (with_reducible repeat (first | refine blk_drewN ?_ _ | refine blk_drew ?_ | refine blk_alloc ?_ _)); exact BK224.out) hb); have n1_ := Aside0.mk (below_step (by repeat (first | (with_reducible first | exact HB.out | apply below_alloc | apply pw_below_drewN | apply below_drew1 | refine below_set ?_ GE224.out) | exact HB.out)) hb); clear BK224; clear HB; have BK224 := n0_; have HB := n1_; clear n0_ n1_; (try clear hb); (try clear hb2); (try clear hk); (try clear hi)))
    go_ret
    exact ⟨by first | rfl | (simp [errW_none, errW_some] <;> rfl) | (simp [*, errW_none, errW_some] <;> rfl), by repeat (first | (with_reducible first | exact HB.out | apply below_alloc | apply pw_below_drewN | apply below_drew1 | refine below_set ?_ GE224.out) | exact HB.out)⟩

-- NOT PRINTED: function 48 (box_visits)

-- NOT PRINTED: function 25 (box_Flat)

-- NOT PRINTED: function 4 (vinculumlaw28_BoxMoved)

/-! ### slices_Equal_int_int: function 49 -/
def slices_Equal_int_int.l0 : Nat → List Int → List Int → Int → Int → Option (Bool)
  | 0, _, _, _, _ => none
  | k + 1, x0, x1, x12, x13 => if x13 < x12 then (if 0 ≤ x13 then (if x13 < (x0.length : Int) then (if x13 < (x1.length : Int) then (if (rd x0 x13) = (rd x1 x13) then (slices_Equal_int_int.l0 k x0 x1 x12 (wrap64 (x13 + 1))) else (some false)) else (none)) else (none)) else (none)) else (some true)
def slices_Equal_int_int.f (k : Nat) (l0 : List Int) (l1 : List Int) : Option (Bool) := if (l0.length : Int) = (l1.length : Int) then (slices_Equal_int_int.l0 k l0 l1 (l0.length : Int) 0) else (some false)
theorem slices_Equal_int_int.mono_l : ∀ k, (∀ y0 y1 y2 y3, LeO (slices_Equal_int_int.l0 k y0 y1 y2 y3) (slices_Equal_int_int.l0 (k + 1) y0 y1 y2 y3))
  | 0 => fun _ _ _ _ r h => by simp [slices_Equal_int_int.l0] at h
  | k + 1 => by
    have ih0 := slices_Equal_int_int.mono_l k
    · intro y0 y1 y2 y3
      unfold slices_Equal_int_int.l0
      repeat' first
      | (with_reducible exact ih0 _ _ _ _)
      | (with_reducible exact LeO.refl _)
      | (with_reducible exact LeO.none _)
      | (with_reducible refine LeO.ite ?_ ?_)
      | (with_reducible refine LeO.bind ?_ (fun _ => ?_))
      | exact ih0 _ _ _ _
      | exact LeO.none _
      | refine LeO.ite ?_ ?_
      | refine LeO.bind ?_ (fun _ => ?_)
theorem slices_Equal_int_int.mono : ∀ a0 a1 k, LeO (slices_Equal_int_int.f k a0 a1) (slices_Equal_int_int.f (k + 1) a0 a1) := by
  intro a0 a1 k
  have ih0 := slices_Equal_int_int.mono_l k
  unfold slices_Equal_int_int.f
  repeat' first
      | (with_reducible exact ih0 _ _ _ _)
      | (with_reducible exact LeO.refl _)
      | (with_reducible exact LeO.none _)
      | (with_reducible refine LeO.ite ?_ ?_)
      | (with_reducible refine LeO.bind ?_ (fun _ => ?_))
      | exact ih0 _ _ _ _
      | exact LeO.none _
      | refine LeO.ite ?_ ?_
      | refine LeO.bind ?_ (fun _ => ?_)
set_option maxHeartbeats 8000000 in
set_option maxRecDepth 100000 in
theorem slices_Equal_int_int.calls (k : Nat) (A0 : Option Addr) (c0 : Nat) (l0 : List Int) (A1 : Option Addr) (c1 : Nat) (l1 : List Int) (r : Bool) (w : World) (hr0 : Kd.C (Kd.int .i64) w A0 l0.length l0) (hc0 : l0.length ≤ c0) (hr1 : Kd.C (Kd.int .i64) w A1 l1.length l1) (hc1 : l1.length ≤ c1) (h : slices_Equal_int_int.f k l0 l1 = some r) :
    Calls Try.prog 49 #[.slice A0 l0.length c0, .slice A1 l1.length c1] w fun e w' => e = .returned (.bool r) ∧ Drawn0 w w' := by
  have HR0 := Aside0.mk hr0
  have HC0 := Aside0.mk hc0
  clear hr0 hc0
  have HR1 := Aside0.mk hr1
  have HC1 := Aside0.mk hc1
  clear hr1 hc1
  have H : (if (l0.length : Int) = (l1.length : Int) then (slices_Equal_int_int.l0 k l0 l1 (l0.length : Int) 0) else (some false)) = some r := h
  clear h
  by_cases c3 : (l0.length : Int) = (l1.length : Int)
  · rw [if_pos c3] at H
    have c3b0 : ((l0.length : Int) == (l1.length : Int)) = true := beq_iff_eq.mpr c3
    have c3b1 : ((l0.length : Int) != (l1.length : Int)) = false := bne_eq_false_iff_eq.mpr c3
    have c3b2 : (l0.length == l1.length) = true := by first | simpa using c3 | (simp at c3 ⊢; omega)
    clear c3
    have H' := Aside0.mk H
    clear H
    go_enter Try.func49, Try.ntmps49
    go_wp2
    repeat (go_quiet (fail); try go_wp2)
    go_loopg [13] k (fun kq v13 w' => ∃ (x13_1 : Int), v13 = .int .i64 x13_1 ∧ Aside0 (slices_Equal_int_int.l0 kq l0 l1 (l0.length : Int) x13_1 = some r) ∧ Aside0 (kq ≤ k) ∧ Drawn0 w w')
    case atStart => exact ⟨(0), (by first | rfl | (simp; done) | (simp [*]; done)), H', ⟨Nat.le_refl _⟩, by repeat (first | exact Drawn0.refl _ | apply Drawn0.step)⟩
    case round =>
      clear H'
      try clear c1
      try clear p2
      try clear c3
      try clear c3b0
      try clear c3b1
      try clear c3b2
      obtain ⟨x13_1, rfl, HA, HK1, ⟨m1, rfl⟩⟩ := hrel
      cases gk with
      | zero => exact absurd HA.out (by simp [slices_Equal_int_int.l0])
      | succ k1 =>
        have H := HA.out
        clear HA
        simp only [slices_Equal_int_int.l0] at H
        by_cases c4 : x13_1 < (l0.length : Int)
        · rw [if_pos c4] at H
          have c4b0 : decide (x13_1 < (l0.length : Int)) = true := decide_eq_true c4
          clear c4
          by_cases c5 : 0 ≤ x13_1
          · rw [if_pos c5] at H
            have c5b0 : decide (0 ≤ x13_1) = true := decide_eq_true c5
            clear c5
            by_cases c6 : x13_1 < (l0.length : Int)
            · rw [if_pos c6] at H
              have c6b0 : decide (x13_1 < (l0.length : Int)) = true := decide_eq_true c6
              clear c6
              by_cases c7 : x13_1 < (l1.length : Int)
              · rw [if_pos c7] at H
                have c7b0 : decide (x13_1 < (l1.length : Int)) = true := decide_eq_true c7
                clear c7
                by_cases c8 : (rd l0 x13_1) = (rd l1 x13_1)
                · rw [if_pos c8] at H
                  have c8b0 : ((rd l0 x13_1) == (rd l1 x13_1)) = true := beq_iff_eq.mpr c8
                  have c8b1 : ((rd l0 x13_1) != (rd l1 x13_1)) = false := bne_eq_false_iff_eq.mpr c8
                  clear c8
                  have H' := Aside0.mk H
                  clear H
                  have p236 : 0 ≤ (x13_1 : Int) := of_decide_eq_true (by first | (with_reducible assumption) | assumption)
                  have q236 : x13_1 < (l0.length : Int) := of_decide_eq_true (by first | (with_reducible assumption) | assumption)
                  obtain ⟨ad236, e236, hx236_0⟩ := Kd.at_int HR0.out x13_1 p236 q236
                  cases e236
                  replace p236 := eq_true p236
                  replace q236 := eq_true q236
                  have p237 : 0 ≤ (x13_1 : Int) := of_decide_eq_true (by first | (with_reducible assumption) | assumption)
                  have q237 : x13_1 < (l1.length : Int) := of_decide_eq_true (by first | (with_reducible assumption) | assumption)
                  obtain ⟨ad237, e237, hx237_0⟩ := Kd.at_int HR1.out x13_1 p237 q237
                  cases e237
                  replace p237 := eq_true p237
                  replace q237 := eq_true q237
                  go_wp2
                  repeat (go_quiet (fail); try go_wp2)
                  go_roundg k1
                  case measure => have := HK1.out; omega
                  case rel => exact ⟨(wrap64 (x13_1 + 1)), (by first | rfl | (simp; done) | (simp [*]; done)), H', ⟨by have := HK1.out; omega⟩, by repeat (first | exact Drawn0.refl _ | apply Drawn0.step)⟩
                · rw [if_neg c8] at H
                  have c8b0 : ((rd l0 x13_1) == (rd l1 x13_1)) = false := beq_eq_false_iff_ne.mpr c8
                  have c8b1 : ((rd l0 x13_1) != (rd l1 x13_1)) = true := bne_iff_ne.mpr c8
                  obtain rfl := Option.some.inj H
                  have p236 : 0 ≤ (x13_1 : Int) := of_decide_eq_true (by first | (with_reducible assumption) | assumption)
                  have q236 : x13_1 < (l0.length : Int) := of_decide_eq_true (by first | (with_reducible assumption) | assumption)
                  obtain ⟨ad236, e236, hx236_0⟩ := Kd.at_int HR0.out x13_1 p236 q236
                  cases e236
                  replace p236 := eq_true p236
                  replace q236 := eq_true q236
                  have p237 : 0 ≤ (x13_1 : Int) := of_decide_eq_true (by first | (with_reducible assumption) | assumption)
                  have q237 : x13_1 < (l1.length : Int) := of_decide_eq_true (by first | (with_reducible assumption) | assumption)
                  obtain ⟨ad237, e237, hx237_0⟩ := Kd.at_int HR1.out x13_1 p237 q237
                  cases e237
                  replace p237 := eq_true p237
                  replace q237 := eq_true q237
                  go_wp2
                  repeat (go_quiet (fail); try go_wp2)
                  go_ret
                  exact ⟨by first | rfl | (simp; done) | (simp [*]; done), by repeat (first | exact Drawn0.refl _ | apply Drawn0.step)⟩
              · rw [if_neg c7] at H
                exact absurd H (by simp)
            · rw [if_neg c6] at H
              exact absurd H (by simp)
          · rw [if_neg c5] at H
            exact absurd H (by simp)
        · rw [if_neg c4] at H
          have c4b0 : decide (x13_1 < (l0.length : Int)) = false := decide_eq_false c4
          clear c4
          obtain rfl := Option.some.inj H
          go_wp2
          repeat (go_quiet (fail); try go_wp2)
          go_ret
          exact ⟨by first | rfl | (simp; done) | (simp [*]; done), by repeat (first | exact Drawn0.refl _ | apply Drawn0.step)⟩
  · rw [if_neg c3] at H
    have c3b0 : ((l0.length : Int) == (l1.length : Int)) = false := beq_eq_false_iff_ne.mpr c3
    have c3b1 : ((l0.length : Int) != (l1.length : Int)) = true := bne_iff_ne.mpr c3
    have c3b2 : (l0.length == l1.length) = false := by first | simpa using c3 | (simp at c3 ⊢; omega)
    obtain rfl := Option.some.inj H
    go_enter Try.func49, Try.ntmps49
    go_wp2
    repeat (go_quiet (fail); try go_wp2)
    go_ret
    exact ⟨by first | rfl | (simp; done) | (simp [*]; done), by repeat (first | exact Drawn0.refl _ | apply Drawn0.step)⟩

-- NOT PRINTED: function 50 (api_Box_50)

end Go.Proofs.Ytnnhhkjcjkinpaa.P
