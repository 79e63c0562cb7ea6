/- Written by wip/tool/hprint.py (the kit's print.py with hand-proved contracts set in): contracts of the functions that the statements of this seat reach, without conditions beyond those named in each theorem. -/
import Derived.Test.YtojcnndkdopahaaP0
import Derived.Test.YtojcnndkdopahaaP17
namespace Go.Proofs.Ytojcnndkdopahaa.P
open Go.RowKit Go.Proofs.YtojcnndkdopahaaW.PrintWords Go.Proofs.YtojcnndkdopahaaW.PrintLast Go.Proofs.YtojcnndkdopahaaW.PrintMore
attribute [local go_sem] max2_int min2_int max_two min_two max_three min_three max_four min_four   -- for this text's walks alone
set_option linter.unusedVariables false
set_option linter.unusedSimpArgs false

/-! ### vinculumref27_Stretch: function 19 -/
mutual
def vinculumref27_Stretch.l0 : Nat → List (S36) → Int → Int → Int → Option (Int)
  | 0, _, _, _, _ => none
  | k + 1, x0, x1, x5, x6 => (vinculumref27_Valid.f k x0).bind fun t132 => (if t132 = true then (vinculumref27_Stretch.j1 k x0 x1 x5 x6 (decide (x6 < (x0.length : Int)))) else (vinculumref27_Stretch.j1 k x0 x1 x5 x6 false))
def vinculumref27_Stretch.j1 : Nat → List (S36) → Int → Int → Int → Bool → Option (Int)
  | 0, _, _, _, _, _ => none
  | k + 1, x0, x1, x5, x6, x14 => if x14 = true then (if 0 ≤ x6 then (if x6 < (x0.length : Int) then (if ((rd_T36 x0 x6).f3) = x1 then (vinculumref27_Stretch.l0 k x0 x1 (wrap64 (x5 + ((rd_T36 x0 x6).f1))) (wrap64 (x6 + 1))) else (vinculumref27_Stretch.l0 k x0 x1 x5 (wrap64 (x6 + 1)))) else (none)) else (none)) else (some x5)
end
def vinculumref27_Stretch.f (k : Nat) (l0 : List (S36)) (a1 : Int) : Option (Int) := vinculumref27_Stretch.l0 k l0 a1 0 0
theorem vinculumref27_Stretch.mono_l : ∀ k, (∀ y0 y1 y2 y3, LeO (vinculumref27_Stretch.l0 k y0 y1 y2 y3) (vinculumref27_Stretch.l0 (k + 1) y0 y1 y2 y3)) ∧ (∀ y0 y1 y2 y3 y4, LeO (vinculumref27_Stretch.j1 k y0 y1 y2 y3 y4) (vinculumref27_Stretch.j1 (k + 1) y0 y1 y2 y3 y4))
  | 0 => ⟨fun _ _ _ _ r h => by simp [vinculumref27_Stretch.l0] at h, fun _ _ _ _ _ r h => by simp [vinculumref27_Stretch.j1] at h⟩
  | k + 1 => by
    obtain ⟨ih0, ih1⟩ := vinculumref27_Stretch.mono_l k
    refine ⟨?_, ?_⟩
    · intro y0 y1 y2 y3
      unfold vinculumref27_Stretch.l0
      repeat' first
      | (with_reducible exact ih0 _ _ _ _)
      | (with_reducible exact ih1 _ _ _ _ _)
      | (with_reducible exact vinculumref27_Valid.mono _ _)
      | (with_reducible exact LeO.refl _)
      | (with_reducible exact LeO.none _)
      | (with_reducible refine LeO.ite ?_ ?_)
      | (with_reducible refine LeO.bind ?_ (fun _ => ?_))
      | exact ih0 _ _ _ _
      | exact ih1 _ _ _ _ _
      | exact vinculumref27_Valid.mono _ _
      | exact LeO.none _
      | refine LeO.ite ?_ ?_
      | refine LeO.bind ?_ (fun _ => ?_)
    · intro y0 y1 y2 y3 y4
      unfold vinculumref27_Stretch.j1
      repeat' first
      | (with_reducible exact ih0 _ _ _ _)
      | (with_reducible exact ih1 _ _ _ _ _)
      | (with_reducible exact vinculumref27_Valid.mono _ _)
      | (with_reducible exact LeO.refl _)
      | (with_reducible exact LeO.none _)
      | (with_reducible refine LeO.ite ?_ ?_)
      | (with_reducible refine LeO.bind ?_ (fun _ => ?_))
      | exact ih0 _ _ _ _
      | exact ih1 _ _ _ _ _
      | exact vinculumref27_Valid.mono _ _
      | exact LeO.none _
      | refine LeO.ite ?_ ?_
      | refine LeO.bind ?_ (fun _ => ?_)
theorem vinculumref27_Stretch.mono : ∀ a0 a1 k, LeO (vinculumref27_Stretch.f k a0 a1) (vinculumref27_Stretch.f (k + 1) a0 a1) := by
  intro a0 a1 k
  obtain ⟨ih0, ih1⟩ := vinculumref27_Stretch.mono_l k
  unfold vinculumref27_Stretch.f
  repeat' first
      | (with_reducible exact ih0 _ _ _ _)
      | (with_reducible exact ih1 _ _ _ _ _)
      | (with_reducible exact vinculumref27_Valid.mono _ _)
      | (with_reducible exact LeO.refl _)
      | (with_reducible exact LeO.none _)
      | (with_reducible refine LeO.ite ?_ ?_)
      | (with_reducible refine LeO.bind ?_ (fun _ => ?_))
      | exact ih0 _ _ _ _
      | exact ih1 _ _ _ _ _
      | exact vinculumref27_Valid.mono _ _
      | exact LeO.none _
      | refine LeO.ite ?_ ?_
      | refine LeO.bind ?_ (fun _ => ?_)
set_option maxHeartbeats 8000000 in
set_option maxRecDepth 100000 in
theorem vinculumref27_Stretch.calls (k : Nat) (A0 : Option Addr) (c0 : Nat) (l0 : List (S36)) (a1 : Int) (r : Int) (w : World) (hr0 : Kd.C k36 w A0 l0.length l0) (hc0 : l0.length ≤ c0) (h : vinculumref27_Stretch.f k l0 a1 = some r) :
    Calls Try.prog 19 #[.slice A0 l0.length c0, .int .i64 a1] w fun e w' => e = .returned (.int .i64 r) ∧ Below w.heap.size w w' := by
  have HR0 := Aside0.mk hr0
  have HC0 := Aside0.mk hc0
  clear hr0 hc0
  have HB := Aside0.mk (Below.refl w.heap.size w)
  have H : (vinculumref27_Stretch.l0 k l0 a1 0 0) = some r := h
  clear h
  have H' := Aside0.mk H
  clear H
  go_enter Try.func19, Try.ntmps19
  go_wp2
  go_loopg [5, 6] k (fun kq v5 v6 w' => ∃ (x5_1 : Int) (x6_1 : Int), v5 = .int .i64 x5_1 ∧ v6 = .int .i64 x6_1 ∧ Aside0 (vinculumref27_Stretch.l0 kq l0 a1 x5_1 x6_1 = some r) ∧ Aside0 (kq ≤ k) ∧ Aside0 (Below w.heap.size w w'))
  case atStart => exact ⟨(0), (0), (by first | rfl | (simp; done) | (simp [*]; done)), (by first | rfl | (simp; done) | (simp [*]; done)), H', ⟨Nat.le_refl _⟩, ⟨by repeat (first | (with_reducible first | exact HB.out | apply below_alloc | apply pw_below_drewN | apply below_drew1) | exact HB.out)⟩⟩
  case round =>
    clear H'
    try clear c1
    try clear p2
    obtain ⟨x5_1, x6_1, rfl, rfl, HA, HK1, HB⟩ := hrel
    cases gk with
    | zero => exact absurd HA.out (by simp [vinculumref27_Stretch.l0])
    | succ k1 =>
      have H := HA.out
      clear HA
      simp only [vinculumref27_Stretch.l0] at H
      have HC3 := Aside0.mk H
      clear H
      go_upto_region 3 with (fail)
      go_cut [14] (fun v14 wc => ∃ (kq : Nat) (x14_2 : Bool), v14 = .bool x14_2 ∧ Aside0 (vinculumref27_Stretch.j1 kq l0 a1 x5_1 x6_1 x14_2 = some r) ∧ Aside0 (kq ≤ k1) ∧ Aside0 (Below w.heap.size w wc))
      case first =>
        have H := HC3.out
        clear HC3
        replace H := Option.bind_eq_some_iff.mp H
        obtain ⟨t132, A40, H⟩ := H
        replace H : (if t132 = true then (vinculumref27_Stretch.j1 k1 l0 a1 x5_1 x6_1 (decide (x6_1 < (l0.length : Int)))) else (vinculumref27_Stretch.j1 k1 l0 a1 x5_1 x6_1 false)) = some r := H
        have A4 := Aside0.mk A40
        clear A40
        by_cases c5 : t132 = true
        · subst c5
          have H1 : (vinculumref27_Stretch.j1 k1 l0 a1 x5_1 x6_1 (decide (x6_1 < (l0.length : Int)))) = some r := by rw [if_pos rfl] at H; exact H
          clear H
          have H := H1
          clear H1
          have H' := Aside0.mk H
          clear H
          go_wp2_with (first | ((with_reducible refine gate_callee (f := 15) rfl ?_); refine goesL_ (some 8) rfl rfl Try.func15 (by kernel_rfl) rfl #[.slice A0 l0.length c0] rfl (by (try simp only [List.map_toArray, List.map_cons, List.map_nil]); first | done | rfl | (simp only [List.length_drop, List.length_take]; rfl)) ?_; (with_reducible refine (vinculumref27_Valid.calls k1 _ _ l0 true _ ?side1 ?side2 A4.out).mono ?_); (case side1 => repeat (first | exact (Kd.C_below HR0.out HB.out) | (with_reducible refine Kd.C_alloc ?_ _) | (with_reducible refine Kd.C_drewN ?_ _) | (with_reducible refine Kd.C_drew ?_))); (case side2 => exact HC0.out); rintro e w6 ⟨rfl, hb⟩; refine ⟨_, rfl, ?_⟩; have n0_ := Aside0.mk (below_step (by repeat (first | (with_reducible first | exact HB.out | apply below_alloc | apply pw_below_drewN | apply below_drew1) | exact HB.out)) hb); clear HB; have HB := n0_; clear n0_; (try clear hb); (try clear hb2); (try clear hk); (try clear hi)))
          go_meet
          case rel => exact ⟨_, (decide (x6_1 < (l0.length : Int))), (by first | rfl | (simp; done) | (simp [*]; done)), H', ⟨by have := HK1.out; first | omega | exact Nat.le_refl _⟩, ⟨by repeat (first | (with_reducible first | exact HB.out | apply below_alloc | apply pw_below_drewN | apply below_drew1) | exact HB.out)⟩⟩
        · replace c5 := Bool.eq_false_iff.mpr c5
          subst c5
          have H1 : (vinculumref27_Stretch.j1 k1 l0 a1 x5_1 x6_1 false) = some r := by rw [if_neg (show ¬ (false = true) by decide)] at H; exact H
          clear H
          have H := H1
          clear H1
          have H' := Aside0.mk H
          clear H
          go_wp2_with (first | ((with_reducible refine gate_callee (f := 15) rfl ?_); refine goesL_ (some 8) rfl rfl Try.func15 (by kernel_rfl) rfl #[.slice A0 l0.length c0] rfl (by (try simp only [List.map_toArray, List.map_cons, List.map_nil]); first | done | rfl | (simp only [List.length_drop, List.length_take]; rfl)) ?_; (with_reducible refine (vinculumref27_Valid.calls k1 _ _ l0 false _ ?side1 ?side2 A4.out).mono ?_); (case side1 => repeat (first | exact (Kd.C_below HR0.out HB.out) | (with_reducible refine Kd.C_alloc ?_ _) | (with_reducible refine Kd.C_drewN ?_ _) | (with_reducible refine Kd.C_drew ?_))); (case side2 => exact HC0.out); rintro e w7 ⟨rfl, hb⟩; refine ⟨_, rfl, ?_⟩; have n0_ := Aside0.mk (below_step (by repeat (first | (with_reducible first | exact HB.out | apply below_alloc | apply pw_below_drewN | apply below_drew1) | exact HB.out)) hb); clear HB; have HB := n0_; clear n0_; (try clear hb); (try clear hb2); (try clear hk); (try clear hi)))
          go_meet
          case rel => exact ⟨_, (false), (by first | rfl | (simp; done) | (simp [*]; done)), H', ⟨by have := HK1.out; first | omega | exact Nat.le_refl _⟩, ⟨by repeat (first | (with_reducible first | exact HB.out | apply below_alloc | apply pw_below_drewN | apply below_drew1) | exact HB.out)⟩⟩
      case rest =>
        clear HC3
        try clear c1
        try clear p2
        try clear c5
        try clear p2
        obtain ⟨kq, x14_2, rfl, HA, HJ2, HB⟩ := hcut
        cases kq with
        | zero => exact absurd HA.out (by simp [vinculumref27_Stretch.j1])
        | succ kj2 =>
          have H := HA.out
          clear HA
          simp only [vinculumref27_Stretch.j1] at H
          by_cases c8 : x14_2 = true
          · subst c8
            have H1 : (if 0 ≤ x6_1 then (if x6_1 < (l0.length : Int) then (if ((rd_T36 l0 x6_1).f3) = a1 then (vinculumref27_Stretch.l0 kj2 l0 a1 (wrap64 (x5_1 + ((rd_T36 l0 x6_1).f1))) (wrap64 (x6_1 + 1))) else (vinculumref27_Stretch.l0 kj2 l0 a1 x5_1 (wrap64 (x6_1 + 1)))) else (none)) else (none)) = some r := by rw [if_pos rfl] at H; exact H
            clear H
            have H := H1
            clear H1
            by_cases c9 : 0 ≤ x6_1
            · rw [if_pos c9] at H
              have c9b0 : decide (0 ≤ x6_1) = true := decide_eq_true c9
              clear c9
              by_cases c10 : x6_1 < (l0.length : Int)
              · rw [if_pos c10] at H
                have c10b0 : decide (x6_1 < (l0.length : Int)) = true := decide_eq_true c10
                clear c10
                by_cases c11 : ((rd_T36 l0 x6_1).f3) = a1
                · rw [if_pos c11] at H
                  have c11b0 : (((rd_T36 l0 x6_1).f3) == a1) = true := beq_iff_eq.mpr c11
                  have c11b1 : (((rd_T36 l0 x6_1).f3) != a1) = false := bne_eq_false_iff_eq.mpr c11
                  clear c11
                  have H' := Aside0.mk H
                  clear H
                  have p133 : 0 ≤ (x6_1 : Int) := of_decide_eq_true (by first | (with_reducible assumption) | assumption)
                  have q133 : x6_1 < (l0.length : Int) := of_decide_eq_true (by first | (with_reducible assumption) | assumption)
                  obtain ⟨ad133, e133, hx133_0, hx133_1, hx133_2, hx133_3⟩ := at_T36 HR0.out x6_1 p133 q133
                  cases e133
                  replace hx133_0 := (HB.out.cell (World.block_lt_of_cell? w _ hx133_0)).trans hx133_0
                  replace hx133_1 := (HB.out.cell (World.block_lt_of_cell? w _ hx133_1)).trans hx133_1
                  replace hx133_2 := (HB.out.cell (World.block_lt_of_cell? w _ hx133_2)).trans hx133_2
                  replace hx133_3 := (HB.out.cell (World.block_lt_of_cell? w _ hx133_3)).trans hx133_3
                  replace p133 := eq_true p133
                  replace q133 := eq_true q133
                  have p134 : 0 ≤ (x6_1 : Int) := of_decide_eq_true (by first | (with_reducible assumption) | assumption)
                  have q134 : x6_1 < (l0.length : Int) := of_decide_eq_true (by first | (with_reducible assumption) | assumption)
                  obtain ⟨ad134, e134, hx134_0, hx134_1, hx134_2, hx134_3⟩ := at_T36 HR0.out x6_1 p134 q134
                  obtain rfl : ad133 = ad134 := (by injection e134)
                  replace hx134_0 := (HB.out.cell (World.block_lt_of_cell? w _ hx134_0)).trans hx134_0
                  replace hx134_1 := (HB.out.cell (World.block_lt_of_cell? w _ hx134_1)).trans hx134_1
                  replace hx134_2 := (HB.out.cell (World.block_lt_of_cell? w _ hx134_2)).trans hx134_2
                  replace hx134_3 := (HB.out.cell (World.block_lt_of_cell? w _ hx134_3)).trans hx134_3
                  replace p134 := eq_true p134
                  replace q134 := eq_true q134
                  go_wp2
                  go_roundg kj2
                  case measure => have := HK1.out; have := HJ2.out; omega
                  case rel => exact ⟨(wrap64 (x5_1 + ((rd_T36 l0 x6_1).f1))), (wrap64 (x6_1 + 1)), (by first | rfl | (simp; done) | (simp [*]; done)), (by first | rfl | (simp; done) | (simp [*]; done)), H', ⟨by have := HK1.out; have := HJ2.out; omega⟩, ⟨by repeat (first | (with_reducible first | exact HB.out | apply below_alloc | apply pw_below_drewN | apply below_drew1) | exact HB.out)⟩⟩
                · rw [if_neg c11] at H
                  have c11b0 : (((rd_T36 l0 x6_1).f3) == a1) = false := beq_eq_false_iff_ne.mpr c11
                  have c11b1 : (((rd_T36 l0 x6_1).f3) != a1) = true := bne_iff_ne.mpr c11
                  have H' := Aside0.mk H
                  clear H
                  have p133 : 0 ≤ (x6_1 : Int) := of_decide_eq_true (by first | (with_reducible assumption) | assumption)
                  have q133 : x6_1 < (l0.length : Int) := of_decide_eq_true (by first | (with_reducible assumption) | assumption)
                  obtain ⟨ad133, e133, hx133_0, hx133_1, hx133_2, hx133_3⟩ := at_T36 HR0.out x6_1 p133 q133
                  cases e133
                  replace hx133_0 := (HB.out.cell (World.block_lt_of_cell? w _ hx133_0)).trans hx133_0
                  replace hx133_1 := (HB.out.cell (World.block_lt_of_cell? w _ hx133_1)).trans hx133_1
                  replace hx133_2 := (HB.out.cell (World.block_lt_of_cell? w _ hx133_2)).trans hx133_2
                  replace hx133_3 := (HB.out.cell (World.block_lt_of_cell? w _ hx133_3)).trans hx133_3
                  replace p133 := eq_true p133
                  replace q133 := eq_true q133
                  go_wp2
                  go_roundg kj2
                  case measure => have := HK1.out; have := HJ2.out; omega
                  case rel => exact ⟨(x5_1), (wrap64 (x6_1 + 1)), (by first | rfl | (simp; done) | (simp [*]; done)), (by first | rfl | (simp; done) | (simp [*]; done)), H', ⟨by have := HK1.out; have := HJ2.out; omega⟩, ⟨by repeat (first | (with_reducible first | exact HB.out | apply below_alloc | apply pw_below_drewN | apply below_drew1) | exact HB.out)⟩⟩
              · rw [if_neg c10] at H
                exact absurd H (by simp)
            · rw [if_neg c9] at H
              exact absurd H (by simp)
          · replace c8 := Bool.eq_false_iff.mpr c8
            subst c8
            have H1 : (some x5_1) = some r := by rw [if_neg (show ¬ (false = true) by decide)] at H; exact H
            clear H
            have H := H1
            clear H1
            obtain rfl := Option.some.inj H
            go_wp2
            go_ret
            exact ⟨by first | rfl | (simp [errW_none, errW_some] <;> rfl) | (simp [*, errW_none, errW_some] <;> rfl), by repeat (first | (with_reducible first | exact HB.out | apply below_alloc | apply pw_below_drewN | apply below_drew1) | exact HB.out)⟩

end Go.Proofs.Ytojcnndkdopahaa.P
