/- Written by wip/tool/hprint.py (the kit's print.py with hand-proved contracts set in): contracts of the functions that the statements of this seat reach, without conditions beyond those named in each theorem. -/
import Derived.Test.YtomogpiahcnmjaaP0
import Derived.Test.YtomogpiahcnmjaaP1
import Derived.Test.YtomogpiahcnmjaaP5
import Derived.Test.YtomogpiahcnmjaaP7
namespace Go.Proofs.Ytomogpiahcnmjaa.P
open Go.RowKit Go.Proofs.YtomogpiahcnmjaaW.PrintWords Go.Proofs.YtomogpiahcnmjaaW.PrintLast Go.Proofs.YtomogpiahcnmjaaW.PrintMore
attribute [local go_sem] max2_int min2_int max_two min_two max_three min_three max_four min_four   -- for this text's walks alone
set_option linter.unusedVariables false
set_option linter.unusedSimpArgs false

attribute [local go_sem high] eqA27
/-! ### vinculumref08_proper: function 21 -/
def vinculumref08_proper.l0 : Nat → Int → ByteArray → Int → Bool → Bool → Option (Bool)
  | 0, _, _, _, _, _ => none
  | k + 1, x3, x142000, x142001, x142002, x142003 => if x3 < (x142000.size : Int) then (if 0 ≤ x3 then (if (bt x142000 x3) < 33 then (some false) else (if (bt x142000 x3) > 126 then (some false) else (vinculumref08_proper.l0 k (wrap64 (x3 + 1)) x142000 x142001 x142002 x142003))) else (none)) else (if (x142000.size : Int) ≥ 1 then (if (x142000.size : Int) ≤ 16 then (if x142001 ≥ 0 then (some (decide (x142001 ≤ 7))) else (some false)) else (some false)) else (some false))
def vinculumref08_proper.f (k : Nat) (a0_0 : ByteArray) (a0_1 : Int) (a0_2 : Bool) (a0_3 : Bool) : Option (Bool) := vinculumref08_proper.l0 k 0 a0_0 a0_1 a0_2 a0_3
theorem vinculumref08_proper.mono_l : ∀ k, (∀ y0 y1 y2 y3 y4, LeO (vinculumref08_proper.l0 k y0 y1 y2 y3 y4) (vinculumref08_proper.l0 (k + 1) y0 y1 y2 y3 y4))
  | 0 => fun _ _ _ _ _ r h => by simp [vinculumref08_proper.l0] at h
  | k + 1 => by
    have ih0 := vinculumref08_proper.mono_l k
    · intro y0 y1 y2 y3 y4
      unfold vinculumref08_proper.l0
      repeat' first
      | (with_reducible exact ih0 _ _ _ _ _)
      | (with_reducible exact LeO.refl _)
      | (with_reducible exact LeO.none _)
      | (with_reducible refine LeO.ite ?_ ?_)
      | (with_reducible refine LeO.bind ?_ (fun _ => ?_))
      | exact ih0 _ _ _ _ _
      | exact LeO.none _
      | refine LeO.ite ?_ ?_
      | refine LeO.bind ?_ (fun _ => ?_)
theorem vinculumref08_proper.mono : ∀ a0 a1 a2 a3 k, LeO (vinculumref08_proper.f k a0 a1 a2 a3) (vinculumref08_proper.f (k + 1) a0 a1 a2 a3) := by
  intro a0 a1 a2 a3 k
  have ih0 := vinculumref08_proper.mono_l k
  unfold vinculumref08_proper.f
  repeat' first
      | (with_reducible exact ih0 _ _ _ _ _)
      | (with_reducible exact LeO.refl _)
      | (with_reducible exact LeO.none _)
      | (with_reducible refine LeO.ite ?_ ?_)
      | (with_reducible refine LeO.bind ?_ (fun _ => ?_))
      | exact ih0 _ _ _ _ _
      | exact LeO.none _
      | refine LeO.ite ?_ ?_
      | refine LeO.bind ?_ (fun _ => ?_)
set_option maxHeartbeats 8000000 in
set_option maxRecDepth 100000 in
theorem vinculumref08_proper.calls (k : Nat) (a0_0 : ByteArray) (a0_1 : Int) (a0_2 : Bool) (a0_3 : Bool) (r : Bool) (w : World) (h : vinculumref08_proper.f k a0_0 a0_1 a0_2 a0_3 = some r) :
    Calls Try.prog 21 #[.agg #[.string a0_0, .int .i64 a0_1, .bool a0_2, .bool a0_3]] w fun e w' => e = .returned (.bool r) ∧ Below w.heap.size w w' := by
  have hu27 := Try.underlying27
  have HB := Aside0.mk (Below.refl w.heap.size w)
  have H : (vinculumref08_proper.l0 k 0 a0_0 a0_1 a0_2 a0_3) = some r := h
  clear h
  have H' := Aside0.mk H
  clear H
  go_enter Try.func21, Try.ntmps21
  go_wp2_with (first | ((with_reducible refine gate_dst (N := 1) rfl ?_); (try (refine gate_guard (by rfl) ?_; dsimp only)); refine box_event ?hg (N := 1) ?hd (cs := #[.string a0_0, .int .i64 a0_1, .bool a0_2, .bool a0_3]) (t := 27) ?hr ?_; (case hd => rfl); (case hg => rfl); (case hr => first | (go_simp; done) | (go_simp; rfl)); intro gb141 hg w2 hbox hb; have n0_ := Aside0.mk (below_step (by repeat (first | (with_reducible first | exact HB.out | apply below_alloc | apply pw_below_drewN | apply below_drew1) | exact HB.out)) hb); have n1_ := Aside0.mk (hbox); have n2_ := Aside0.mk ((by rw [hg]; exact (below_size (by repeat (first | (with_reducible first | exact HB.out | apply below_alloc | apply pw_below_drewN | apply below_drew1) | exact HB.out))) : w.heap.size ≤ gb141)); have n3_ := Aside0.mk ((by rw [hg]; exact (below_size (by repeat (first | (with_reducible first | exact HB.out | apply below_alloc | apply pw_below_drewN | apply below_drew1) | exact HB.out))) : w.heap.size ≤ gb141)); clear HB; have HB := n0_; have BK141 := n1_; have GW141 := n2_; have GE141 := n3_; clear n0_ n1_ n2_ n3_; clear hb hbox hg))
  go_loopg [3] k (fun kq v3 w' => ∃ (x3_1 : Int), v3 = .int .i64 x3_1 ∧ Aside0 (vinculumref08_proper.l0 kq x3_1 a0_0 a0_1 a0_2 a0_3 = some r) ∧ Aside0 (kq ≤ k) ∧ Aside0 (w'.heap[gb141]? = some (.cells #[.string a0_0, .int .i64 a0_1, .bool a0_2, .bool a0_3] 27 (0, 0))) ∧ Aside0 (Below w.heap.size w w'))
  case atStart => exact ⟨(0), (by first | rfl | (simp; done) | (simp [*]; done)), H', ⟨Nat.le_refl _⟩, ⟨by (with_reducible repeat (first | refine blk_drewN ?_ _ | refine blk_drew ?_ | refine blk_alloc ?_ _)); exact BK141.out⟩, ⟨by repeat (first | (with_reducible first | exact HB.out | apply below_alloc | apply pw_below_drewN | apply below_drew1 | refine below_set ?_ GE141.out) | exact HB.out)⟩⟩
  case round =>
    clear H'
    try clear c2
    try clear p2
    obtain ⟨x3_1, rfl, HA, HK1, BK141, HB⟩ := hrel
    cases gk with
    | zero => exact absurd HA.out (by simp [vinculumref08_proper.l0])
    | succ k1 =>
      have H := HA.out
      clear HA
      simp only [vinculumref08_proper.l0] at H
      by_cases c3 : x3_1 < (a0_0.size : Int)
      · rw [if_pos c3] at H
        have c3b0 : decide (x3_1 < (a0_0.size : Int)) = true := decide_eq_true c3
        clear c3
        by_cases c4 : 0 ≤ x3_1
        · rw [if_pos c4] at H
          have c4b0 : decide (0 ≤ x3_1) = true := decide_eq_true c4
          clear c4
          by_cases c6 : (bt a0_0 x3_1) < 33
          · rw [if_pos c6] at H
            have c6b0 : decide ((bt a0_0 x3_1) < 33) = true := decide_eq_true c6
            clear c6
            obtain rfl := Option.some.inj H
            have hcz7_0 : wr.cell? ⟨gb141, 0, none⟩ = some (.string a0_0) := (blk_cell BK141.out 0).trans rfl
            have hcz7_1 : wr.cell? ⟨gb141, 1, none⟩ = some (.int .i64 a0_1) := (blk_cell BK141.out 1).trans rfl
            have hcz7_2 : wr.cell? ⟨gb141, 2, none⟩ = some (.bool a0_2) := (blk_cell BK141.out 2).trans rfl
            have hcz7_3 : wr.cell? ⟨gb141, 3, none⟩ = some (.bool a0_3) := (blk_cell BK141.out 3).trans rfl
            have hfz7_0 := blk_frozen BK141.out 0
            have hfz7_1 := blk_frozen BK141.out 1
            have hfz7_2 := blk_frozen BK141.out 2
            have hfz7_3 := blk_frozen BK141.out 3
            have p5 : 0 ≤ (x3_1 : Int) := of_decide_eq_true (by first | (with_reducible assumption) | assumption)
            have q5 : x3_1 < (a0_0.size : Int) := of_decide_eq_true (by first | (with_reducible assumption) | assumption)
            have hx5 := bt_at a0_0 x3_1
            replace p5 := eq_true p5
            replace q5 := eq_true q5
            go_wp2
            go_ret
            exact ⟨by first | rfl | (simp [errW_none, errW_some] <;> rfl) | (simp [*, errW_none, errW_some] <;> rfl), by repeat (first | (with_reducible first | exact HB.out | apply below_alloc | apply pw_below_drewN | apply below_drew1 | refine below_set ?_ GE141.out) | exact HB.out)⟩
          · rw [if_neg c6] at H
            have c6b0 : decide ((bt a0_0 x3_1) < 33) = false := decide_eq_false c6
            clear c6
            by_cases c9 : (bt a0_0 x3_1) > 126
            · rw [if_pos c9] at H
              have c9b0 : decide (126 < (bt a0_0 x3_1)) = true := decide_eq_true c9
              clear c9
              obtain rfl := Option.some.inj H
              have hcz10_0 : wr.cell? ⟨gb141, 0, none⟩ = some (.string a0_0) := (blk_cell BK141.out 0).trans rfl
              have hcz10_1 : wr.cell? ⟨gb141, 1, none⟩ = some (.int .i64 a0_1) := (blk_cell BK141.out 1).trans rfl
              have hcz10_2 : wr.cell? ⟨gb141, 2, none⟩ = some (.bool a0_2) := (blk_cell BK141.out 2).trans rfl
              have hcz10_3 : wr.cell? ⟨gb141, 3, none⟩ = some (.bool a0_3) := (blk_cell BK141.out 3).trans rfl
              have hfz10_0 := blk_frozen BK141.out 0
              have hfz10_1 := blk_frozen BK141.out 1
              have hfz10_2 := blk_frozen BK141.out 2
              have hfz10_3 := blk_frozen BK141.out 3
              have p5 : 0 ≤ (x3_1 : Int) := of_decide_eq_true (by first | (with_reducible assumption) | assumption)
              have q5 : x3_1 < (a0_0.size : Int) := of_decide_eq_true (by first | (with_reducible assumption) | assumption)
              have hx5 := bt_at a0_0 x3_1
              replace p5 := eq_true p5
              replace q5 := eq_true q5
              have p8 : 0 ≤ (x3_1 : Int) := of_decide_eq_true (by first | (with_reducible assumption) | assumption)
              have q8 : x3_1 < (a0_0.size : Int) := of_decide_eq_true (by first | (with_reducible assumption) | assumption)
              have hx8 := bt_at a0_0 x3_1
              replace p8 := eq_true p8
              replace q8 := eq_true q8
              go_wp2
              go_ret
              exact ⟨by first | rfl | (simp [errW_none, errW_some] <;> rfl) | (simp [*, errW_none, errW_some] <;> rfl), by repeat (first | (with_reducible first | exact HB.out | apply below_alloc | apply pw_below_drewN | apply below_drew1 | refine below_set ?_ GE141.out) | exact HB.out)⟩
            · rw [if_neg c9] at H
              have c9b0 : decide (126 < (bt a0_0 x3_1)) = false := decide_eq_false c9
              clear c9
              have H' := Aside0.mk H
              clear H
              have hcz11_0 : wr.cell? ⟨gb141, 0, none⟩ = some (.string a0_0) := (blk_cell BK141.out 0).trans rfl
              have hcz11_1 : wr.cell? ⟨gb141, 1, none⟩ = some (.int .i64 a0_1) := (blk_cell BK141.out 1).trans rfl
              have hcz11_2 : wr.cell? ⟨gb141, 2, none⟩ = some (.bool a0_2) := (blk_cell BK141.out 2).trans rfl
              have hcz11_3 : wr.cell? ⟨gb141, 3, none⟩ = some (.bool a0_3) := (blk_cell BK141.out 3).trans rfl
              have hfz11_0 := blk_frozen BK141.out 0
              have hfz11_1 := blk_frozen BK141.out 1
              have hfz11_2 := blk_frozen BK141.out 2
              have hfz11_3 := blk_frozen BK141.out 3
              have p5 : 0 ≤ (x3_1 : Int) := of_decide_eq_true (by first | (with_reducible assumption) | assumption)
              have q5 : x3_1 < (a0_0.size : Int) := of_decide_eq_true (by first | (with_reducible assumption) | assumption)
              have hx5 := bt_at a0_0 x3_1
              replace p5 := eq_true p5
              replace q5 := eq_true q5
              have p8 : 0 ≤ (x3_1 : Int) := of_decide_eq_true (by first | (with_reducible assumption) | assumption)
              have q8 : x3_1 < (a0_0.size : Int) := of_decide_eq_true (by first | (with_reducible assumption) | assumption)
              have hx8 := bt_at a0_0 x3_1
              replace p8 := eq_true p8
              replace q8 := eq_true q8
              go_wp2
              go_roundg k1
              case measure => have := HK1.out; omega
              case rel => exact ⟨(wrap64 (x3_1 + 1)), (by first | rfl | (simp; done) | (simp [*]; done)), H', ⟨by have := HK1.out; omega⟩, ⟨by (with_reducible repeat (first | refine blk_drewN ?_ _ | refine blk_drew ?_ | refine blk_alloc ?_ _)); exact BK141.out⟩, ⟨by repeat (first | (with_reducible first | exact HB.out | apply below_alloc | apply pw_below_drewN | apply below_drew1 | refine below_set ?_ GE141.out) | exact HB.out)⟩⟩
        · rw [if_neg c4] at H
          exact absurd H (by simp)
      · rw [if_neg c3] at H
        have c3b0 : decide (x3_1 < (a0_0.size : Int)) = false := decide_eq_false c3
        clear c3
        by_cases c12 : (a0_0.size : Int) ≥ 1
        · rw [if_pos c12] at H
          have c12b0 : decide (1 ≤ (a0_0.size : Int)) = true := decide_eq_true c12
          have c12b1 : decide (1 ≤ a0_0.size) = true := decide_eq_true (by omega)
          clear c12
          by_cases c13 : (a0_0.size : Int) ≤ 16
          · rw [if_pos c13] at H
            have c13b0 : decide ((a0_0.size : Int) ≤ 16) = true := decide_eq_true c13
            have c13b1 : decide (a0_0.size ≤ 16) = true := decide_eq_true (by omega)
            clear c13
            by_cases c14 : a0_1 ≥ 0
            · rw [if_pos c14] at H
              have c14b0 : decide (0 ≤ a0_1) = true := decide_eq_true c14
              clear c14
              obtain rfl := Option.some.inj H
              have hcz15_0 : wr.cell? ⟨gb141, 0, none⟩ = some (.string a0_0) := (blk_cell BK141.out 0).trans rfl
              have hcz15_1 : wr.cell? ⟨gb141, 1, none⟩ = some (.int .i64 a0_1) := (blk_cell BK141.out 1).trans rfl
              have hcz15_2 : wr.cell? ⟨gb141, 2, none⟩ = some (.bool a0_2) := (blk_cell BK141.out 2).trans rfl
              have hcz15_3 : wr.cell? ⟨gb141, 3, none⟩ = some (.bool a0_3) := (blk_cell BK141.out 3).trans rfl
              have hfz15_0 := blk_frozen BK141.out 0
              have hfz15_1 := blk_frozen BK141.out 1
              have hfz15_2 := blk_frozen BK141.out 2
              have hfz15_3 := blk_frozen BK141.out 3
              go_wp2
              go_ret
              exact ⟨by first | rfl | (simp [errW_none, errW_some] <;> rfl) | (simp [*, errW_none, errW_some] <;> rfl), by repeat (first | (with_reducible first | exact HB.out | apply below_alloc | apply pw_below_drewN | apply below_drew1 | refine below_set ?_ GE141.out) | exact HB.out)⟩
            · rw [if_neg c14] at H
              have c14b0 : decide (0 ≤ a0_1) = false := decide_eq_false c14
              clear c14
              obtain rfl := Option.some.inj H
              have hcz16_0 : wr.cell? ⟨gb141, 0, none⟩ = some (.string a0_0) := (blk_cell BK141.out 0).trans rfl
              have hcz16_1 : wr.cell? ⟨gb141, 1, none⟩ = some (.int .i64 a0_1) := (blk_cell BK141.out 1).trans rfl
              have hcz16_2 : wr.cell? ⟨gb141, 2, none⟩ = some (.bool a0_2) := (blk_cell BK141.out 2).trans rfl
              have hcz16_3 : wr.cell? ⟨gb141, 3, none⟩ = some (.bool a0_3) := (blk_cell BK141.out 3).trans rfl
              have hfz16_0 := blk_frozen BK141.out 0
              have hfz16_1 := blk_frozen BK141.out 1
              have hfz16_2 := blk_frozen BK141.out 2
              have hfz16_3 := blk_frozen BK141.out 3
              go_wp2
              go_ret
              exact ⟨by first | rfl | (simp [errW_none, errW_some] <;> rfl) | (simp [*, errW_none, errW_some] <;> rfl), by repeat (first | (with_reducible first | exact HB.out | apply below_alloc | apply pw_below_drewN | apply below_drew1 | refine below_set ?_ GE141.out) | exact HB.out)⟩
          · rw [if_neg c13] at H
            have c13b0 : decide ((a0_0.size : Int) ≤ 16) = false := decide_eq_false c13
            have c13b1 : decide (a0_0.size ≤ 16) = false := decide_eq_false (by omega)
            clear c13
            obtain rfl := Option.some.inj H
            have hcz17_0 : wr.cell? ⟨gb141, 0, none⟩ = some (.string a0_0) := (blk_cell BK141.out 0).trans rfl
            have hcz17_1 : wr.cell? ⟨gb141, 1, none⟩ = some (.int .i64 a0_1) := (blk_cell BK141.out 1).trans rfl
            have hcz17_2 : wr.cell? ⟨gb141, 2, none⟩ = some (.bool a0_2) := (blk_cell BK141.out 2).trans rfl
            have hcz17_3 : wr.cell? ⟨gb141, 3, none⟩ = some (.bool a0_3) := (blk_cell BK141.out 3).trans rfl
            have hfz17_0 := blk_frozen BK141.out 0
            have hfz17_1 := blk_frozen BK141.out 1
            have hfz17_2 := blk_frozen BK141.out 2
            have hfz17_3 := blk_frozen BK141.out 3
            go_wp2
            go_ret
            exact ⟨by first | rfl | (simp [errW_none, errW_some] <;> rfl) | (simp [*, errW_none, errW_some] <;> rfl), by repeat (first | (with_reducible first | exact HB.out | apply below_alloc | apply pw_below_drewN | apply below_drew1 | refine below_set ?_ GE141.out) | exact HB.out)⟩
        · rw [if_neg c12] at H
          have c12b0 : decide (1 ≤ (a0_0.size : Int)) = false := decide_eq_false c12
          have c12b1 : decide (1 ≤ a0_0.size) = false := decide_eq_false (by omega)
          clear c12
          obtain rfl := Option.some.inj H
          have hcz18_0 : wr.cell? ⟨gb141, 0, none⟩ = some (.string a0_0) := (blk_cell BK141.out 0).trans rfl
          have hcz18_1 : wr.cell? ⟨gb141, 1, none⟩ = some (.int .i64 a0_1) := (blk_cell BK141.out 1).trans rfl
          have hcz18_2 : wr.cell? ⟨gb141, 2, none⟩ = some (.bool a0_2) := (blk_cell BK141.out 2).trans rfl
          have hcz18_3 : wr.cell? ⟨gb141, 3, none⟩ = some (.bool a0_3) := (blk_cell BK141.out 3).trans rfl
          have hfz18_0 := blk_frozen BK141.out 0
          have hfz18_1 := blk_frozen BK141.out 1
          have hfz18_2 := blk_frozen BK141.out 2
          have hfz18_3 := blk_frozen BK141.out 3
          go_wp2
          go_ret
          exact ⟨by first | rfl | (simp [errW_none, errW_some] <;> rfl) | (simp [*, errW_none, errW_some] <;> rfl), by repeat (first | (with_reducible first | exact HB.out | apply below_alloc | apply pw_below_drewN | apply below_drew1 | refine below_set ?_ GE141.out) | exact HB.out)⟩

/-! ### vinculumref08_Valid: function 15 -/
mutual
def vinculumref08_Valid.l0 : Nat → List (S27) → Int → Option (Bool)
  | 0, _, _ => none
  | k + 1, x0, x3 => if x3 < (x0.length : Int) then (if 0 ≤ x3 then ((vinculumref08_proper.f k ((rd_T27 x0 x3).f0) ((rd_T27 x0 x3).f1) ((rd_T27 x0 x3).f2) ((rd_T27 x0 x3).f3)).bind fun t143 => (if t143 = true then (vinculumref08_Valid.l1 k x0 x3 0) else (some false))) else (none)) else (some (decide ((x0.length : Int) ≤ 200)))
def vinculumref08_Valid.l1 : Nat → List (S27) → Int → Int → Option (Bool)
  | 0, _, _, _ => none
  | k + 1, x0, x3, x4 => if x4 < x3 then (if 0 ≤ x4 then (if x4 < (x0.length : Int) then (if 0 ≤ x3 then (if x3 < (x0.length : Int) then (if ((rd_T27 x0 x4).f0).toList = ((rd_T27 x0 x3).f0).toList then (some false) else (vinculumref08_Valid.l1 k x0 x3 (wrap64 (x4 + 1)))) else (none)) else (none)) else (none)) else (none)) else (vinculumref08_Valid.l0 k x0 (wrap64 (x3 + 1)))
end
def vinculumref08_Valid.f (k : Nat) (l0 : List (S27)) : Option (Bool) := vinculumref08_Valid.l0 k l0 0
theorem vinculumref08_Valid.mono_l : ∀ k, (∀ y0 y1, LeO (vinculumref08_Valid.l0 k y0 y1) (vinculumref08_Valid.l0 (k + 1) y0 y1)) ∧ (∀ y0 y1 y2, LeO (vinculumref08_Valid.l1 k y0 y1 y2) (vinculumref08_Valid.l1 (k + 1) y0 y1 y2))
  | 0 => ⟨fun _ _ r h => by simp [vinculumref08_Valid.l0] at h, fun _ _ _ r h => by simp [vinculumref08_Valid.l1] at h⟩
  | k + 1 => by
    obtain ⟨ih0, ih1⟩ := vinculumref08_Valid.mono_l k
    refine ⟨?_, ?_⟩
    · intro y0 y1
      unfold vinculumref08_Valid.l0
      repeat' first
      | (with_reducible exact ih0 _ _)
      | (with_reducible exact ih1 _ _ _)
      | (with_reducible exact vinculumref08_proper.mono _ _ _ _ _)
      | (with_reducible exact LeO.refl _)
      | (with_reducible exact LeO.none _)
      | (with_reducible refine LeO.ite ?_ ?_)
      | (with_reducible refine LeO.bind ?_ (fun _ => ?_))
      | exact ih0 _ _
      | exact ih1 _ _ _
      | exact vinculumref08_proper.mono _ _ _ _ _
      | exact LeO.none _
      | refine LeO.ite ?_ ?_
      | refine LeO.bind ?_ (fun _ => ?_)
    · intro y0 y1 y2
      unfold vinculumref08_Valid.l1
      repeat' first
      | (with_reducible exact ih0 _ _)
      | (with_reducible exact ih1 _ _ _)
      | (with_reducible exact vinculumref08_proper.mono _ _ _ _ _)
      | (with_reducible exact LeO.refl _)
      | (with_reducible exact LeO.none _)
      | (with_reducible refine LeO.ite ?_ ?_)
      | (with_reducible refine LeO.bind ?_ (fun _ => ?_))
      | exact ih0 _ _
      | exact ih1 _ _ _
      | exact vinculumref08_proper.mono _ _ _ _ _
      | exact LeO.none _
      | refine LeO.ite ?_ ?_
      | refine LeO.bind ?_ (fun _ => ?_)
theorem vinculumref08_Valid.mono : ∀ a0 k, LeO (vinculumref08_Valid.f k a0) (vinculumref08_Valid.f (k + 1) a0) := by
  intro a0 k
  obtain ⟨ih0, ih1⟩ := vinculumref08_Valid.mono_l k
  unfold vinculumref08_Valid.f
  repeat' first
      | (with_reducible exact ih0 _ _)
      | (with_reducible exact ih1 _ _ _)
      | (with_reducible exact vinculumref08_proper.mono _ _ _ _ _)
      | (with_reducible exact LeO.refl _)
      | (with_reducible exact LeO.none _)
      | (with_reducible refine LeO.ite ?_ ?_)
      | (with_reducible refine LeO.bind ?_ (fun _ => ?_))
      | exact ih0 _ _
      | exact ih1 _ _ _
      | exact vinculumref08_proper.mono _ _ _ _ _
      | exact LeO.none _
      | refine LeO.ite ?_ ?_
      | refine LeO.bind ?_ (fun _ => ?_)
set_option maxHeartbeats 8000000 in
set_option maxRecDepth 100000 in
theorem vinculumref08_Valid.calls (k : Nat) (A0 : Option Addr) (c0 : Nat) (l0 : List (S27)) (r : Bool) (w : World) (hr0 : Kd.C k27 w A0 l0.length l0) (hc0 : l0.length ≤ c0) (h : vinculumref08_Valid.f k l0 = some r) :
    Calls Try.prog 15 #[.slice A0 l0.length c0] w fun e w' => e = .returned (.bool r) ∧ Below w.heap.size w w' := by
  have hu27 := Try.underlying27
  have HR0 := Aside0.mk hr0
  have HC0 := Aside0.mk hc0
  clear hr0 hc0
  have HB := Aside0.mk (Below.refl w.heap.size w)
  have H : (vinculumref08_Valid.l0 k l0 0) = some r := h
  clear h
  have H' := Aside0.mk H
  clear H
  go_enter Try.func15, Try.ntmps15
  go_wp2
  repeat (go_quiet (fail); try go_wp2)
  go_loopg [3] k (fun kq v3 w' => ∃ (x3_1 : Int), v3 = .int .i64 x3_1 ∧ Aside0 (vinculumref08_Valid.l0 kq l0 x3_1 = some r) ∧ Aside0 (kq ≤ k) ∧ Aside0 (Below w.heap.size w w'))
  case atStart => exact ⟨(0), (by first | rfl | (simp; done) | (simp [*]; done)), H', ⟨Nat.le_refl _⟩, ⟨by repeat (first | (with_reducible first | exact HB.out | apply below_alloc | apply pw_below_drewN | apply below_drew1) | exact HB.out)⟩⟩
  case round =>
    clear H'
    try clear c1
    obtain ⟨x3_1, rfl, HA, HK1, HB⟩ := hrel
    cases gk with
    | zero => exact absurd HA.out (by simp [vinculumref08_Valid.l0])
    | succ k1 =>
      have H := HA.out
      clear HA
      simp only [vinculumref08_Valid.l0] at H
      by_cases c2 : x3_1 < (l0.length : Int)
      · rw [if_pos c2] at H
        have c2b0 : decide (x3_1 < (l0.length : Int)) = true := decide_eq_true c2
        clear c2
        by_cases c3 : 0 ≤ x3_1
        · rw [if_pos c3] at H
          have c3b0 : decide (0 ≤ x3_1) = true := decide_eq_true c3
          clear c3
          replace H := Option.bind_eq_some_iff.mp H
          obtain ⟨t143, A40, H⟩ := H
          replace H : (if t143 = true then (vinculumref08_Valid.l1 k1 l0 x3_1 0) else (some false)) = some r := H
          have A4 := Aside0.mk A40
          clear A40
          by_cases c5 : t143 = true
          · subst c5
            have H1 : (vinculumref08_Valid.l1 k1 l0 x3_1 0) = some r := by rw [if_pos rfl] at H; exact H
            clear H
            have H := H1
            clear H1
            have H' := Aside0.mk H
            clear H
            have p142 : 0 ≤ (x3_1 : Int) := of_decide_eq_true (by first | (with_reducible assumption) | assumption)
            have q142 : x3_1 < (l0.length : Int) := of_decide_eq_true (by first | (with_reducible assumption) | assumption)
            obtain ⟨ad142, e142, hx142_0, hx142_1, hx142_2, hx142_3⟩ := at_T27 HR0.out x3_1 p142 q142
            cases e142
            replace hx142_0 := (HB.out.cell (World.block_lt_of_cell? w _ hx142_0)).trans hx142_0
            replace hx142_1 := (HB.out.cell (World.block_lt_of_cell? w _ hx142_1)).trans hx142_1
            replace hx142_2 := (HB.out.cell (World.block_lt_of_cell? w _ hx142_2)).trans hx142_2
            replace hx142_3 := (HB.out.cell (World.block_lt_of_cell? w _ hx142_3)).trans hx142_3
            replace p142 := eq_true p142
            replace q142 := eq_true q142
            go_wp2_with (first | (go_at_call 21; (with_reducible refine (vinculumref08_proper.calls k1 ((rd_T27 l0 x3_1).f0) ((rd_T27 l0 x3_1).f1) ((rd_T27 l0 x3_1).f2) ((rd_T27 l0 x3_1).f3) true _ A4.out).mono ?_); rintro e w6 ⟨rfl, hb⟩; have n0_ := Aside0.mk (below_step (by repeat (first | (with_reducible first | exact HB.out | apply below_alloc | apply pw_below_drewN | apply below_drew1) | exact HB.out)) hb); clear HB; have HB := n0_; clear n0_; (try clear hb); (try clear hb2); (try clear hk); (try clear hi)))
            repeat (go_quiet (first | (go_at_call 21; (with_reducible refine (vinculumref08_proper.calls k1 ((rd_T27 l0 x3_1).f0) ((rd_T27 l0 x3_1).f1) ((rd_T27 l0 x3_1).f2) ((rd_T27 l0 x3_1).f3) true _ A4.out).mono ?_); rintro e w6 ⟨rfl, hb⟩; have n0_ := Aside0.mk (below_step (by repeat (first | (with_reducible first | exact HB.out | apply below_alloc | apply pw_below_drewN | apply below_drew1) | exact HB.out)) hb); clear HB; have HB := n0_; clear n0_; (try clear hb); (try clear hb2); (try clear hk); (try clear hi))); try go_wp2_with (first | (go_at_call 21; (with_reducible refine (vinculumref08_proper.calls k1 ((rd_T27 l0 x3_1).f0) ((rd_T27 l0 x3_1).f1) ((rd_T27 l0 x3_1).f2) ((rd_T27 l0 x3_1).f3) true _ A4.out).mono ?_); rintro e w6 ⟨rfl, hb⟩; have n0_ := Aside0.mk (below_step (by repeat (first | (with_reducible first | exact HB.out | apply below_alloc | apply pw_below_drewN | apply below_drew1) | exact HB.out)) hb); clear HB; have HB := n0_; clear n0_; (try clear hb); (try clear hb2); (try clear hk); (try clear hi))))
            go_loopg [4] k1 (fun kq v4 w' => ∃ (x4_2 : Int), v4 = .int .i64 x4_2 ∧ Aside0 (vinculumref08_Valid.l1 kq l0 x3_1 x4_2 = some r) ∧ Aside0 (kq ≤ k1) ∧ Aside0 (Below w.heap.size w w'))
            case atStart => exact ⟨(0), (by first | rfl | (simp; done) | (simp [*]; done)), H', ⟨Nat.le_refl _⟩, ⟨by repeat (first | (with_reducible first | exact HB.out | apply below_alloc | apply pw_below_drewN | apply below_drew1) | exact HB.out)⟩⟩
            case round =>
              clear H'
              try clear c1
              try clear p1
              try clear q1
              try clear hx1
              try clear c2
              try clear c2b0
              try clear p2
              try clear c3
              try clear c3b0
              try clear c5
              try clear hx142_0
              try clear hx142_1
              try clear hx142_2
              try clear hx142_3
              try clear p142
              try clear q142
              obtain ⟨x4_2, rfl, HA, HK2, HB⟩ := hrel
              cases gk with
              | zero => exact absurd HA.out (by simp [vinculumref08_Valid.l1])
              | succ k2 =>
                have H := HA.out
                clear HA
                simp only [vinculumref08_Valid.l1] at H
                by_cases c7 : x4_2 < x3_1
                · rw [if_pos c7] at H
                  have c7b0 : decide (x4_2 < x3_1) = true := decide_eq_true c7
                  clear c7
                  by_cases c8 : 0 ≤ x4_2
                  · rw [if_pos c8] at H
                    have c8b0 : decide (0 ≤ x4_2) = true := decide_eq_true c8
                    clear c8
                    by_cases c9 : x4_2 < (l0.length : Int)
                    · rw [if_pos c9] at H
                      have c9b0 : decide (x4_2 < (l0.length : Int)) = true := decide_eq_true c9
                      clear c9
                      by_cases c10 : 0 ≤ x3_1
                      · rw [if_pos c10] at H
                        have c10b0 : decide (0 ≤ x3_1) = true := decide_eq_true c10
                        clear c10
                        by_cases c11 : x3_1 < (l0.length : Int)
                        · rw [if_pos c11] at H
                          have c11b0 : decide (x3_1 < (l0.length : Int)) = true := decide_eq_true c11
                          clear c11
                          by_cases c12 : ((rd_T27 l0 x4_2).f0).toList = ((rd_T27 l0 x3_1).f0).toList
                          · rw [if_pos c12] at H
                            have c12b0 : (((rd_T27 l0 x4_2).f0).toList == ((rd_T27 l0 x3_1).f0).toList) = true := beq_iff_eq.mpr c12
                            have c12b1 : (((rd_T27 l0 x4_2).f0).toList != ((rd_T27 l0 x3_1).f0).toList) = false := bne_eq_false_iff_eq.mpr c12
                            clear c12
                            obtain rfl := Option.some.inj H
                            have p144 : 0 ≤ (x4_2 : Int) := of_decide_eq_true (by first | (with_reducible assumption) | assumption)
                            have q144 : x4_2 < (l0.length : Int) := of_decide_eq_true (by first | (with_reducible assumption) | assumption)
                            obtain ⟨ad144, e144, hx144_0, hx144_1, hx144_2, hx144_3⟩ := at_T27 HR0.out x4_2 p144 q144
                            obtain rfl : ad142 = ad144 := (by injection e144)
                            replace hx144_0 := (HB.out.cell (World.block_lt_of_cell? w _ hx144_0)).trans hx144_0
                            replace hx144_1 := (HB.out.cell (World.block_lt_of_cell? w _ hx144_1)).trans hx144_1
                            replace hx144_2 := (HB.out.cell (World.block_lt_of_cell? w _ hx144_2)).trans hx144_2
                            replace hx144_3 := (HB.out.cell (World.block_lt_of_cell? w _ hx144_3)).trans hx144_3
                            replace p144 := eq_true p144
                            replace q144 := eq_true q144
                            have p145 : 0 ≤ (x3_1 : Int) := of_decide_eq_true (by first | (with_reducible assumption) | assumption)
                            have q145 : x3_1 < (l0.length : Int) := of_decide_eq_true (by first | (with_reducible assumption) | assumption)
                            obtain ⟨ad145, e145, hx145_0, hx145_1, hx145_2, hx145_3⟩ := at_T27 HR0.out x3_1 p145 q145
                            obtain rfl : ad142 = ad145 := (by injection e145)
                            replace hx145_0 := (HB.out.cell (World.block_lt_of_cell? w _ hx145_0)).trans hx145_0
                            replace hx145_1 := (HB.out.cell (World.block_lt_of_cell? w _ hx145_1)).trans hx145_1
                            replace hx145_2 := (HB.out.cell (World.block_lt_of_cell? w _ hx145_2)).trans hx145_2
                            replace hx145_3 := (HB.out.cell (World.block_lt_of_cell? w _ hx145_3)).trans hx145_3
                            replace p145 := eq_true p145
                            replace q145 := eq_true q145
                            go_wp2
                            repeat (go_quiet (fail); try go_wp2)
                            go_ret
                            exact ⟨by first | rfl | (simp [errW_none, errW_some] <;> rfl) | (simp [*, errW_none, errW_some] <;> rfl), by repeat (first | (with_reducible first | exact HB.out | apply below_alloc | apply pw_below_drewN | apply below_drew1) | exact HB.out)⟩
                          · rw [if_neg c12] at H
                            have c12b0 : (((rd_T27 l0 x4_2).f0).toList == ((rd_T27 l0 x3_1).f0).toList) = false := beq_eq_false_iff_ne.mpr c12
                            have c12b1 : (((rd_T27 l0 x4_2).f0).toList != ((rd_T27 l0 x3_1).f0).toList) = true := bne_iff_ne.mpr c12
                            have H' := Aside0.mk H
                            clear H
                            have p144 : 0 ≤ (x4_2 : Int) := of_decide_eq_true (by first | (with_reducible assumption) | assumption)
                            have q144 : x4_2 < (l0.length : Int) := of_decide_eq_true (by first | (with_reducible assumption) | assumption)
                            obtain ⟨ad144, e144, hx144_0, hx144_1, hx144_2, hx144_3⟩ := at_T27 HR0.out x4_2 p144 q144
                            obtain rfl : ad142 = ad144 := (by injection e144)
                            replace hx144_0 := (HB.out.cell (World.block_lt_of_cell? w _ hx144_0)).trans hx144_0
                            replace hx144_1 := (HB.out.cell (World.block_lt_of_cell? w _ hx144_1)).trans hx144_1
                            replace hx144_2 := (HB.out.cell (World.block_lt_of_cell? w _ hx144_2)).trans hx144_2
                            replace hx144_3 := (HB.out.cell (World.block_lt_of_cell? w _ hx144_3)).trans hx144_3
                            replace p144 := eq_true p144
                            replace q144 := eq_true q144
                            have p145 : 0 ≤ (x3_1 : Int) := of_decide_eq_true (by first | (with_reducible assumption) | assumption)
                            have q145 : x3_1 < (l0.length : Int) := of_decide_eq_true (by first | (with_reducible assumption) | assumption)
                            obtain ⟨ad145, e145, hx145_0, hx145_1, hx145_2, hx145_3⟩ := at_T27 HR0.out x3_1 p145 q145
                            obtain rfl : ad142 = ad145 := (by injection e145)
                            replace hx145_0 := (HB.out.cell (World.block_lt_of_cell? w _ hx145_0)).trans hx145_0
                            replace hx145_1 := (HB.out.cell (World.block_lt_of_cell? w _ hx145_1)).trans hx145_1
                            replace hx145_2 := (HB.out.cell (World.block_lt_of_cell? w _ hx145_2)).trans hx145_2
                            replace hx145_3 := (HB.out.cell (World.block_lt_of_cell? w _ hx145_3)).trans hx145_3
                            replace p145 := eq_true p145
                            replace q145 := eq_true q145
                            go_wp2
                            repeat (go_quiet (fail); try go_wp2)
                            go_roundg k2
                            case measure => have := HK1.out; have := HK2.out; omega
                            case rel => exact ⟨(wrap64 (x4_2 + 1)), (by first | rfl | (simp; done) | (simp [*]; done)), H', ⟨by have := HK1.out; have := HK2.out; omega⟩, ⟨by repeat (first | (with_reducible first | exact HB.out | apply below_alloc | apply pw_below_drewN | apply below_drew1) | exact HB.out)⟩⟩
                        · rw [if_neg c11] at H
                          exact absurd H (by simp)
                      · rw [if_neg c10] at H
                        exact absurd H (by simp)
                    · rw [if_neg c9] at H
                      exact absurd H (by simp)
                  · rw [if_neg c8] at H
                    exact absurd H (by simp)
                · rw [if_neg c7] at H
                  have c7b0 : decide (x4_2 < x3_1) = false := decide_eq_false c7
                  clear c7
                  have H' := Aside0.mk H
                  clear H
                  go_wp2
                  repeat (go_quiet (fail); try go_wp2)
                  go_roundg k2
                  case measure => have := HK1.out; have := HK2.out; omega
                  case rel => exact ⟨(wrap64 (x3_1 + 1)), (by first | rfl | (simp; done) | (simp [*]; done)), H', ⟨by have := HK1.out; have := HK2.out; omega⟩, ⟨by repeat (first | (with_reducible first | exact HB.out | apply below_alloc | apply pw_below_drewN | apply below_drew1) | exact HB.out)⟩⟩
          · replace c5 := Bool.eq_false_iff.mpr c5
            subst c5
            have H1 : (some false) = some r := by rw [if_neg (show ¬ (false = true) by decide)] at H; exact H
            clear H
            have H := H1
            clear H1
            obtain rfl := Option.some.inj H
            have p142 : 0 ≤ (x3_1 : Int) := of_decide_eq_true (by first | (with_reducible assumption) | assumption)
            have q142 : x3_1 < (l0.length : Int) := of_decide_eq_true (by first | (with_reducible assumption) | assumption)
            obtain ⟨ad142, e142, hx142_0, hx142_1, hx142_2, hx142_3⟩ := at_T27 HR0.out x3_1 p142 q142
            cases e142
            replace hx142_0 := (HB.out.cell (World.block_lt_of_cell? w _ hx142_0)).trans hx142_0
            replace hx142_1 := (HB.out.cell (World.block_lt_of_cell? w _ hx142_1)).trans hx142_1
            replace hx142_2 := (HB.out.cell (World.block_lt_of_cell? w _ hx142_2)).trans hx142_2
            replace hx142_3 := (HB.out.cell (World.block_lt_of_cell? w _ hx142_3)).trans hx142_3
            replace p142 := eq_true p142
            replace q142 := eq_true q142
            go_wp2_with (first | (go_at_call 21; (with_reducible refine (vinculumref08_proper.calls k1 ((rd_T27 l0 x3_1).f0) ((rd_T27 l0 x3_1).f1) ((rd_T27 l0 x3_1).f2) ((rd_T27 l0 x3_1).f3) false _ A4.out).mono ?_); rintro e w13 ⟨rfl, hb⟩; have n0_ := Aside0.mk (below_step (by repeat (first | (with_reducible first | exact HB.out | apply below_alloc | apply pw_below_drewN | apply below_drew1) | exact HB.out)) hb); clear HB; have HB := n0_; clear n0_; (try clear hb); (try clear hb2); (try clear hk); (try clear hi)))
            repeat (go_quiet (first | (go_at_call 21; (with_reducible refine (vinculumref08_proper.calls k1 ((rd_T27 l0 x3_1).f0) ((rd_T27 l0 x3_1).f1) ((rd_T27 l0 x3_1).f2) ((rd_T27 l0 x3_1).f3) false _ A4.out).mono ?_); rintro e w13 ⟨rfl, hb⟩; have n0_ := Aside0.mk (below_step (by repeat (first | (with_reducible first | exact HB.out | apply below_alloc | apply pw_below_drewN | apply below_drew1) | exact HB.out)) hb); clear HB; have HB := n0_; clear n0_; (try clear hb); (try clear hb2); (try clear hk); (try clear hi))); try go_wp2_with (first | (go_at_call 21; (with_reducible refine (vinculumref08_proper.calls k1 ((rd_T27 l0 x3_1).f0) ((rd_T27 l0 x3_1).f1) ((rd_T27 l0 x3_1).f2) ((rd_T27 l0 x3_1).f3) false _ A4.out).mono ?_); rintro e w13 ⟨rfl, hb⟩; have n0_ := Aside0.mk (below_step (by repeat (first | (with_reducible first | exact HB.out | apply below_alloc | apply pw_below_drewN | apply below_drew1) | exact HB.out)) hb); clear HB; have HB := n0_; clear n0_; (try clear hb); (try clear hb2); (try clear hk); (try clear hi))))
            go_ret
            exact ⟨by first | rfl | (simp [errW_none, errW_some] <;> rfl) | (simp [*, errW_none, errW_some] <;> rfl), by repeat (first | (with_reducible first | exact HB.out | apply below_alloc | apply pw_below_drewN | apply below_drew1) | exact HB.out)⟩
        · rw [if_neg c3] at H
          exact absurd H (by simp)
      · rw [if_neg c2] at H
        have c2b0 : decide (x3_1 < (l0.length : Int)) = false := decide_eq_false c2
        clear c2
        obtain rfl := Option.some.inj H
        go_wp2
        repeat (go_quiet (fail); try go_wp2)
        go_ret
        exact ⟨by first | rfl | (simp [errW_none, errW_some] <;> rfl) | (simp [*, errW_none, errW_some] <;> rfl), by repeat (first | (with_reducible first | exact HB.out | apply below_alloc | apply pw_below_drewN | apply below_drew1) | exact HB.out)⟩

/-! ### vinculumlaw08_OpdictValid: function 4 -/
def vinculumlaw08_OpdictValid.f (k : Nat) (l0 : List (S27)) : Option (Bool) := (vinculumlaw08_awake.f).bind fun t146 => (if t146 = true then (if (l0.length : Int) > 250 then (some true) else ((opdict_Valid.f l0).bind fun t147 => ((vinculumref08_Valid.f k l0).bind fun t148 => (some (t147 == t148))))) else (some false))
theorem vinculumlaw08_OpdictValid.mono : ∀ a0 k, LeO (vinculumlaw08_OpdictValid.f k a0) (vinculumlaw08_OpdictValid.f (k + 1) a0) := by
  intro a0 k
  unfold vinculumlaw08_OpdictValid.f
  repeat' first
      | (with_reducible exact vinculumref08_Valid.mono _ _)
      | (with_reducible exact LeO.refl _)
      | (with_reducible exact LeO.none _)
      | (with_reducible refine LeO.ite ?_ ?_)
      | (with_reducible refine LeO.bind ?_ (fun _ => ?_))
      | exact vinculumref08_Valid.mono _ _
      | exact LeO.none _
      | refine LeO.ite ?_ ?_
      | refine LeO.bind ?_ (fun _ => ?_)
set_option maxHeartbeats 8000000 in
set_option maxRecDepth 100000 in
theorem vinculumlaw08_OpdictValid.calls (k : Nat) (A0 : Option Addr) (c0 : Nat) (l0 : List (S27)) (r : Bool) (w : World) (hr0 : Kd.C k27 w A0 l0.length l0) (hc0 : l0.length ≤ c0) (h : vinculumlaw08_OpdictValid.f k l0 = some r) :
    Calls Try.prog 4 #[.slice A0 l0.length c0] w fun e w' => e = .returned (.bool r) ∧ Below w.heap.size w w' := by
  have HR0 := Aside0.mk hr0
  have HC0 := Aside0.mk hc0
  clear hr0 hc0
  have HB := Aside0.mk (Below.refl w.heap.size w)
  have H : ((vinculumlaw08_awake.f).bind fun t146 => (if t146 = true then (if (l0.length : Int) > 250 then (some true) else ((opdict_Valid.f l0).bind fun t147 => ((vinculumref08_Valid.f k l0).bind fun t148 => (some (t147 == t148))))) else (some false))) = some r := h
  clear h
  replace H := Option.bind_eq_some_iff.mp H
  obtain ⟨t146, A20, H⟩ := H
  replace H : (if t146 = true then (if (l0.length : Int) > 250 then (some true) else ((opdict_Valid.f l0).bind fun t147 => ((vinculumref08_Valid.f k l0).bind fun t148 => (some (t147 == t148))))) else (some false)) = some r := H
  have A2 := Aside0.mk A20
  clear A20
  by_cases c3 : t146 = true
  · subst c3
    have H1 : (if (l0.length : Int) > 250 then (some true) else ((opdict_Valid.f l0).bind fun t147 => ((vinculumref08_Valid.f k l0).bind fun t148 => (some (t147 == t148))))) = some r := by rw [if_pos rfl] at H; exact H
    clear H
    have H := H1
    clear H1
    by_cases c4 : (l0.length : Int) > 250
    · rw [if_pos c4] at H
      have c4b0 : decide (250 < (l0.length : Int)) = true := decide_eq_true c4
      have c4b1 : decide (250 < l0.length) = true := decide_eq_true (by omega)
      clear c4
      obtain rfl := Option.some.inj H
      go_enter Try.func4, Try.ntmps4
      go_wp2_with (first | ((with_reducible refine gate_callee (f := 9) rfl ?_); refine goesL_ (some 3) rfl rfl Try.func9 (by kernel_rfl) rfl #[] rfl (by (try simp only [List.map_toArray, List.map_cons, List.map_nil]); first | done | rfl | (simp only [List.length_drop, List.length_take]; rfl)) ?_; (with_reducible refine (vinculumlaw08_awake.calls  true _ A2.out).mono ?_); rintro e w5 ⟨rfl, hb⟩; refine ⟨_, rfl, ?_⟩; have n0_ := Aside0.mk (below_step (by repeat (first | (with_reducible first | exact HB.out | apply below_alloc | apply pw_below_drewN | apply below_drew1) | exact HB.out)) hb); clear HB; have HB := n0_; clear n0_; (try clear hb); (try clear hb2); (try clear hk); (try clear hi)))
      go_ret
      exact ⟨by first | rfl | (simp [errW_none, errW_some] <;> rfl) | (simp [*, errW_none, errW_some] <;> rfl), by repeat (first | (with_reducible first | exact HB.out | apply below_alloc | apply pw_below_drewN | apply below_drew1) | exact HB.out)⟩
    · rw [if_neg c4] at H
      have c4b0 : decide (250 < (l0.length : Int)) = false := decide_eq_false c4
      have c4b1 : decide (250 < l0.length) = false := decide_eq_false (by omega)
      clear c4
      replace H := Option.bind_eq_some_iff.mp H
      obtain ⟨t147, A60, H⟩ := H
      replace H : ((vinculumref08_Valid.f k l0).bind fun t148 => (some (t147 == t148))) = some r := H
      have A6 := Aside0.mk A60
      clear A60
      replace H := Option.bind_eq_some_iff.mp H
      obtain ⟨t148, A70, H⟩ := H
      replace H : (some (t147 == t148)) = some r := H
      have A7 := Aside0.mk A70
      clear A70
      obtain rfl := Option.some.inj H
      go_enter Try.func4, Try.ntmps4
      go_wp2_with (first | ((with_reducible refine gate_callee (f := 9) rfl ?_); refine goesL_ (some 3) rfl rfl Try.func9 (by kernel_rfl) rfl #[] rfl (by (try simp only [List.map_toArray, List.map_cons, List.map_nil]); first | done | rfl | (simp only [List.length_drop, List.length_take]; rfl)) ?_; (with_reducible refine (vinculumlaw08_awake.calls  true _ A2.out).mono ?_); rintro e w8 ⟨rfl, hb⟩; refine ⟨_, rfl, ?_⟩; have n0_ := Aside0.mk (below_step (by repeat (first | (with_reducible first | exact HB.out | apply below_alloc | apply pw_below_drewN | apply below_drew1) | exact HB.out)) hb); clear HB; have HB := n0_; clear n0_; (try clear hb); (try clear hb2); (try clear hk); (try clear hi)) | (go_at_call 14; (with_reducible refine (opdict_Valid.calls _ _ l0 t147 _ ?side1 ?side2 A6.out).mono ?_); (case side1 => repeat (first | exact (Kd.C_below HR0.out HB.out) | (with_reducible refine Kd.C_alloc ?_ _) | (with_reducible refine Kd.C_drewN ?_ _) | (with_reducible refine Kd.C_drew ?_))); (case side2 => exact HC0.out); rintro e w9 ⟨rfl, hb⟩; have n0_ := Aside0.mk (below_step (by repeat (first | (with_reducible first | exact HB.out | apply below_alloc | apply pw_below_drewN | apply below_drew1) | exact HB.out)) hb); clear HB; have HB := n0_; clear n0_; (try clear hb); (try clear hb2); (try clear hk); (try clear hi)) | (go_at_call 15; (with_reducible refine (vinculumref08_Valid.calls k _ _ l0 t148 _ ?side1 ?side2 A7.out).mono ?_); (case side1 => repeat (first | exact (Kd.C_below HR0.out HB.out) | (with_reducible refine Kd.C_alloc ?_ _) | (with_reducible refine Kd.C_drewN ?_ _) | (with_reducible refine Kd.C_drew ?_))); (case side2 => exact HC0.out); rintro e w10 ⟨rfl, hb⟩; have n0_ := Aside0.mk (below_step (by repeat (first | (with_reducible first | exact HB.out | apply below_alloc | apply pw_below_drewN | apply below_drew1) | exact HB.out)) hb); clear HB; have HB := n0_; clear n0_; (try clear hb); (try clear hb2); (try clear hk); (try clear hi)))
      go_ret
      exact ⟨by first | rfl | (simp [errW_none, errW_some] <;> rfl) | (simp [*, errW_none, errW_some] <;> rfl), by repeat (first | (with_reducible first | exact HB.out | apply below_alloc | apply pw_below_drewN | apply below_drew1) | exact HB.out)⟩
  · replace c3 := Bool.eq_false_iff.mpr c3
    subst c3
    have H1 : (some false) = some r := by rw [if_neg (show ¬ (false = true) by decide)] at H; exact H
    clear H
    have H := H1
    clear H1
    obtain rfl := Option.some.inj H
    go_enter Try.func4, Try.ntmps4
    go_wp2_with (first | ((with_reducible refine gate_callee (f := 9) rfl ?_); refine goesL_ (some 3) rfl rfl Try.func9 (by kernel_rfl) rfl #[] rfl (by (try simp only [List.map_toArray, List.map_cons, List.map_nil]); first | done | rfl | (simp only [List.length_drop, List.length_take]; rfl)) ?_; (with_reducible refine (vinculumlaw08_awake.calls  false _ A2.out).mono ?_); rintro e w11 ⟨rfl, hb⟩; refine ⟨_, rfl, ?_⟩; have n0_ := Aside0.mk (below_step (by repeat (first | (with_reducible first | exact HB.out | apply below_alloc | apply pw_below_drewN | apply below_drew1) | exact HB.out)) hb); clear HB; have HB := n0_; clear n0_; (try clear hb); (try clear hb2); (try clear hk); (try clear hi)))
    go_ret
    exact ⟨by first | rfl | (simp [errW_none, errW_some] <;> rfl) | (simp [*, errW_none, errW_some] <;> rfl), by repeat (first | (with_reducible first | exact HB.out | apply below_alloc | apply pw_below_drewN | apply below_drew1) | exact HB.out)⟩

/-! ### vinculumlaw08_OpdictOrder: function 5 -/
mutual
def vinculumlaw08_OpdictOrder.j0 : Nat → List (S27) → ByteArray → Bool → Option (Bool)
  | 0, _, _, _ => none
  | k + 1, x0, x1, x16 => if x16 = true then (some true) else (vinculumlaw08_OpdictOrder.l0 k x0 x1 ([] : List (S27)) (wrap64 ((x0.length : Int) - 1)))
def vinculumlaw08_OpdictOrder.l0 : Nat → List (S27) → ByteArray → List (S27) → Int → Option (Bool)
  | 0, _, _, _, _ => none
  | k + 1, x0, x1, x5, x6 => if x6 ≥ 0 then (if 0 ≤ x6 then (if x6 < (x0.length : Int) then (if x5.length < 4398046511104 then (vinculumlaw08_OpdictOrder.l0 k x0 x1 (x5 ++ [(⟨(rd_T27 x0 x6).f0, (rd_T27 x0 x6).f1, (rd_T27 x0 x6).f2, (rd_T27 x0 x6).f3⟩ : S27)]) (wrap64 (x6 - 1))) else (none)) else (none)) else (none)) else ((opdict_Valid.f x5).bind fun t155 => (if t155 = true then ((opdict_Find.f x0 x1).bind fun bt156 => ((opdict_Find.f x5 x1).bind fun bt160 => (some (bt156.1.toList == bt160.1.toList && (bt156.2.1 == bt160.2.1 && (bt156.2.2.1 == bt160.2.2.1 && (bt156.2.2.2 == bt160.2.2.2))))))) else (some false)))
end
def vinculumlaw08_OpdictOrder.f (k : Nat) (l0 : List (S27)) (a1 : ByteArray) : Option (Bool) := (vinculumlaw08_awake.f).bind fun t149 => (if t149 = true then (if (l0.length : Int) > 250 then (vinculumlaw08_OpdictOrder.j0 k l0 a1 true) else ((opdict_Valid.f l0).bind fun t150 => (vinculumlaw08_OpdictOrder.j0 k l0 a1 (!t150)))) else (some false))
theorem vinculumlaw08_OpdictOrder.mono_l : ∀ k, (∀ y0 y1 y2, LeO (vinculumlaw08_OpdictOrder.j0 k y0 y1 y2) (vinculumlaw08_OpdictOrder.j0 (k + 1) y0 y1 y2)) ∧ (∀ y0 y1 y2 y3, LeO (vinculumlaw08_OpdictOrder.l0 k y0 y1 y2 y3) (vinculumlaw08_OpdictOrder.l0 (k + 1) y0 y1 y2 y3))
  | 0 => ⟨fun _ _ _ r h => by simp [vinculumlaw08_OpdictOrder.j0] at h, fun _ _ _ _ r h => by simp [vinculumlaw08_OpdictOrder.l0] at h⟩
  | k + 1 => by
    obtain ⟨ih0, ih1⟩ := vinculumlaw08_OpdictOrder.mono_l k
    refine ⟨?_, ?_⟩
    · intro y0 y1 y2
      unfold vinculumlaw08_OpdictOrder.j0
      repeat' first
      | (with_reducible exact ih0 _ _ _)
      | (with_reducible exact ih1 _ _ _ _)
      | (with_reducible exact LeO.refl _)
      | (with_reducible exact LeO.none _)
      | (with_reducible refine LeO.ite ?_ ?_)
      | (with_reducible refine LeO.bind ?_ (fun _ => ?_))
      | exact ih0 _ _ _
      | exact ih1 _ _ _ _
      | exact LeO.none _
      | refine LeO.ite ?_ ?_
      | refine LeO.bind ?_ (fun _ => ?_)
    · intro y0 y1 y2 y3
      unfold vinculumlaw08_OpdictOrder.l0
      repeat' first
      | (with_reducible exact ih0 _ _ _)
      | (with_reducible exact ih1 _ _ _ _)
      | (with_reducible exact LeO.refl _)
      | (with_reducible exact LeO.none _)
      | (with_reducible refine LeO.ite ?_ ?_)
      | (with_reducible refine LeO.bind ?_ (fun _ => ?_))
      | exact ih0 _ _ _
      | exact ih1 _ _ _ _
      | exact LeO.none _
      | refine LeO.ite ?_ ?_
      | refine LeO.bind ?_ (fun _ => ?_)
theorem vinculumlaw08_OpdictOrder.mono : ∀ a0 a1 k, LeO (vinculumlaw08_OpdictOrder.f k a0 a1) (vinculumlaw08_OpdictOrder.f (k + 1) a0 a1) := by
  intro a0 a1 k
  obtain ⟨ih0, ih1⟩ := vinculumlaw08_OpdictOrder.mono_l k
  unfold vinculumlaw08_OpdictOrder.f
  repeat' first
      | (with_reducible exact ih0 _ _ _)
      | (with_reducible exact ih1 _ _ _ _)
      | (with_reducible exact LeO.refl _)
      | (with_reducible exact LeO.none _)
      | (with_reducible refine LeO.ite ?_ ?_)
      | (with_reducible refine LeO.bind ?_ (fun _ => ?_))
      | exact ih0 _ _ _
      | exact ih1 _ _ _ _
      | exact LeO.none _
      | refine LeO.ite ?_ ?_
      | refine LeO.bind ?_ (fun _ => ?_)
set_option maxHeartbeats 8000000 in
set_option maxRecDepth 100000 in
theorem vinculumlaw08_OpdictOrder.calls (k : Nat) (A0 : Option Addr) (c0 : Nat) (l0 : List (S27)) (a1 : ByteArray) (r : Bool) (w : World) (hr0 : Kd.C k27 w A0 l0.length l0) (hc0 : l0.length ≤ c0) (h : vinculumlaw08_OpdictOrder.f k l0 a1 = some r) :
    Calls Try.prog 5 #[.slice A0 l0.length c0, .string a1] w fun e w' => e = .returned (.bool r) ∧ Below w.heap.size w w' := by
  have hu27 := Try.underlying27
  have HR0 := Aside0.mk hr0
  have HC0 := Aside0.mk hc0
  clear hr0 hc0
  have HB := Aside0.mk (Below.refl w.heap.size w)
  have H : ((vinculumlaw08_awake.f).bind fun t149 => (if t149 = true then (if (l0.length : Int) > 250 then (vinculumlaw08_OpdictOrder.j0 k l0 a1 true) else ((opdict_Valid.f l0).bind fun t150 => (vinculumlaw08_OpdictOrder.j0 k l0 a1 (!t150)))) else (some false))) = some r := h
  clear h
  replace H := Option.bind_eq_some_iff.mp H
  obtain ⟨t149, A30, H⟩ := H
  replace H : (if t149 = true then (if (l0.length : Int) > 250 then (vinculumlaw08_OpdictOrder.j0 k l0 a1 true) else ((opdict_Valid.f l0).bind fun t150 => (vinculumlaw08_OpdictOrder.j0 k l0 a1 (!t150)))) else (some false)) = some r := H
  have A3 := Aside0.mk A30
  clear A30
  by_cases c4 : t149 = true
  · subst c4
    have H1 : (if (l0.length : Int) > 250 then (vinculumlaw08_OpdictOrder.j0 k l0 a1 true) else ((opdict_Valid.f l0).bind fun t150 => (vinculumlaw08_OpdictOrder.j0 k l0 a1 (!t150)))) = some r := by rw [if_pos rfl] at H; exact H
    clear H
    have H := H1
    clear H1
    have HC5 := Aside0.mk H
    clear H
    go_enter Try.func5, Try.ntmps5
    go_upto_region 3 with (first | ((with_reducible refine gate_callee (f := 9) rfl ?_); refine goesL_ (some 7) rfl rfl Try.func9 (by kernel_rfl) rfl #[] rfl (by (try simp only [List.map_toArray, List.map_cons, List.map_nil]); first | done | rfl | (simp only [List.length_drop, List.length_take]; rfl)) ?_; (with_reducible refine (vinculumlaw08_awake.calls  true _ A3.out).mono ?_); rintro e w6 ⟨rfl, hb⟩; refine ⟨_, rfl, ?_⟩; have n0_ := Aside0.mk (below_step (by repeat (first | (with_reducible first | exact HB.out | apply below_alloc | apply pw_below_drewN | apply below_drew1) | exact HB.out)) hb); clear HB; have HB := n0_; clear n0_; (try clear hb); (try clear hb2); (try clear hk); (try clear hi)))
    (try simp only [Act.put, List.setIfInBounds_toArray, List.set_cons_zero, List.set_cons_succ])
    go_cut [16] (fun v16 wc => ∃ (kq : Nat) (x16_4 : Bool), v16 = .bool x16_4 ∧ Aside0 (vinculumlaw08_OpdictOrder.j0 kq l0 a1 x16_4 = some r) ∧ Aside0 (kq ≤ k) ∧ Aside0 (Below w.heap.size w wc))
    case first =>
      have H := HC5.out
      clear HC5
      by_cases c7 : (l0.length : Int) > 250
      · rw [if_pos c7] at H
        have c7b0 : decide (250 < (l0.length : Int)) = true := decide_eq_true c7
        have c7b1 : decide (250 < l0.length) = true := decide_eq_true (by omega)
        clear c7
        (first | rw [c7b0] | (simp only [i64_w, i32_w]; rw [c7b0]) | skip)
        have H' := Aside0.mk H
        clear H
        go_wp2
        go_meet
        case rel => exact ⟨_, (true), (by first | rfl | (simp; done) | (simp [*]; done)), H', ⟨by first | omega | exact Nat.le_refl _⟩, ⟨by repeat (first | (with_reducible first | exact HB.out | apply below_alloc | apply pw_below_drewN | apply below_drew1) | exact HB.out)⟩⟩
      · rw [if_neg c7] at H
        have c7b0 : decide (250 < (l0.length : Int)) = false := decide_eq_false c7
        have c7b1 : decide (250 < l0.length) = false := decide_eq_false (by omega)
        clear c7
        (first | rw [c7b0] | (simp only [i64_w, i32_w]; rw [c7b0]) | skip)
        replace H := Option.bind_eq_some_iff.mp H
        obtain ⟨t150, A80, H⟩ := H
        replace H : (vinculumlaw08_OpdictOrder.j0 k l0 a1 (!t150)) = some r := H
        have A8 := Aside0.mk A80
        clear A80
        have H' := Aside0.mk H
        clear H
        go_wp2_with (first | (go_at_call 14; (with_reducible refine (opdict_Valid.calls _ _ l0 t150 _ ?side1 ?side2 A8.out).mono ?_); (case side1 => repeat (first | exact (Kd.C_below HR0.out HB.out) | (with_reducible refine Kd.C_alloc ?_ _) | (with_reducible refine Kd.C_drewN ?_ _) | (with_reducible refine Kd.C_drew ?_))); (case side2 => exact HC0.out); rintro e w9 ⟨rfl, hb⟩; have n0_ := Aside0.mk (below_step (by repeat (first | (with_reducible first | exact HB.out | apply below_alloc | apply pw_below_drewN | apply below_drew1) | exact HB.out)) hb); clear HB; have HB := n0_; clear n0_; (try clear hb); (try clear hb2); (try clear hk); (try clear hi)))
        go_meet
        case rel => exact ⟨_, (!t150), (by first | rfl | (simp; done) | (simp [*]; done)), H', ⟨by first | omega | exact Nat.le_refl _⟩, ⟨by repeat (first | (with_reducible first | exact HB.out | apply below_alloc | apply pw_below_drewN | apply below_drew1) | exact HB.out)⟩⟩
    case rest =>
      clear HC5
      try clear p2
      try clear c4
      try clear c5
      try clear c7
      try clear c7b0
      try clear c7b1
      try clear c9
      obtain ⟨kq, x16_4, rfl, HA, HJ4, HB⟩ := hcut
      cases kq with
      | zero => exact absurd HA.out (by simp [vinculumlaw08_OpdictOrder.j0])
      | succ kj4 =>
        have H := HA.out
        clear HA
        simp only [vinculumlaw08_OpdictOrder.j0] at H
        by_cases c10 : x16_4 = true
        · subst c10
          have H1 : (some true) = some r := by rw [if_pos rfl] at H; exact H
          clear H
          have H := H1
          clear H1
          obtain rfl := Option.some.inj H
          go_wp2
          go_ret
          exact ⟨by first | rfl | (simp [errW_none, errW_some] <;> rfl) | (simp [*, errW_none, errW_some] <;> rfl), by repeat (first | (with_reducible first | exact HB.out | apply below_alloc | apply pw_below_drewN | apply below_drew1) | exact HB.out)⟩
        · replace c10 := Bool.eq_false_iff.mpr c10
          subst c10
          have H1 : (vinculumlaw08_OpdictOrder.l0 kj4 l0 a1 ([] : List (S27)) (wrap64 ((l0.length : Int) - 1))) = some r := by rw [if_neg (show ¬ (false = true) by decide)] at H; exact H
          clear H
          have H := H1
          clear H1
          have H' := Aside0.mk H
          clear H
          go_wp2
          go_loopg [5, 6] kj4 (fun kq v5 v6 w' => ∃ (x5_2 : List (S27)) (x6_2 : Int), v6 = .int .i64 x6_2 ∧ Aside0 (vinculumlaw08_OpdictOrder.l0 kq l0 a1 x5_2 x6_2 = some r) ∧ Aside0 (kq ≤ kj4) ∧ Aside0 (Kd.R k27 27 w' w.heap.size (fun _ => True) v5 x5_2) ∧ Aside0 (Below w.heap.size w w'))
          case atStart => exact ⟨(([] : List (S27))), (wrap64 ((l0.length : Int) - 1)), (by first | rfl | (simp; done) | (simp [*]; done)), H', ⟨Nat.le_refl _⟩, ⟨by first | exact Kd.R_nil _ _ _ _ _ | exact Kd.N_nil _ _ _ _ _ | exact Kd.V_nil _ _ _ _ _ | exact Kd.Q_nil _ _ _ _ _ | exact Kd.S_nil _ _ _ _ _⟩, ⟨by repeat (first | (with_reducible first | exact HB.out | apply below_alloc | apply pw_below_drewN | apply below_drew1) | exact HB.out)⟩⟩
          case round =>
            clear H'
            try clear c1
            try clear p2
            try clear c4
            try clear c5
            try clear p6
            try clear c7
            try clear c7b0
            try clear c7b1
            try clear c9
            try clear c10
            try clear p2
            obtain ⟨x5_2, x6_2, rfl, HA, HK2, HO_5, HB⟩ := hrel
            cases gk with
            | zero => exact absurd HA.out (by simp [vinculumlaw08_OpdictOrder.l0])
            | succ k2 =>
              have H := HA.out
              clear HA
              simp only [vinculumlaw08_OpdictOrder.l0] at H
              by_cases c11 : x6_2 ≥ 0
              · rw [if_pos c11] at H
                have c11b0 : decide (0 ≤ x6_2) = true := decide_eq_true c11
                clear c11
                by_cases c12 : 0 ≤ x6_2
                · rw [if_pos c12] at H
                  have c12b0 : decide (0 ≤ x6_2) = true := decide_eq_true c12
                  clear c12
                  by_cases c13 : x6_2 < (l0.length : Int)
                  · rw [if_pos c13] at H
                    have c13b0 : decide (x6_2 < (l0.length : Int)) = true := decide_eq_true c13
                    clear c13
                    by_cases c14 : x5_2.length < 4398046511104
                    · rw [if_pos c14] at H
                      have LMc14 := Aside0.mk c14
                      clear c14
                      obtain ⟨y152, hy152⟩ : ∃ y_ : List (S27), y_ = (x5_2 ++ [(⟨(rd_T27 l0 x6_2).f0, (rd_T27 l0 x6_2).f1, (rd_T27 l0 x6_2).f2, (rd_T27 l0 x6_2).f3⟩ : S27)]) := ⟨_, rfl⟩
                      replace H : (vinculumlaw08_OpdictOrder.l0 k2 l0 a1 y152 (wrap64 (x6_2 - 1))) = some r := by first | (rw [hy152]; with_reducible exact H) | (have H2_ := (Option.bind_some _ _).symm.trans H; rw [hy152]; with_reducible exact H2_) | (have H2_ := (Option.bind_some _ _).symm.trans H; with_reducible exact H2_) | with_reducible exact H | (rw [hy152]; exact H) | exact H
                      have Ny152 := Aside0.mk hy152
                      clear hy152
                      have H' := Aside0.mk H
                      clear H
                      have p151 : 0 ≤ (x6_2 : Int) := of_decide_eq_true (by first | (with_reducible assumption) | assumption)
                      have q151 : x6_2 < (l0.length : Int) := of_decide_eq_true (by first | (with_reducible assumption) | assumption)
                      obtain ⟨ad151, e151, hx151_0, hx151_1, hx151_2, hx151_3⟩ := at_T27 HR0.out x6_2 p151 q151
                      cases e151
                      replace hx151_0 := (HB.out.cell (World.block_lt_of_cell? w _ hx151_0)).trans hx151_0
                      replace hx151_1 := (HB.out.cell (World.block_lt_of_cell? w _ hx151_1)).trans hx151_1
                      replace hx151_2 := (HB.out.cell (World.block_lt_of_cell? w _ hx151_2)).trans hx151_2
                      replace hx151_3 := (HB.out.cell (World.block_lt_of_cell? w _ hx151_3)).trans hx151_3
                      replace p151 := eq_true p151
                      replace q151 := eq_true q151
                      go_wp2_with (first | ((with_reducible refine gate_builtin (b := .append) (xs := #[.tmp 24, .tmp 29]) rfl ?_); at_builtin; refine Kd.R_append k27 (w0 := w) w.heap.size rfl (.tmp 24) (.tmp 29) 22 27 (.agg #[(.string ⟨#[]⟩), (.int .i64 0), (.bool false), (.bool false)]) 32 rfl Try.underlying22 info27 rfl (by decide) (by omega) u5 x5_2 (⟨(rd_T27 l0 x6_2).f0, (rd_T27 l0 x6_2).f1, (rd_T27 l0 x6_2).f2, (rd_T27 l0 x6_2).f3⟩ : S27) [.string ((rd_T27 l0 x6_2).f0), .int .i64 ((rd_T27 l0 x6_2).f1), .bool ((rd_T27 l0 x6_2).f2), .bool ((rd_T27 l0 x6_2).f3)] (fun _ => True) (fun _ => False) rfl rfl ?aP (fun _ hk => hk.elim) ?aF ?aO ?aB ?aS ?aL ?_; (case aP => exact k27_mkM _ _ _ (⟨(rd_T27 l0 x6_2).f0, (rd_T27 l0 x6_2).f1, (rd_T27 l0 x6_2).f2, (rd_T27 l0 x6_2).f3⟩ : S27)); (case aB => exact (by repeat (first | (with_reducible first | exact HB.out | apply below_alloc | apply pw_below_drewN | apply below_drew1) | exact HB.out))); (case aF => exact (fun _ _ => trivial)); (case aO => exact (by (with_reducible repeat (first | apply Kd.R_alloc | apply Kd.R_drewN | apply Kd.R_drew)); exact HO_5.out)); (case aS => exact (below_size (by repeat (first | (with_reducible first | exact HB.out | apply below_alloc | apply pw_below_drewN | apply below_drew1) | exact HB.out)))); (case aL => have := LMc14.out; omega); intro v153 w15 ho hb hg hat; rw [← Ny152.out] at ho; have n0_ := Aside0.mk (hb); have n1_ := Aside0.mk (ho); clear HB; clear HO_5; have HB := n0_; have HO154 := n1_; clear n0_ n1_; clear ho hb hg hat))
                      go_roundg k2
                      case measure => have := HJ4.out; have := HK2.out; omega
                      case rel => exact ⟨(y152), (wrap64 (x6_2 - 1)), (by first | rfl | (simp; done) | (simp [*]; done)), H', ⟨by have := HJ4.out; have := HK2.out; omega⟩, ⟨by (with_reducible repeat (first | apply Kd.R_alloc | apply Kd.R_drewN | apply Kd.R_drew)); exact HO154.out⟩, ⟨by repeat (first | (with_reducible first | exact HB.out | apply below_alloc | apply pw_below_drewN | apply below_drew1) | exact HB.out)⟩⟩
                    · rw [if_neg c14] at H
                      exact absurd H (by simp)
                  · rw [if_neg c13] at H
                    exact absurd H (by simp)
                · rw [if_neg c12] at H
                  exact absurd H (by simp)
              · rw [if_neg c11] at H
                have c11b0 : decide (0 ≤ x6_2) = false := decide_eq_false c11
                clear c11
                replace H := Option.bind_eq_some_iff.mp H
                obtain ⟨t155, A160, H⟩ := H
                replace H : (if t155 = true then ((opdict_Find.f l0 a1).bind fun bt156 => ((opdict_Find.f x5_2 a1).bind fun bt160 => (some (bt156.1.toList == bt160.1.toList && (bt156.2.1 == bt160.2.1 && (bt156.2.2.1 == bt160.2.2.1 && (bt156.2.2.2 == bt160.2.2.2))))))) else (some false)) = some r := H
                have A16 := Aside0.mk A160
                clear A160
                by_cases c17 : t155 = true
                · subst c17
                  have H1 : ((opdict_Find.f l0 a1).bind fun bt156 => ((opdict_Find.f x5_2 a1).bind fun bt160 => (some (bt156.1.toList == bt160.1.toList && (bt156.2.1 == bt160.2.1 && (bt156.2.2.1 == bt160.2.2.1 && (bt156.2.2.2 == bt160.2.2.2))))))) = some r := by rw [if_pos rfl] at H; exact H
                  clear H
                  have H := H1
                  clear H1
                  replace H := Option.bind_eq_some_iff.mp H
                  obtain ⟨⟨t156, t157, t158, t159⟩, A180, H⟩ := H
                  replace H : ((opdict_Find.f x5_2 a1).bind fun bt160 => (some (t156.toList == bt160.1.toList && (t157 == bt160.2.1 && (t158 == bt160.2.2.1 && (t159 == bt160.2.2.2)))))) = some r := H
                  have A18 := Aside0.mk A180
                  clear A180
                  replace H := Option.bind_eq_some_iff.mp H
                  obtain ⟨⟨t160, t161, t162, t163⟩, A190, H⟩ := H
                  replace H : (some (t156.toList == t160.toList && (t157 == t161 && (t158 == t162 && (t159 == t163))))) = some r := H
                  have A19 := Aside0.mk A190
                  clear A190
                  obtain rfl := Option.some.inj H
                  obtain ⟨Ao20, co20, eo20⟩ := Kd.R_slice HO_5.out
                  subst eo20
                  go_wp2_with (first | ((with_reducible refine gate_callee (f := 14) rfl ?_); refine goesL_ (some 32) rfl rfl Try.func14 (by kernel_rfl) rfl #[.slice Ao20 x5_2.length co20] rfl (by (try simp only [List.map_toArray, List.map_cons, List.map_nil]); first | done | rfl | (simp only [List.length_drop, List.length_take]; rfl)) ?_; (with_reducible refine (opdict_Valid.calls _ _ x5_2 true _ ?side1 ?side2 A16.out).mono ?_); (case side1 => repeat (first | exact (Kd.R_reads' HO_5.out).2.2 | (with_reducible refine Kd.C_alloc ?_ _) | (with_reducible refine Kd.C_drewN ?_ _) | (with_reducible refine Kd.C_drew ?_))); (case side2 => exact (Kd.R_reads' HO_5.out).2.1); rintro e w21 ⟨rfl, hb⟩; refine ⟨_, rfl, ?_⟩; have n0_ := Aside0.mk (Kd.R_below (by (with_reducible repeat (first | apply Kd.R_alloc | apply Kd.R_drewN | apply Kd.R_drew)); exact HO_5.out) hb); have n1_ := Aside0.mk (below_step (by repeat (first | (with_reducible first | exact HB.out | apply below_alloc | apply pw_below_drewN | apply below_drew1) | exact HB.out)) hb); clear HO_5; clear HB; have HO_5 := n0_; have HB := n1_; clear n0_ n1_; (try clear hb); (try clear hb2); (try clear hk); (try clear hi)) | (go_at_call 12; (with_reducible refine (opdict_Find.calls _ _ l0 a1 t156 t157 t158 t159 _ ?side1 ?side2 A18.out).mono ?_); (case side1 => repeat (first | exact (Kd.C_below HR0.out HB.out) | (with_reducible refine Kd.C_alloc ?_ _) | (with_reducible refine Kd.C_drewN ?_ _) | (with_reducible refine Kd.C_drew ?_))); (case side2 => exact HC0.out); rintro e w22 ⟨rfl, hb⟩; have n0_ := Aside0.mk (Kd.R_below (by (with_reducible repeat (first | apply Kd.R_alloc | apply Kd.R_drewN | apply Kd.R_drew)); exact HO_5.out) hb); have n1_ := Aside0.mk (below_step (by repeat (first | (with_reducible first | exact HB.out | apply below_alloc | apply pw_below_drewN | apply below_drew1) | exact HB.out)) hb); clear HO_5; clear HB; have HO_5 := n0_; have HB := n1_; clear n0_ n1_; (try clear hb); (try clear hb2); (try clear hk); (try clear hi)) | (go_at_call 12; (with_reducible refine (opdict_Find.calls _ _ x5_2 a1 t160 t161 t162 t163 _ ?side1 ?side2 A19.out).mono ?_); (case side1 => repeat (first | exact (Kd.R_reads' HO_5.out).2.2 | (with_reducible refine Kd.C_alloc ?_ _) | (with_reducible refine Kd.C_drewN ?_ _) | (with_reducible refine Kd.C_drew ?_))); (case side2 => exact (Kd.R_reads' HO_5.out).2.1); rintro e w23 ⟨rfl, hb⟩; have n0_ := Aside0.mk (Kd.R_below (by (with_reducible repeat (first | apply Kd.R_alloc | apply Kd.R_drewN | apply Kd.R_drew)); exact HO_5.out) hb); have n1_ := Aside0.mk (below_step (by repeat (first | (with_reducible first | exact HB.out | apply below_alloc | apply pw_below_drewN | apply below_drew1) | exact HB.out)) hb); clear HO_5; clear HB; have HO_5 := n0_; have HB := n1_; clear n0_ n1_; (try clear hb); (try clear hb2); (try clear hk); (try clear hi)))
                  go_ret
                  exact ⟨by first | rfl | (simp [errW_none, errW_some] <;> rfl) | (simp [*, errW_none, errW_some] <;> rfl), by repeat (first | (with_reducible first | exact HB.out | apply below_alloc | apply pw_below_drewN | apply below_drew1) | exact HB.out)⟩
                · replace c17 := Bool.eq_false_iff.mpr c17
                  subst c17
                  have H1 : (some false) = some r := by rw [if_neg (show ¬ (false = true) by decide)] at H; exact H
                  clear H
                  have H := H1
                  clear H1
                  obtain rfl := Option.some.inj H
                  obtain ⟨Ao24, co24, eo24⟩ := Kd.R_slice HO_5.out
                  subst eo24
                  go_wp2_with (first | ((with_reducible refine gate_callee (f := 14) rfl ?_); refine goesL_ (some 32) rfl rfl Try.func14 (by kernel_rfl) rfl #[.slice Ao24 x5_2.length co24] rfl (by (try simp only [List.map_toArray, List.map_cons, List.map_nil]); first | done | rfl | (simp only [List.length_drop, List.length_take]; rfl)) ?_; (with_reducible refine (opdict_Valid.calls _ _ x5_2 false _ ?side1 ?side2 A16.out).mono ?_); (case side1 => repeat (first | exact (Kd.R_reads' HO_5.out).2.2 | (with_reducible refine Kd.C_alloc ?_ _) | (with_reducible refine Kd.C_drewN ?_ _) | (with_reducible refine Kd.C_drew ?_))); (case side2 => exact (Kd.R_reads' HO_5.out).2.1); rintro e w25 ⟨rfl, hb⟩; refine ⟨_, rfl, ?_⟩; have n0_ := Aside0.mk (Kd.R_below (by (with_reducible repeat (first | apply Kd.R_alloc | apply Kd.R_drewN | apply Kd.R_drew)); exact HO_5.out) hb); have n1_ := Aside0.mk (below_step (by repeat (first | (with_reducible first | exact HB.out | apply below_alloc | apply pw_below_drewN | apply below_drew1) | exact HB.out)) hb); clear HO_5; clear HB; have HO_5 := n0_; have HB := n1_; clear n0_ n1_; (try clear hb); (try clear hb2); (try clear hk); (try clear hi)))
                  go_ret
                  exact ⟨by first | rfl | (simp [errW_none, errW_some] <;> rfl) | (simp [*, errW_none, errW_some] <;> rfl), by repeat (first | (with_reducible first | exact HB.out | apply below_alloc | apply pw_below_drewN | apply below_drew1) | exact HB.out)⟩
  · replace c4 := Bool.eq_false_iff.mpr c4
    subst c4
    have H1 : (some false) = some r := by rw [if_neg (show ¬ (false = true) by decide)] at H; exact H
    clear H
    have H := H1
    clear H1
    obtain rfl := Option.some.inj H
    go_enter Try.func5, Try.ntmps5
    go_wp2_with (first | ((with_reducible refine gate_callee (f := 9) rfl ?_); refine goesL_ (some 7) rfl rfl Try.func9 (by kernel_rfl) rfl #[] rfl (by (try simp only [List.map_toArray, List.map_cons, List.map_nil]); first | done | rfl | (simp only [List.length_drop, List.length_take]; rfl)) ?_; (with_reducible refine (vinculumlaw08_awake.calls  false _ A3.out).mono ?_); rintro e w26 ⟨rfl, hb⟩; refine ⟨_, rfl, ?_⟩; have n0_ := Aside0.mk (below_step (by repeat (first | (with_reducible first | exact HB.out | apply below_alloc | apply pw_below_drewN | apply below_drew1) | exact HB.out)) hb); clear HB; have HB := n0_; clear n0_; (try clear hb); (try clear hb2); (try clear hk); (try clear hi)))
    go_ret
    exact ⟨by first | rfl | (simp [errW_none, errW_some] <;> rfl) | (simp [*, errW_none, errW_some] <;> rfl), by repeat (first | (with_reducible first | exact HB.out | apply below_alloc | apply pw_below_drewN | apply below_drew1) | exact HB.out)⟩

end Go.Proofs.Ytomogpiahcnmjaa.P
