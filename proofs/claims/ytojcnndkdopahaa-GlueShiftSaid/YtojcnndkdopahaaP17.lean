--m
/- Written by wip/tool/hprint.py (the kit's print.py with hand-proved contracts set in): contracts of the functions that the statements of this seat reach, without conditions beyond those named in each theorem. -/
import Derived.Test.YtojcnndkdopahaaP0
namespace Go.Proofs.Ytojcnndkdopahaa.P
open Go.RowKit Go.Proofs.YtojcnndkdopahaaW.PrintWords Go.Proofs.YtojcnndkdopahaaW.PrintLast Go.Proofs.YtojcnndkdopahaaW.PrintMore
attribute [local go_sem] zas zat zau zav zaw zax zay zaz   -- for this text's walks alone
set_option linter.unusedVariables false
set_option linter.unusedSimpArgs false

/-! ### vinculumref27_Valid: function 15 -/
def vinculumref27_Valid.l0 : Nat → List (S36) → Int → Option (Bool)
 | 0, _, _ => none
 | k + 1, x0, x3 => if x3 < (x0.length : Int) then (if 0 ≤ x3 then (if ((rd_T36 x0 x3).f0) < (-1048576) then (some false) else (if ((rd_T36 x0 x3).f0) > 1048576 then (some false) else (if ((rd_T36 x0 x3).f1) < 0 then (some false) else (if ((rd_T36 x0 x3).f1) > 1048576 then (some false) else (if ((rd_T36 x0 x3).f2) < 0 then (some false) else (if ((rd_T36 x0 x3).f2) > 1048576 then (some false) else (if ((rd_T36 x0 x3).f3) < 0 then (some false) else (if ((rd_T36 x0 x3).f3) > 3 then (some false) else (vinculumref27_Valid.l0 k x0 (wrap64 (x3 + 1))))))))))) else (none)) else (some (decide ((x0.length : Int) ≤ 200)))
def vinculumref27_Valid.f (k : Nat) (l0 : List (S36)) : Option (Bool) := vinculumref27_Valid.l0 k l0 0
theorem vinculumref27_Valid.mono_l : ∀ k, (∀ y0 y1, LeO (vinculumref27_Valid.l0 k y0 y1) (vinculumref27_Valid.l0 (k + 1) y0 y1))
 | 0 => fun _ _ r h => by simp [vinculumref27_Valid.l0] at h
 | k + 1 => by
  have ih0 := vinculumref27_Valid.mono_l k
  ·intro y0 y1
   unfold vinculumref27_Valid.l0
   repeat' first
   | (with_reducible exact ih0 _ _)
   | (with_reducible exact LeO.refl _)
   | (with_reducible exact LeO.none _)
   | (with_reducible refine LeO.ite ?_ ?_)
   | (with_reducible refine LeO.bind ?_ (fun _ => ?_))
   | exact ih0 _ _
   | exact LeO.none _
   | refine LeO.ite ?_ ?_
   | refine LeO.bind ?_ (fun _ => ?_)
theorem vinculumref27_Valid.mono : ∀ a0 k, LeO (vinculumref27_Valid.f k a0) (vinculumref27_Valid.f (k + 1) a0) := by
 intro a0 k
 have ih0 := vinculumref27_Valid.mono_l k
 unfold vinculumref27_Valid.f
 repeat' first
   | (with_reducible exact ih0 _ _)
   | (with_reducible exact LeO.refl _)
   | (with_reducible exact LeO.none _)
   | (with_reducible refine LeO.ite ?_ ?_)
   | (with_reducible refine LeO.bind ?_ (fun _ => ?_))
   | exact ih0 _ _
   | exact LeO.none _
   | refine LeO.ite ?_ ?_
   | refine LeO.bind ?_ (fun _ => ?_)
set_option maxHeartbeats 8000000 in
set_option maxRecDepth 100000 in
theorem vinculumref27_Valid.calls (k : Nat) (A0 : Option Addr) (c0 : Nat) (l0 : List (S36)) (r : Bool) (w : World) (hr0 : Kd.C k36 w A0 l0.length l0) (hc0 : l0.length ≤ c0) (h : vinculumref27_Valid.f k l0 = some r) :
  Calls Try.prog 15 #[.slice A0 l0.length c0] w fun e w' => e = .returned (.bool r) ∧ Below w.heap.size w w' := by
 have hu36 := Try.underlying36
 have HR0 := zaa.mk hr0
 have HC0 := zaa.mk hc0
 clear hr0 hc0
 have HB := zaa.mk (Below.refl w.heap.size w)
 have H : (vinculumref27_Valid.l0 k l0 0) = some r := h
 clear h
 have H' := zaa.mk H
 clear H
 go_enter Try.func15, Try.ntmps15
 go_wp2
 go_loopg [3] k (fun kq v3 w' => ∃ (x3_1 : Int), v3 = .int .i64 x3_1 ∧ zaa (vinculumref27_Valid.l0 kq l0 x3_1 = some r) ∧ zaa (kq ≤ k) ∧ zaa (Below w.heap.size w w'))
 case atStart => exact ⟨(0), (by first | rfl | (simp; done) | (simp [*]; done)), H', ⟨Nat.le_refl _⟩, ⟨by repeat (first | (with_reducible first | exact HB.o | apply zad | apply zaf | apply zae) | exact HB.o)⟩⟩
 case round =>
  clear H'
  try clear c1
  obtain ⟨x3_1, rfl, HA, HK1, HB⟩ := hrel
  cases gk with
  | zero => exact absurd HA.o (by simp [vinculumref27_Valid.l0])
  | succ k1 =>
   have H := HA.o
   clear HA
   simp only [vinculumref27_Valid.l0] at H
   by_cases c2 : x3_1 < (l0.length : Int)
   ·rw [if_pos c2] at H
    have c2b0 : decide (x3_1 < (l0.length : Int)) = true := decide_eq_true c2
    clear c2
    by_cases c3 : 0 ≤ x3_1
    ·rw [if_pos c3] at H
     have c3b0 : decide (0 ≤ x3_1) = true := decide_eq_true c3
     clear c3
     by_cases c4 : ((rd_T36 l0 x3_1).f0) < (-1048576)
     ·rw [if_pos c4] at H
      have c4b0 : decide (((rd_T36 l0 x3_1).f0) < (-1048576)) = true := decide_eq_true c4
      clear c4
      obtain rfl := Option.some.inj H
      have p128 : 0 ≤ (x3_1 : Int) := of_decide_eq_true (by first | (with_reducible assumption) | assumption)
      have q128 : x3_1 < (l0.length : Int) := of_decide_eq_true (by first | (with_reducible assumption) | assumption)
      obtain ⟨ad128, e128, hx128_0, hx128_1, hx128_2, hx128_3⟩ := at_T36 HR0.o x3_1 p128 q128
      cases e128
      replace hx128_0 := (HB.o.cell (World.block_lt_of_cell? w _ hx128_0)).trans hx128_0
      replace hx128_1 := (HB.o.cell (World.block_lt_of_cell? w _ hx128_1)).trans hx128_1
      replace hx128_2 := (HB.o.cell (World.block_lt_of_cell? w _ hx128_2)).trans hx128_2
      replace hx128_3 := (HB.o.cell (World.block_lt_of_cell? w _ hx128_3)).trans hx128_3
      replace p128 := eq_true p128
      replace q128 := eq_true q128
      go_wp2_with (first | ((with_reducible refine zaA (N := 4) rfl ?_); refine zaB ?hg (N := 4) ?hd (cs := #[.int .i64 0, .int .i64 0, .int .i64 0, .int .i64 0]) (t := 36) ?hr ?_; (case hd => rfl); (case hg => rfl); (case hr => first | (go_simp; done) | (go_simp; rfl)); intro gb129 hg w5 hbox hb; have n0_ := zaa.mk (zak (by repeat (first | (with_reducible first | exact HB.o | apply zad | apply zaf | apply zae) | exact HB.o)) hb); have n1_ := zaa.mk (hbox); have n2_ := zaa.mk ((by rw [hg]; exact (zam (by repeat (first | (with_reducible first | exact HB.o | apply zad | apply zaf | apply zae) | exact HB.o))) : w.heap.size ≤ gb129)); have n3_ := zaa.mk ((by rw [hg]; exact (zam (by repeat (first | (with_reducible first | exact HB.o | apply zad | apply zaf | apply zae) | exact HB.o))) : w.heap.size ≤ gb129)); clear HB; have HB := n0_; have BK129 := n1_; have GW129 := n2_; have GE129 := n3_; clear n0_ n1_ n2_ n3_; clear hb hbox hg; obtain ⟨hcz6_0, hcz6_1, hcz6_2, hcz6_3⟩ := cz4 BK129.o; obtain ⟨hfz6_0, hfz6_1, hfz6_2, hfz6_3⟩ := fz4 BK129.o))
      go_ret
      exact ⟨by first | rfl | (simp [errW_none, errW_some] <;> rfl) | (simp [*, errW_none, errW_some] <;> rfl), by repeat (first | (with_reducible first | exact HB.o | apply zad | apply zaf | apply zae | refine zaj ?_ GE129.o) | exact HB.o)⟩
     ·rw [if_neg c4] at H
      have c4b0 : decide (((rd_T36 l0 x3_1).f0) < (-1048576)) = false := decide_eq_false c4
      clear c4
      by_cases c7 : ((rd_T36 l0 x3_1).f0) > 1048576
      ·rw [if_pos c7] at H
       have c7b0 : decide (1048576 < ((rd_T36 l0 x3_1).f0)) = true := decide_eq_true c7
       clear c7
       obtain rfl := Option.some.inj H
       have p128 : 0 ≤ (x3_1 : Int) := of_decide_eq_true (by first | (with_reducible assumption) | assumption)
       have q128 : x3_1 < (l0.length : Int) := of_decide_eq_true (by first | (with_reducible assumption) | assumption)
       obtain ⟨ad128, e128, hx128_0, hx128_1, hx128_2, hx128_3⟩ := at_T36 HR0.o x3_1 p128 q128
       cases e128
       replace hx128_0 := (HB.o.cell (World.block_lt_of_cell? w _ hx128_0)).trans hx128_0
       replace hx128_1 := (HB.o.cell (World.block_lt_of_cell? w _ hx128_1)).trans hx128_1
       replace hx128_2 := (HB.o.cell (World.block_lt_of_cell? w _ hx128_2)).trans hx128_2
       replace hx128_3 := (HB.o.cell (World.block_lt_of_cell? w _ hx128_3)).trans hx128_3
       replace p128 := eq_true p128
       replace q128 := eq_true q128
       go_wp2_with (first | ((with_reducible refine zaA (N := 4) rfl ?_); refine zaB ?hg (N := 4) ?hd (cs := #[.int .i64 0, .int .i64 0, .int .i64 0, .int .i64 0]) (t := 36) ?hr ?_; (case hd => rfl); (case hg => rfl); (case hr => first | (go_simp; done) | (go_simp; rfl)); intro gb129 hg w8 hbox hb; have n0_ := zaa.mk (zak (by repeat (first | (with_reducible first | exact HB.o | apply zad | apply zaf | apply zae) | exact HB.o)) hb); have n1_ := zaa.mk (hbox); have n2_ := zaa.mk ((by rw [hg]; exact (zam (by repeat (first | (with_reducible first | exact HB.o | apply zad | apply zaf | apply zae) | exact HB.o))) : w.heap.size ≤ gb129)); have n3_ := zaa.mk ((by rw [hg]; exact (zam (by repeat (first | (with_reducible first | exact HB.o | apply zad | apply zaf | apply zae) | exact HB.o))) : w.heap.size ≤ gb129)); clear HB; have HB := n0_; have BK129 := n1_; have GW129 := n2_; have GE129 := n3_; clear n0_ n1_ n2_ n3_; clear hb hbox hg; obtain ⟨hcz9_0, hcz9_1, hcz9_2, hcz9_3⟩ := cz4 BK129.o; obtain ⟨hfz9_0, hfz9_1, hfz9_2, hfz9_3⟩ := fz4 BK129.o))
       go_ret
       exact ⟨by first | rfl | (simp [errW_none, errW_some] <;> rfl) | (simp [*, errW_none, errW_some] <;> rfl), by repeat (first | (with_reducible first | exact HB.o | apply zad | apply zaf | apply zae | refine zaj ?_ GE129.o) | exact HB.o)⟩
      ·rw [if_neg c7] at H
       have c7b0 : decide (1048576 < ((rd_T36 l0 x3_1).f0)) = false := decide_eq_false c7
       clear c7
       by_cases c10 : ((rd_T36 l0 x3_1).f1) < 0
       ·rw [if_pos c10] at H
        have c10b0 : decide (((rd_T36 l0 x3_1).f1) < 0) = true := decide_eq_true c10
        clear c10
        obtain rfl := Option.some.inj H
        have p128 : 0 ≤ (x3_1 : Int) := of_decide_eq_true (by first | (with_reducible assumption) | assumption)
        have q128 : x3_1 < (l0.length : Int) := of_decide_eq_true (by first | (with_reducible assumption) | assumption)
        obtain ⟨ad128, e128, hx128_0, hx128_1, hx128_2, hx128_3⟩ := at_T36 HR0.o x3_1 p128 q128
        cases e128
        replace hx128_0 := (HB.o.cell (World.block_lt_of_cell? w _ hx128_0)).trans hx128_0
        replace hx128_1 := (HB.o.cell (World.block_lt_of_cell? w _ hx128_1)).trans hx128_1
        replace hx128_2 := (HB.o.cell (World.block_lt_of_cell? w _ hx128_2)).trans hx128_2
        replace hx128_3 := (HB.o.cell (World.block_lt_of_cell? w _ hx128_3)).trans hx128_3
        replace p128 := eq_true p128
        replace q128 := eq_true q128
        go_wp2_with (first | ((with_reducible refine zaA (N := 4) rfl ?_); refine zaB ?hg (N := 4) ?hd (cs := #[.int .i64 0, .int .i64 0, .int .i64 0, .int .i64 0]) (t := 36) ?hr ?_; (case hd => rfl); (case hg => rfl); (case hr => first | (go_simp; done) | (go_simp; rfl)); intro gb129 hg w11 hbox hb; have n0_ := zaa.mk (zak (by repeat (first | (with_reducible first | exact HB.o | apply zad | apply zaf | apply zae) | exact HB.o)) hb); have n1_ := zaa.mk (hbox); have n2_ := zaa.mk ((by rw [hg]; exact (zam (by repeat (first | (with_reducible first | exact HB.o | apply zad | apply zaf | apply zae) | exact HB.o))) : w.heap.size ≤ gb129)); have n3_ := zaa.mk ((by rw [hg]; exact (zam (by repeat (first | (with_reducible first | exact HB.o | apply zad | apply zaf | apply zae) | exact HB.o))) : w.heap.size ≤ gb129)); clear HB; have HB := n0_; have BK129 := n1_; have GW129 := n2_; have GE129 := n3_; clear n0_ n1_ n2_ n3_; clear hb hbox hg; obtain ⟨hcz12_0, hcz12_1, hcz12_2, hcz12_3⟩ := cz4 BK129.o; obtain ⟨hfz12_0, hfz12_1, hfz12_2, hfz12_3⟩ := fz4 BK129.o))
        go_ret
        exact ⟨by first | rfl | (simp [errW_none, errW_some] <;> rfl) | (simp [*, errW_none, errW_some] <;> rfl), by repeat (first | (with_reducible first | exact HB.o | apply zad | apply zaf | apply zae | refine zaj ?_ GE129.o) | exact HB.o)⟩
       ·rw [if_neg c10] at H
        have c10b0 : decide (((rd_T36 l0 x3_1).f1) < 0) = false := decide_eq_false c10
        clear c10
        by_cases c13 : ((rd_T36 l0 x3_1).f1) > 1048576
        ·rw [if_pos c13] at H
         have c13b0 : decide (1048576 < ((rd_T36 l0 x3_1).f1)) = true := decide_eq_true c13
         clear c13
         obtain rfl := Option.some.inj H
         have p128 : 0 ≤ (x3_1 : Int) := of_decide_eq_true (by first | (with_reducible assumption) | assumption)
         have q128 : x3_1 < (l0.length : Int) := of_decide_eq_true (by first | (with_reducible assumption) | assumption)
         obtain ⟨ad128, e128, hx128_0, hx128_1, hx128_2, hx128_3⟩ := at_T36 HR0.o x3_1 p128 q128
         cases e128
         replace hx128_0 := (HB.o.cell (World.block_lt_of_cell? w _ hx128_0)).trans hx128_0
         replace hx128_1 := (HB.o.cell (World.block_lt_of_cell? w _ hx128_1)).trans hx128_1
         replace hx128_2 := (HB.o.cell (World.block_lt_of_cell? w _ hx128_2)).trans hx128_2
         replace hx128_3 := (HB.o.cell (World.block_lt_of_cell? w _ hx128_3)).trans hx128_3
         replace p128 := eq_true p128
         replace q128 := eq_true q128
         go_wp2_with (first | ((with_reducible refine zaA (N := 4) rfl ?_); refine zaB ?hg (N := 4) ?hd (cs := #[.int .i64 0, .int .i64 0, .int .i64 0, .int .i64 0]) (t := 36) ?hr ?_; (case hd => rfl); (case hg => rfl); (case hr => first | (go_simp; done) | (go_simp; rfl)); intro gb129 hg w14 hbox hb; have n0_ := zaa.mk (zak (by repeat (first | (with_reducible first | exact HB.o | apply zad | apply zaf | apply zae) | exact HB.o)) hb); have n1_ := zaa.mk (hbox); have n2_ := zaa.mk ((by rw [hg]; exact (zam (by repeat (first | (with_reducible first | exact HB.o | apply zad | apply zaf | apply zae) | exact HB.o))) : w.heap.size ≤ gb129)); have n3_ := zaa.mk ((by rw [hg]; exact (zam (by repeat (first | (with_reducible first | exact HB.o | apply zad | apply zaf | apply zae) | exact HB.o))) : w.heap.size ≤ gb129)); clear HB; have HB := n0_; have BK129 := n1_; have GW129 := n2_; have GE129 := n3_; clear n0_ n1_ n2_ n3_; clear hb hbox hg; obtain ⟨hcz15_0, hcz15_1, hcz15_2, hcz15_3⟩ := cz4 BK129.o; obtain ⟨hfz15_0, hfz15_1, hfz15_2, hfz15_3⟩ := fz4 BK129.o))
         go_ret
         exact ⟨by first | rfl | (simp [errW_none, errW_some] <;> rfl) | (simp [*, errW_none, errW_some] <;> rfl), by repeat (first | (with_reducible first | exact HB.o | apply zad | apply zaf | apply zae | refine zaj ?_ GE129.o) | exact HB.o)⟩
        ·rw [if_neg c13] at H
         have c13b0 : decide (1048576 < ((rd_T36 l0 x3_1).f1)) = false := decide_eq_false c13
         clear c13
         by_cases c16 : ((rd_T36 l0 x3_1).f2) < 0
         ·rw [if_pos c16] at H
          have c16b0 : decide (((rd_T36 l0 x3_1).f2) < 0) = true := decide_eq_true c16
          clear c16
          obtain rfl := Option.some.inj H
          have p128 : 0 ≤ (x3_1 : Int) := of_decide_eq_true (by first | (with_reducible assumption) | assumption)
          have q128 : x3_1 < (l0.length : Int) := of_decide_eq_true (by first | (with_reducible assumption) | assumption)
          obtain ⟨ad128, e128, hx128_0, hx128_1, hx128_2, hx128_3⟩ := at_T36 HR0.o x3_1 p128 q128
          cases e128
          replace hx128_0 := (HB.o.cell (World.block_lt_of_cell? w _ hx128_0)).trans hx128_0
          replace hx128_1 := (HB.o.cell (World.block_lt_of_cell? w _ hx128_1)).trans hx128_1
          replace hx128_2 := (HB.o.cell (World.block_lt_of_cell? w _ hx128_2)).trans hx128_2
          replace hx128_3 := (HB.o.cell (World.block_lt_of_cell? w _ hx128_3)).trans hx128_3
          replace p128 := eq_true p128
          replace q128 := eq_true q128
          go_wp2_with (first | ((with_reducible refine zaA (N := 4) rfl ?_); refine zaB ?hg (N := 4) ?hd (cs := #[.int .i64 0, .int .i64 0, .int .i64 0, .int .i64 0]) (t := 36) ?hr ?_; (case hd => rfl); (case hg => rfl); (case hr => first | (go_simp; done) | (go_simp; rfl)); intro gb129 hg w17 hbox hb; have n0_ := zaa.mk (zak (by repeat (first | (with_reducible first | exact HB.o | apply zad | apply zaf | apply zae) | exact HB.o)) hb); have n1_ := zaa.mk (hbox); have n2_ := zaa.mk ((by rw [hg]; exact (zam (by repeat (first | (with_reducible first | exact HB.o | apply zad | apply zaf | apply zae) | exact HB.o))) : w.heap.size ≤ gb129)); have n3_ := zaa.mk ((by rw [hg]; exact (zam (by repeat (first | (with_reducible first | exact HB.o | apply zad | apply zaf | apply zae) | exact HB.o))) : w.heap.size ≤ gb129)); clear HB; have HB := n0_; have BK129 := n1_; have GW129 := n2_; have GE129 := n3_; clear n0_ n1_ n2_ n3_; clear hb hbox hg; obtain ⟨hcz18_0, hcz18_1, hcz18_2, hcz18_3⟩ := cz4 BK129.o; obtain ⟨hfz18_0, hfz18_1, hfz18_2, hfz18_3⟩ := fz4 BK129.o))
          go_ret
          exact ⟨by first | rfl | (simp [errW_none, errW_some] <;> rfl) | (simp [*, errW_none, errW_some] <;> rfl), by repeat (first | (with_reducible first | exact HB.o | apply zad | apply zaf | apply zae | refine zaj ?_ GE129.o) | exact HB.o)⟩
         ·rw [if_neg c16] at H
          have c16b0 : decide (((rd_T36 l0 x3_1).f2) < 0) = false := decide_eq_false c16
          clear c16
          by_cases c19 : ((rd_T36 l0 x3_1).f2) > 1048576
          ·rw [if_pos c19] at H
           have c19b0 : decide (1048576 < ((rd_T36 l0 x3_1).f2)) = true := decide_eq_true c19
           clear c19
           obtain rfl := Option.some.inj H
           have p128 : 0 ≤ (x3_1 : Int) := of_decide_eq_true (by first | (with_reducible assumption) | assumption)
           have q128 : x3_1 < (l0.length : Int) := of_decide_eq_true (by first | (with_reducible assumption) | assumption)
           obtain ⟨ad128, e128, hx128_0, hx128_1, hx128_2, hx128_3⟩ := at_T36 HR0.o x3_1 p128 q128
           cases e128
           replace hx128_0 := (HB.o.cell (World.block_lt_of_cell? w _ hx128_0)).trans hx128_0
           replace hx128_1 := (HB.o.cell (World.block_lt_of_cell? w _ hx128_1)).trans hx128_1
           replace hx128_2 := (HB.o.cell (World.block_lt_of_cell? w _ hx128_2)).trans hx128_2
           replace hx128_3 := (HB.o.cell (World.block_lt_of_cell? w _ hx128_3)).trans hx128_3
           replace p128 := eq_true p128
           replace q128 := eq_true q128
           go_wp2_with (first | ((with_reducible refine zaA (N := 4) rfl ?_); refine zaB ?hg (N := 4) ?hd (cs := #[.int .i64 0, .int .i64 0, .int .i64 0, .int .i64 0]) (t := 36) ?hr ?_; (case hd => rfl); (case hg => rfl); (case hr => first | (go_simp; done) | (go_simp; rfl)); intro gb129 hg w20 hbox hb; have n0_ := zaa.mk (zak (by repeat (first | (with_reducible first | exact HB.o | apply zad | apply zaf | apply zae) | exact HB.o)) hb); have n1_ := zaa.mk (hbox); have n2_ := zaa.mk ((by rw [hg]; exact (zam (by repeat (first | (with_reducible first | exact HB.o | apply zad | apply zaf | apply zae) | exact HB.o))) : w.heap.size ≤ gb129)); have n3_ := zaa.mk ((by rw [hg]; exact (zam (by repeat (first | (with_reducible first | exact HB.o | apply zad | apply zaf | apply zae) | exact HB.o))) : w.heap.size ≤ gb129)); clear HB; have HB := n0_; have BK129 := n1_; have GW129 := n2_; have GE129 := n3_; clear n0_ n1_ n2_ n3_; clear hb hbox hg; obtain ⟨hcz21_0, hcz21_1, hcz21_2, hcz21_3⟩ := cz4 BK129.o; obtain ⟨hfz21_0, hfz21_1, hfz21_2, hfz21_3⟩ := fz4 BK129.o))
           go_ret
           exact ⟨by first | rfl | (simp [errW_none, errW_some] <;> rfl) | (simp [*, errW_none, errW_some] <;> rfl), by repeat (first | (with_reducible first | exact HB.o | apply zad | apply zaf | apply zae | refine zaj ?_ GE129.o) | exact HB.o)⟩
          ·rw [if_neg c19] at H
           have c19b0 : decide (1048576 < ((rd_T36 l0 x3_1).f2)) = false := decide_eq_false c19
           clear c19
           by_cases c22 : ((rd_T36 l0 x3_1).f3) < 0
           ·rw [if_pos c22] at H
            have c22b0 : decide (((rd_T36 l0 x3_1).f3) < 0) = true := decide_eq_true c22
            clear c22
            obtain rfl := Option.some.inj H
            have p128 : 0 ≤ (x3_1 : Int) := of_decide_eq_true (by first | (with_reducible assumption) | assumption)
            have q128 : x3_1 < (l0.length : Int) := of_decide_eq_true (by first | (with_reducible assumption) | assumption)
            obtain ⟨ad128, e128, hx128_0, hx128_1, hx128_2, hx128_3⟩ := at_T36 HR0.o x3_1 p128 q128
            cases e128
            replace hx128_0 := (HB.o.cell (World.block_lt_of_cell? w _ hx128_0)).trans hx128_0
            replace hx128_1 := (HB.o.cell (World.block_lt_of_cell? w _ hx128_1)).trans hx128_1
            replace hx128_2 := (HB.o.cell (World.block_lt_of_cell? w _ hx128_2)).trans hx128_2
            replace hx128_3 := (HB.o.cell (World.block_lt_of_cell? w _ hx128_3)).trans hx128_3
            replace p128 := eq_true p128
            replace q128 := eq_true q128
            go_wp2_with (first | ((with_reducible refine zaA (N := 4) rfl ?_); refine zaB ?hg (N := 4) ?hd (cs := #[.int .i64 0, .int .i64 0, .int .i64 0, .int .i64 0]) (t := 36) ?hr ?_; (case hd => rfl); (case hg => rfl); (case hr => first | (go_simp; done) | (go_simp; rfl)); intro gb129 hg w23 hbox hb; have n0_ := zaa.mk (zak (by repeat (first | (with_reducible first | exact HB.o | apply zad | apply zaf | apply zae) | exact HB.o)) hb); have n1_ := zaa.mk (hbox); have n2_ := zaa.mk ((by rw [hg]; exact (zam (by repeat (first | (with_reducible first | exact HB.o | apply zad | apply zaf | apply zae) | exact HB.o))) : w.heap.size ≤ gb129)); have n3_ := zaa.mk ((by rw [hg]; exact (zam (by repeat (first | (with_reducible first | exact HB.o | apply zad | apply zaf | apply zae) | exact HB.o))) : w.heap.size ≤ gb129)); clear HB; have HB := n0_; have BK129 := n1_; have GW129 := n2_; have GE129 := n3_; clear n0_ n1_ n2_ n3_; clear hb hbox hg; obtain ⟨hcz24_0, hcz24_1, hcz24_2, hcz24_3⟩ := cz4 BK129.o; obtain ⟨hfz24_0, hfz24_1, hfz24_2, hfz24_3⟩ := fz4 BK129.o))
            go_ret
            exact ⟨by first | rfl | (simp [errW_none, errW_some] <;> rfl) | (simp [*, errW_none, errW_some] <;> rfl), by repeat (first | (with_reducible first | exact HB.o | apply zad | apply zaf | apply zae | refine zaj ?_ GE129.o) | exact HB.o)⟩
           ·rw [if_neg c22] at H
            have c22b0 : decide (((rd_T36 l0 x3_1).f3) < 0) = false := decide_eq_false c22
            clear c22
            by_cases c25 : ((rd_T36 l0 x3_1).f3) > 3
            ·rw [if_pos c25] at H
             have c25b0 : decide (3 < ((rd_T36 l0 x3_1).f3)) = true := decide_eq_true c25
             clear c25
             obtain rfl := Option.some.inj H
             have p128 : 0 ≤ (x3_1 : Int) := of_decide_eq_true (by first | (with_reducible assumption) | assumption)
             have q128 : x3_1 < (l0.length : Int) := of_decide_eq_true (by first | (with_reducible assumption) | assumption)
             obtain ⟨ad128, e128, hx128_0, hx128_1, hx128_2, hx128_3⟩ := at_T36 HR0.o x3_1 p128 q128
             cases e128
             replace hx128_0 := (HB.o.cell (World.block_lt_of_cell? w _ hx128_0)).trans hx128_0
             replace hx128_1 := (HB.o.cell (World.block_lt_of_cell? w _ hx128_1)).trans hx128_1
             replace hx128_2 := (HB.o.cell (World.block_lt_of_cell? w _ hx128_2)).trans hx128_2
             replace hx128_3 := (HB.o.cell (World.block_lt_of_cell? w _ hx128_3)).trans hx128_3
             replace p128 := eq_true p128
             replace q128 := eq_true q128
             go_wp2_with (first | ((with_reducible refine zaA (N := 4) rfl ?_); refine zaB ?hg (N := 4) ?hd (cs := #[.int .i64 0, .int .i64 0, .int .i64 0, .int .i64 0]) (t := 36) ?hr ?_; (case hd => rfl); (case hg => rfl); (case hr => first | (go_simp; done) | (go_simp; rfl)); intro gb129 hg w26 hbox hb; have n0_ := zaa.mk (zak (by repeat (first | (with_reducible first | exact HB.o | apply zad | apply zaf | apply zae) | exact HB.o)) hb); have n1_ := zaa.mk (hbox); have n2_ := zaa.mk ((by rw [hg]; exact (zam (by repeat (first | (with_reducible first | exact HB.o | apply zad | apply zaf | apply zae) | exact HB.o))) : w.heap.size ≤ gb129)); have n3_ := zaa.mk ((by rw [hg]; exact (zam (by repeat (first | (with_reducible first | exact HB.o | apply zad | apply zaf | apply zae) | exact HB.o))) : w.heap.size ≤ gb129)); clear HB; have HB := n0_; have BK129 := n1_; have GW129 := n2_; have GE129 := n3_; clear n0_ n1_ n2_ n3_; clear hb hbox hg; obtain ⟨hcz27_0, hcz27_1, hcz27_2, hcz27_3⟩ := cz4 BK129.o; obtain ⟨hfz27_0, hfz27_1, hfz27_2, hfz27_3⟩ := fz4 BK129.o))
             go_ret
             exact ⟨by first | rfl | (simp [errW_none, errW_some] <;> rfl) | (simp [*, errW_none, errW_some] <;> rfl), by repeat (first | (with_reducible first | exact HB.o | apply zad | apply zaf | apply zae | refine zaj ?_ GE129.o) | exact HB.o)⟩
            ·rw [if_neg c25] at H
             have c25b0 : decide (3 < ((rd_T36 l0 x3_1).f3)) = false := decide_eq_false c25
             clear c25
             have H' := zaa.mk H
             clear H
             have p128 : 0 ≤ (x3_1 : Int) := of_decide_eq_true (by first | (with_reducible assumption) | assumption)
             have q128 : x3_1 < (l0.length : Int) := of_decide_eq_true (by first | (with_reducible assumption) | assumption)
             obtain ⟨ad128, e128, hx128_0, hx128_1, hx128_2, hx128_3⟩ := at_T36 HR0.o x3_1 p128 q128
             cases e128
             replace hx128_0 := (HB.o.cell (World.block_lt_of_cell? w _ hx128_0)).trans hx128_0
             replace hx128_1 := (HB.o.cell (World.block_lt_of_cell? w _ hx128_1)).trans hx128_1
             replace hx128_2 := (HB.o.cell (World.block_lt_of_cell? w _ hx128_2)).trans hx128_2
             replace hx128_3 := (HB.o.cell (World.block_lt_of_cell? w _ hx128_3)).trans hx128_3
             replace p128 := eq_true p128
             replace q128 := eq_true q128
             go_wp2_with (first | ((with_reducible refine zaA (N := 4) rfl ?_); refine zaB ?hg (N := 4) ?hd (cs := #[.int .i64 0, .int .i64 0, .int .i64 0, .int .i64 0]) (t := 36) ?hr ?_; (case hd => rfl); (case hg => rfl); (case hr => first | (go_simp; done) | (go_simp; rfl)); intro gb129 hg w28 hbox hb; have n0_ := zaa.mk (zak (by repeat (first | (with_reducible first | exact HB.o | apply zad | apply zaf | apply zae) | exact HB.o)) hb); have n1_ := zaa.mk (hbox); have n2_ := zaa.mk ((by rw [hg]; exact (zam (by repeat (first | (with_reducible first | exact HB.o | apply zad | apply zaf | apply zae) | exact HB.o))) : w.heap.size ≤ gb129)); have n3_ := zaa.mk ((by rw [hg]; exact (zam (by repeat (first | (with_reducible first | exact HB.o | apply zad | apply zaf | apply zae) | exact HB.o))) : w.heap.size ≤ gb129)); clear HB; have HB := n0_; have BK129 := n1_; have GW129 := n2_; have GE129 := n3_; clear n0_ n1_ n2_ n3_; clear hb hbox hg; obtain ⟨hcz29_0, hcz29_1, hcz29_2, hcz29_3⟩ := cz4 BK129.o; obtain ⟨hfz29_0, hfz29_1, hfz29_2, hfz29_3⟩ := fz4 BK129.o))
             go_roundg k1
             case measure => have := HK1.o; omega
             case rel => exact ⟨(wrap64 (x3_1 + 1)), (by first | rfl | (simp; done) | (simp [*]; done)), H', ⟨by have := HK1.o; omega⟩, ⟨by repeat (first | (with_reducible first | exact HB.o | apply zad | apply zaf | apply zae | refine zaj ?_ GE129.o) | exact HB.o)⟩⟩
    ·rw [if_neg c3] at H
     exact absurd H (by simp)
   ·rw [if_neg c2] at H
    have c2b0 : decide (x3_1 < (l0.length : Int)) = false := decide_eq_false c2
    clear c2
    obtain rfl := Option.some.inj H
    go_wp2
    go_ret
    exact ⟨by first | rfl | (simp [errW_none, errW_some] <;> rfl) | (simp [*, errW_none, errW_some] <;> rfl), by repeat (first | (with_reducible first | exact HB.o | apply zad | apply zaf | apply zae) | exact HB.o)⟩

end Go.Proofs.Ytojcnndkdopahaa.P
