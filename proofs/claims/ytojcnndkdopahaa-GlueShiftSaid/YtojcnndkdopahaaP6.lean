--m
/- Written by wip/tool/hprint.py (the kit's print.py with hand-proved contracts set in): contracts of the functions that the statements of this seat reach, without conditions beyond those named in each theorem. -/
import Derived.Test.YtojcnndkdopahaaP0
namespace Go.Proofs.Ytojcnndkdopahaa.P
open Go.RowKit Go.Proofs.YtojcnndkdopahaaW.PrintWords Go.Proofs.YtojcnndkdopahaaW.PrintLast Go.Proofs.YtojcnndkdopahaaW.PrintMore
attribute [local go_sem] zas zat zau zav zaw zax zay zaz   -- for this text's walks alone
set_option linter.unusedVariables false
set_option linter.unusedSimpArgs false

/-! ### glue_Valid: function 14 -/
def glue_Valid.l0 : Nat → List (S36) → List (S36) → Int → Int → Option (Bool)
 | 0, _, _, _, _ => none
 | k + 1, x0, x5, x6, x7 => if x7 < x6 then (if 0 ≤ x7 then (if x7 < (x5.length : Int) then (if ((rd_T36 x5 x7).f0) < (-1048576) then (some false) else (if ((rd_T36 x5 x7).f0) > 1048576 then (some false) else (if ((rd_T36 x5 x7).f1) < 0 then (some false) else (if ((rd_T36 x5 x7).f1) > 1048576 then (some false) else (if ((rd_T36 x5 x7).f2) < 0 then (some false) else (if ((rd_T36 x5 x7).f2) > 1048576 then (some false) else (if ((rd_T36 x5 x7).f3) < 0 then (some false) else (if ((rd_T36 x5 x7).f3) > 3 then (some false) else (glue_Valid.l0 k x0 x5 x6 (wrap64 (x7 + 1))))))))))) else (none)) else (none)) else (some (decide ((x0.length : Int) ≤ 200)))
def glue_Valid.f (k : Nat) (l0 : List (S36)) : Option (Bool) := glue_Valid.l0 k l0 l0 (l0.length : Int) 0
theorem glue_Valid.mono_l : ∀ k, (∀ y0 y1 y2 y3, LeO (glue_Valid.l0 k y0 y1 y2 y3) (glue_Valid.l0 (k + 1) y0 y1 y2 y3))
 | 0 => fun _ _ _ _ r h => by simp [glue_Valid.l0] at h
 | k + 1 => by
  have ih0 := glue_Valid.mono_l k
  ·intro y0 y1 y2 y3
   unfold glue_Valid.l0
   repeat' first
   | (with_reducible exact ih0 _ _ _ _)
   | (with_reducible exact LeO.refl _)
   | (with_reducible exact LeO.none _)
   | (with_reducible refine LeO.ite ?_ ?_)
   | (with_reducible refine LeO.bind ?_ (fun _ => ?_))
   | exact ih0 _ _ _ _
   | exact LeO.none _
   | refine LeO.ite ?_ ?_
   | refine LeO.bind ?_ (fun _ => ?_)
theorem glue_Valid.mono : ∀ a0 k, LeO (glue_Valid.f k a0) (glue_Valid.f (k + 1) a0) := by
 intro a0 k
 have ih0 := glue_Valid.mono_l k
 unfold glue_Valid.f
 repeat' first
   | (with_reducible exact ih0 _ _ _ _)
   | (with_reducible exact LeO.refl _)
   | (with_reducible exact LeO.none _)
   | (with_reducible refine LeO.ite ?_ ?_)
   | (with_reducible refine LeO.bind ?_ (fun _ => ?_))
   | exact ih0 _ _ _ _
   | exact LeO.none _
   | refine LeO.ite ?_ ?_
   | refine LeO.bind ?_ (fun _ => ?_)
set_option maxHeartbeats 8000000 in
set_option maxRecDepth 100000 in
theorem glue_Valid.calls (k : Nat) (A0 : Option Addr) (c0 : Nat) (l0 : List (S36)) (r : Bool) (w : World) (hr0 : Kd.C k36 w A0 l0.length l0) (hc0 : l0.length ≤ c0) (h : glue_Valid.f k l0 = some r) :
  Calls Try.prog 14 #[.slice A0 l0.length c0] w fun e w' => e = .returned (.bool r) ∧ Below w.heap.size w w' := by
 have hu36 := Try.underlying36
 have HR0 := zaa.mk hr0
 have HC0 := zaa.mk hc0
 clear hr0 hc0
 have HB := zaa.mk (Below.refl w.heap.size w)
 have H : (glue_Valid.l0 k l0 l0 (l0.length : Int) 0) = some r := h
 clear h
 have H' := zaa.mk H
 clear H
 go_enter Try.func14, Try.ntmps14
 go_wp2
 go_loopg [7] k (fun kq v7 w' => ∃ (x7_1 : Int), v7 = .int .i64 x7_1 ∧ zaa (glue_Valid.l0 kq l0 l0 (l0.length : Int) x7_1 = some r) ∧ zaa (kq ≤ k) ∧ zaa (Below w.heap.size w w'))
 case atStart => exact ⟨(0), (by first | rfl | (simp; done) | (simp [*]; done)), H', ⟨Nat.le_refl _⟩, ⟨by repeat (first | (with_reducible first | exact HB.o | apply zad | apply zaf | apply zae) | exact HB.o)⟩⟩
 case round =>
  clear H'
  try clear c1
  obtain ⟨x7_1, rfl, HA, HK1, HB⟩ := hrel
  cases gk with
  | zero => exact absurd HA.o (by simp [glue_Valid.l0])
  | succ k1 =>
   have H := HA.o
   clear HA
   simp only [glue_Valid.l0] at H
   by_cases c2 : x7_1 < (l0.length : Int)
   ·rw [if_pos c2] at H
    have c2b0 : decide (x7_1 < (l0.length : Int)) = true := decide_eq_true c2
    clear c2
    by_cases c3 : 0 ≤ x7_1
    ·rw [if_pos c3] at H
     have c3b0 : decide (0 ≤ x7_1) = true := decide_eq_true c3
     clear c3
     by_cases c4 : x7_1 < (l0.length : Int)
     ·rw [if_pos c4] at H
      have c4b0 : decide (x7_1 < (l0.length : Int)) = true := decide_eq_true c4
      clear c4
      by_cases c5 : ((rd_T36 l0 x7_1).f0) < (-1048576)
      ·rw [if_pos c5] at H
       have c5b0 : decide (((rd_T36 l0 x7_1).f0) < (-1048576)) = true := decide_eq_true c5
       clear c5
       obtain rfl := Option.some.inj H
       have p101 : 0 ≤ (x7_1 : Int) := of_decide_eq_true (by first | (with_reducible assumption) | assumption)
       have q101 : x7_1 < (l0.length : Int) := of_decide_eq_true (by first | (with_reducible assumption) | assumption)
       obtain ⟨ad101, e101, hx101_0, hx101_1, hx101_2, hx101_3⟩ := at_T36 HR0.o x7_1 p101 q101
       cases e101
       replace hx101_0 := (HB.o.cell (World.block_lt_of_cell? w _ hx101_0)).trans hx101_0
       replace hx101_1 := (HB.o.cell (World.block_lt_of_cell? w _ hx101_1)).trans hx101_1
       replace hx101_2 := (HB.o.cell (World.block_lt_of_cell? w _ hx101_2)).trans hx101_2
       replace hx101_3 := (HB.o.cell (World.block_lt_of_cell? w _ hx101_3)).trans hx101_3
       replace p101 := eq_true p101
       replace q101 := eq_true q101
       go_wp2_with (first | ((with_reducible refine zaA (N := 4) rfl ?_); refine zaB ?hg (N := 4) ?hd (cs := #[.int .i64 0, .int .i64 0, .int .i64 0, .int .i64 0]) (t := 36) ?hr ?_; (case hd => rfl); (case hg => rfl); (case hr => first | (go_simp; done) | (go_simp; rfl)); intro gb102 hg w6 hbox hb; have n0_ := zaa.mk (zak (by repeat (first | (with_reducible first | exact HB.o | apply zad | apply zaf | apply zae) | exact HB.o)) hb); have n1_ := zaa.mk (hbox); have n2_ := zaa.mk ((by rw [hg]; exact (zam (by repeat (first | (with_reducible first | exact HB.o | apply zad | apply zaf | apply zae) | exact HB.o))) : w.heap.size ≤ gb102)); have n3_ := zaa.mk ((by rw [hg]; exact (zam (by repeat (first | (with_reducible first | exact HB.o | apply zad | apply zaf | apply zae) | exact HB.o))) : w.heap.size ≤ gb102)); clear HB; have HB := n0_; have BK102 := n1_; have GW102 := n2_; have GE102 := n3_; clear n0_ n1_ n2_ n3_; clear hb hbox hg; obtain ⟨hcz7_0, hcz7_1, hcz7_2, hcz7_3⟩ := cz4 BK102.o; obtain ⟨hfz7_0, hfz7_1, hfz7_2, hfz7_3⟩ := fz4 BK102.o))
       go_ret
       exact ⟨by first | rfl | (simp [errW_none, errW_some] <;> rfl) | (simp [*, errW_none, errW_some] <;> rfl), by repeat (first | (with_reducible first | exact HB.o | apply zad | apply zaf | apply zae | refine zaj ?_ GE102.o) | exact HB.o)⟩
      ·rw [if_neg c5] at H
       have c5b0 : decide (((rd_T36 l0 x7_1).f0) < (-1048576)) = false := decide_eq_false c5
       clear c5
       by_cases c8 : ((rd_T36 l0 x7_1).f0) > 1048576
       ·rw [if_pos c8] at H
        have c8b0 : decide (1048576 < ((rd_T36 l0 x7_1).f0)) = true := decide_eq_true c8
        clear c8
        obtain rfl := Option.some.inj H
        have p101 : 0 ≤ (x7_1 : Int) := of_decide_eq_true (by first | (with_reducible assumption) | assumption)
        have q101 : x7_1 < (l0.length : Int) := of_decide_eq_true (by first | (with_reducible assumption) | assumption)
        obtain ⟨ad101, e101, hx101_0, hx101_1, hx101_2, hx101_3⟩ := at_T36 HR0.o x7_1 p101 q101
        cases e101
        replace hx101_0 := (HB.o.cell (World.block_lt_of_cell? w _ hx101_0)).trans hx101_0
        replace hx101_1 := (HB.o.cell (World.block_lt_of_cell? w _ hx101_1)).trans hx101_1
        replace hx101_2 := (HB.o.cell (World.block_lt_of_cell? w _ hx101_2)).trans hx101_2
        replace hx101_3 := (HB.o.cell (World.block_lt_of_cell? w _ hx101_3)).trans hx101_3
        replace p101 := eq_true p101
        replace q101 := eq_true q101
        go_wp2_with (first | ((with_reducible refine zaA (N := 4) rfl ?_); refine zaB ?hg (N := 4) ?hd (cs := #[.int .i64 0, .int .i64 0, .int .i64 0, .int .i64 0]) (t := 36) ?hr ?_; (case hd => rfl); (case hg => rfl); (case hr => first | (go_simp; done) | (go_simp; rfl)); intro gb102 hg w9 hbox hb; have n0_ := zaa.mk (zak (by repeat (first | (with_reducible first | exact HB.o | apply zad | apply zaf | apply zae) | exact HB.o)) hb); have n1_ := zaa.mk (hbox); have n2_ := zaa.mk ((by rw [hg]; exact (zam (by repeat (first | (with_reducible first | exact HB.o | apply zad | apply zaf | apply zae) | exact HB.o))) : w.heap.size ≤ gb102)); have n3_ := zaa.mk ((by rw [hg]; exact (zam (by repeat (first | (with_reducible first | exact HB.o | apply zad | apply zaf | apply zae) | exact HB.o))) : w.heap.size ≤ gb102)); clear HB; have HB := n0_; have BK102 := n1_; have GW102 := n2_; have GE102 := n3_; clear n0_ n1_ n2_ n3_; clear hb hbox hg; obtain ⟨hcz10_0, hcz10_1, hcz10_2, hcz10_3⟩ := cz4 BK102.o; obtain ⟨hfz10_0, hfz10_1, hfz10_2, hfz10_3⟩ := fz4 BK102.o))
        go_ret
        exact ⟨by first | rfl | (simp [errW_none, errW_some] <;> rfl) | (simp [*, errW_none, errW_some] <;> rfl), by repeat (first | (with_reducible first | exact HB.o | apply zad | apply zaf | apply zae | refine zaj ?_ GE102.o) | exact HB.o)⟩
       ·rw [if_neg c8] at H
        have c8b0 : decide (1048576 < ((rd_T36 l0 x7_1).f0)) = false := decide_eq_false c8
        clear c8
        by_cases c11 : ((rd_T36 l0 x7_1).f1) < 0
        ·rw [if_pos c11] at H
         have c11b0 : decide (((rd_T36 l0 x7_1).f1) < 0) = true := decide_eq_true c11
         clear c11
         obtain rfl := Option.some.inj H
         have p101 : 0 ≤ (x7_1 : Int) := of_decide_eq_true (by first | (with_reducible assumption) | assumption)
         have q101 : x7_1 < (l0.length : Int) := of_decide_eq_true (by first | (with_reducible assumption) | assumption)
         obtain ⟨ad101, e101, hx101_0, hx101_1, hx101_2, hx101_3⟩ := at_T36 HR0.o x7_1 p101 q101
         cases e101
         replace hx101_0 := (HB.o.cell (World.block_lt_of_cell? w _ hx101_0)).trans hx101_0
         replace hx101_1 := (HB.o.cell (World.block_lt_of_cell? w _ hx101_1)).trans hx101_1
         replace hx101_2 := (HB.o.cell (World.block_lt_of_cell? w _ hx101_2)).trans hx101_2
         replace hx101_3 := (HB.o.cell (World.block_lt_of_cell? w _ hx101_3)).trans hx101_3
         replace p101 := eq_true p101
         replace q101 := eq_true q101
         go_wp2_with (first | ((with_reducible refine zaA (N := 4) rfl ?_); refine zaB ?hg (N := 4) ?hd (cs := #[.int .i64 0, .int .i64 0, .int .i64 0, .int .i64 0]) (t := 36) ?hr ?_; (case hd => rfl); (case hg => rfl); (case hr => first | (go_simp; done) | (go_simp; rfl)); intro gb102 hg w12 hbox hb; have n0_ := zaa.mk (zak (by repeat (first | (with_reducible first | exact HB.o | apply zad | apply zaf | apply zae) | exact HB.o)) hb); have n1_ := zaa.mk (hbox); have n2_ := zaa.mk ((by rw [hg]; exact (zam (by repeat (first | (with_reducible first | exact HB.o | apply zad | apply zaf | apply zae) | exact HB.o))) : w.heap.size ≤ gb102)); have n3_ := zaa.mk ((by rw [hg]; exact (zam (by repeat (first | (with_reducible first | exact HB.o | apply zad | apply zaf | apply zae) | exact HB.o))) : w.heap.size ≤ gb102)); clear HB; have HB := n0_; have BK102 := n1_; have GW102 := n2_; have GE102 := n3_; clear n0_ n1_ n2_ n3_; clear hb hbox hg; obtain ⟨hcz13_0, hcz13_1, hcz13_2, hcz13_3⟩ := cz4 BK102.o; obtain ⟨hfz13_0, hfz13_1, hfz13_2, hfz13_3⟩ := fz4 BK102.o))
         go_ret
         exact ⟨by first | rfl | (simp [errW_none, errW_some] <;> rfl) | (simp [*, errW_none, errW_some] <;> rfl), by repeat (first | (with_reducible first | exact HB.o | apply zad | apply zaf | apply zae | refine zaj ?_ GE102.o) | exact HB.o)⟩
        ·rw [if_neg c11] at H
         have c11b0 : decide (((rd_T36 l0 x7_1).f1) < 0) = false := decide_eq_false c11
         clear c11
         by_cases c14 : ((rd_T36 l0 x7_1).f1) > 1048576
         ·rw [if_pos c14] at H
          have c14b0 : decide (1048576 < ((rd_T36 l0 x7_1).f1)) = true := decide_eq_true c14
          clear c14
          obtain rfl := Option.some.inj H
          have p101 : 0 ≤ (x7_1 : Int) := of_decide_eq_true (by first | (with_reducible assumption) | assumption)
          have q101 : x7_1 < (l0.length : Int) := of_decide_eq_true (by first | (with_reducible assumption) | assumption)
          obtain ⟨ad101, e101, hx101_0, hx101_1, hx101_2, hx101_3⟩ := at_T36 HR0.o x7_1 p101 q101
          cases e101
          replace hx101_0 := (HB.o.cell (World.block_lt_of_cell? w _ hx101_0)).trans hx101_0
          replace hx101_1 := (HB.o.cell (World.block_lt_of_cell? w _ hx101_1)).trans hx101_1
          replace hx101_2 := (HB.o.cell (World.block_lt_of_cell? w _ hx101_2)).trans hx101_2
          replace hx101_3 := (HB.o.cell (World.block_lt_of_cell? w _ hx101_3)).trans hx101_3
          replace p101 := eq_true p101
          replace q101 := eq_true q101
          go_wp2_with (first | ((with_reducible refine zaA (N := 4) rfl ?_); refine zaB ?hg (N := 4) ?hd (cs := #[.int .i64 0, .int .i64 0, .int .i64 0, .int .i64 0]) (t := 36) ?hr ?_; (case hd => rfl); (case hg => rfl); (case hr => first | (go_simp; done) | (go_simp; rfl)); intro gb102 hg w15 hbox hb; have n0_ := zaa.mk (zak (by repeat (first | (with_reducible first | exact HB.o | apply zad | apply zaf | apply zae) | exact HB.o)) hb); have n1_ := zaa.mk (hbox); have n2_ := zaa.mk ((by rw [hg]; exact (zam (by repeat (first | (with_reducible first | exact HB.o | apply zad | apply zaf | apply zae) | exact HB.o))) : w.heap.size ≤ gb102)); have n3_ := zaa.mk ((by rw [hg]; exact (zam (by repeat (first | (with_reducible first | exact HB.o | apply zad | apply zaf | apply zae) | exact HB.o))) : w.heap.size ≤ gb102)); clear HB; have HB := n0_; have BK102 := n1_; have GW102 := n2_; have GE102 := n3_; clear n0_ n1_ n2_ n3_; clear hb hbox hg; obtain ⟨hcz16_0, hcz16_1, hcz16_2, hcz16_3⟩ := cz4 BK102.o; obtain ⟨hfz16_0, hfz16_1, hfz16_2, hfz16_3⟩ := fz4 BK102.o))
          go_ret
          exact ⟨by first | rfl | (simp [errW_none, errW_some] <;> rfl) | (simp [*, errW_none, errW_some] <;> rfl), by repeat (first | (with_reducible first | exact HB.o | apply zad | apply zaf | apply zae | refine zaj ?_ GE102.o) | exact HB.o)⟩
         ·rw [if_neg c14] at H
          have c14b0 : decide (1048576 < ((rd_T36 l0 x7_1).f1)) = false := decide_eq_false c14
          clear c14
          by_cases c17 : ((rd_T36 l0 x7_1).f2) < 0
          ·rw [if_pos c17] at H
           have c17b0 : decide (((rd_T36 l0 x7_1).f2) < 0) = true := decide_eq_true c17
           clear c17
           obtain rfl := Option.some.inj H
           have p101 : 0 ≤ (x7_1 : Int) := of_decide_eq_true (by first | (with_reducible assumption) | assumption)
           have q101 : x7_1 < (l0.length : Int) := of_decide_eq_true (by first | (with_reducible assumption) | assumption)
           obtain ⟨ad101, e101, hx101_0, hx101_1, hx101_2, hx101_3⟩ := at_T36 HR0.o x7_1 p101 q101
           cases e101
           replace hx101_0 := (HB.o.cell (World.block_lt_of_cell? w _ hx101_0)).trans hx101_0
           replace hx101_1 := (HB.o.cell (World.block_lt_of_cell? w _ hx101_1)).trans hx101_1
           replace hx101_2 := (HB.o.cell (World.block_lt_of_cell? w _ hx101_2)).trans hx101_2
           replace hx101_3 := (HB.o.cell (World.block_lt_of_cell? w _ hx101_3)).trans hx101_3
           replace p101 := eq_true p101
           replace q101 := eq_true q101
           go_wp2_with (first | ((with_reducible refine zaA (N := 4) rfl ?_); refine zaB ?hg (N := 4) ?hd (cs := #[.int .i64 0, .int .i64 0, .int .i64 0, .int .i64 0]) (t := 36) ?hr ?_; (case hd => rfl); (case hg => rfl); (case hr => first | (go_simp; done) | (go_simp; rfl)); intro gb102 hg w18 hbox hb; have n0_ := zaa.mk (zak (by repeat (first | (with_reducible first | exact HB.o | apply zad | apply zaf | apply zae) | exact HB.o)) hb); have n1_ := zaa.mk (hbox); have n2_ := zaa.mk ((by rw [hg]; exact (zam (by repeat (first | (with_reducible first | exact HB.o | apply zad | apply zaf | apply zae) | exact HB.o))) : w.heap.size ≤ gb102)); have n3_ := zaa.mk ((by rw [hg]; exact (zam (by repeat (first | (with_reducible first | exact HB.o | apply zad | apply zaf | apply zae) | exact HB.o))) : w.heap.size ≤ gb102)); clear HB; have HB := n0_; have BK102 := n1_; have GW102 := n2_; have GE102 := n3_; clear n0_ n1_ n2_ n3_; clear hb hbox hg; obtain ⟨hcz19_0, hcz19_1, hcz19_2, hcz19_3⟩ := cz4 BK102.o; obtain ⟨hfz19_0, hfz19_1, hfz19_2, hfz19_3⟩ := fz4 BK102.o))
           go_ret
           exact ⟨by first | rfl | (simp [errW_none, errW_some] <;> rfl) | (simp [*, errW_none, errW_some] <;> rfl), by repeat (first | (with_reducible first | exact HB.o | apply zad | apply zaf | apply zae | refine zaj ?_ GE102.o) | exact HB.o)⟩
          ·rw [if_neg c17] at H
           have c17b0 : decide (((rd_T36 l0 x7_1).f2) < 0) = false := decide_eq_false c17
           clear c17
           by_cases c20 : ((rd_T36 l0 x7_1).f2) > 1048576
           ·rw [if_pos c20] at H
            have c20b0 : decide (1048576 < ((rd_T36 l0 x7_1).f2)) = true := decide_eq_true c20
            clear c20
            obtain rfl := Option.some.inj H
            have p101 : 0 ≤ (x7_1 : Int) := of_decide_eq_true (by first | (with_reducible assumption) | assumption)
            have q101 : x7_1 < (l0.length : Int) := of_decide_eq_true (by first | (with_reducible assumption) | assumption)
            obtain ⟨ad101, e101, hx101_0, hx101_1, hx101_2, hx101_3⟩ := at_T36 HR0.o x7_1 p101 q101
            cases e101
            replace hx101_0 := (HB.o.cell (World.block_lt_of_cell? w _ hx101_0)).trans hx101_0
            replace hx101_1 := (HB.o.cell (World.block_lt_of_cell? w _ hx101_1)).trans hx101_1
            replace hx101_2 := (HB.o.cell (World.block_lt_of_cell? w _ hx101_2)).trans hx101_2
            replace hx101_3 := (HB.o.cell (World.block_lt_of_cell? w _ hx101_3)).trans hx101_3
            replace p101 := eq_true p101
            replace q101 := eq_true q101
            go_wp2_with (first | ((with_reducible refine zaA (N := 4) rfl ?_); refine zaB ?hg (N := 4) ?hd (cs := #[.int .i64 0, .int .i64 0, .int .i64 0, .int .i64 0]) (t := 36) ?hr ?_; (case hd => rfl); (case hg => rfl); (case hr => first | (go_simp; done) | (go_simp; rfl)); intro gb102 hg w21 hbox hb; have n0_ := zaa.mk (zak (by repeat (first | (with_reducible first | exact HB.o | apply zad | apply zaf | apply zae) | exact HB.o)) hb); have n1_ := zaa.mk (hbox); have n2_ := zaa.mk ((by rw [hg]; exact (zam (by repeat (first | (with_reducible first | exact HB.o | apply zad | apply zaf | apply zae) | exact HB.o))) : w.heap.size ≤ gb102)); have n3_ := zaa.mk ((by rw [hg]; exact (zam (by repeat (first | (with_reducible first | exact HB.o | apply zad | apply zaf | apply zae) | exact HB.o))) : w.heap.size ≤ gb102)); clear HB; have HB := n0_; have BK102 := n1_; have GW102 := n2_; have GE102 := n3_; clear n0_ n1_ n2_ n3_; clear hb hbox hg; obtain ⟨hcz22_0, hcz22_1, hcz22_2, hcz22_3⟩ := cz4 BK102.o; obtain ⟨hfz22_0, hfz22_1, hfz22_2, hfz22_3⟩ := fz4 BK102.o))
            go_ret
            exact ⟨by first | rfl | (simp [errW_none, errW_some] <;> rfl) | (simp [*, errW_none, errW_some] <;> rfl), by repeat (first | (with_reducible first | exact HB.o | apply zad | apply zaf | apply zae | refine zaj ?_ GE102.o) | exact HB.o)⟩
           ·rw [if_neg c20] at H
            have c20b0 : decide (1048576 < ((rd_T36 l0 x7_1).f2)) = false := decide_eq_false c20
            clear c20
            by_cases c23 : ((rd_T36 l0 x7_1).f3) < 0
            ·rw [if_pos c23] at H
             have c23b0 : decide (((rd_T36 l0 x7_1).f3) < 0) = true := decide_eq_true c23
             clear c23
             obtain rfl := Option.some.inj H
             have p101 : 0 ≤ (x7_1 : Int) := of_decide_eq_true (by first | (with_reducible assumption) | assumption)
             have q101 : x7_1 < (l0.length : Int) := of_decide_eq_true (by first | (with_reducible assumption) | assumption)
             obtain ⟨ad101, e101, hx101_0, hx101_1, hx101_2, hx101_3⟩ := at_T36 HR0.o x7_1 p101 q101
             cases e101
             replace hx101_0 := (HB.o.cell (World.block_lt_of_cell? w _ hx101_0)).trans hx101_0
             replace hx101_1 := (HB.o.cell (World.block_lt_of_cell? w _ hx101_1)).trans hx101_1
             replace hx101_2 := (HB.o.cell (World.block_lt_of_cell? w _ hx101_2)).trans hx101_2
             replace hx101_3 := (HB.o.cell (World.block_lt_of_cell? w _ hx101_3)).trans hx101_3
             replace p101 := eq_true p101
             replace q101 := eq_true q101
             go_wp2_with (first | ((with_reducible refine zaA (N := 4) rfl ?_); refine zaB ?hg (N := 4) ?hd (cs := #[.int .i64 0, .int .i64 0, .int .i64 0, .int .i64 0]) (t := 36) ?hr ?_; (case hd => rfl); (case hg => rfl); (case hr => first | (go_simp; done) | (go_simp; rfl)); intro gb102 hg w24 hbox hb; have n0_ := zaa.mk (zak (by repeat (first | (with_reducible first | exact HB.o | apply zad | apply zaf | apply zae) | exact HB.o)) hb); have n1_ := zaa.mk (hbox); have n2_ := zaa.mk ((by rw [hg]; exact (zam (by repeat (first | (with_reducible first | exact HB.o | apply zad | apply zaf | apply zae) | exact HB.o))) : w.heap.size ≤ gb102)); have n3_ := zaa.mk ((by rw [hg]; exact (zam (by repeat (first | (with_reducible first | exact HB.o | apply zad | apply zaf | apply zae) | exact HB.o))) : w.heap.size ≤ gb102)); clear HB; have HB := n0_; have BK102 := n1_; have GW102 := n2_; have GE102 := n3_; clear n0_ n1_ n2_ n3_; clear hb hbox hg; obtain ⟨hcz25_0, hcz25_1, hcz25_2, hcz25_3⟩ := cz4 BK102.o; obtain ⟨hfz25_0, hfz25_1, hfz25_2, hfz25_3⟩ := fz4 BK102.o))
             go_ret
             exact ⟨by first | rfl | (simp [errW_none, errW_some] <;> rfl) | (simp [*, errW_none, errW_some] <;> rfl), by repeat (first | (with_reducible first | exact HB.o | apply zad | apply zaf | apply zae | refine zaj ?_ GE102.o) | exact HB.o)⟩
            ·rw [if_neg c23] at H
             have c23b0 : decide (((rd_T36 l0 x7_1).f3) < 0) = false := decide_eq_false c23
             clear c23
             by_cases c26 : ((rd_T36 l0 x7_1).f3) > 3
             ·rw [if_pos c26] at H
              have c26b0 : decide (3 < ((rd_T36 l0 x7_1).f3)) = true := decide_eq_true c26
              clear c26
              obtain rfl := Option.some.inj H
              have p101 : 0 ≤ (x7_1 : Int) := of_decide_eq_true (by first | (with_reducible assumption) | assumption)
              have q101 : x7_1 < (l0.length : Int) := of_decide_eq_true (by first | (with_reducible assumption) | assumption)
              obtain ⟨ad101, e101, hx101_0, hx101_1, hx101_2, hx101_3⟩ := at_T36 HR0.o x7_1 p101 q101
              cases e101
              replace hx101_0 := (HB.o.cell (World.block_lt_of_cell? w _ hx101_0)).trans hx101_0
              replace hx101_1 := (HB.o.cell (World.block_lt_of_cell? w _ hx101_1)).trans hx101_1
              replace hx101_2 := (HB.o.cell (World.block_lt_of_cell? w _ hx101_2)).trans hx101_2
              replace hx101_3 := (HB.o.cell (World.block_lt_of_cell? w _ hx101_3)).trans hx101_3
              replace p101 := eq_true p101
              replace q101 := eq_true q101
              go_wp2_with (first | ((with_reducible refine zaA (N := 4) rfl ?_); refine zaB ?hg (N := 4) ?hd (cs := #[.int .i64 0, .int .i64 0, .int .i64 0, .int .i64 0]) (t := 36) ?hr ?_; (case hd => rfl); (case hg => rfl); (case hr => first | (go_simp; done) | (go_simp; rfl)); intro gb102 hg w27 hbox hb; have n0_ := zaa.mk (zak (by repeat (first | (with_reducible first | exact HB.o | apply zad | apply zaf | apply zae) | exact HB.o)) hb); have n1_ := zaa.mk (hbox); have n2_ := zaa.mk ((by rw [hg]; exact (zam (by repeat (first | (with_reducible first | exact HB.o | apply zad | apply zaf | apply zae) | exact HB.o))) : w.heap.size ≤ gb102)); have n3_ := zaa.mk ((by rw [hg]; exact (zam (by repeat (first | (with_reducible first | exact HB.o | apply zad | apply zaf | apply zae) | exact HB.o))) : w.heap.size ≤ gb102)); clear HB; have HB := n0_; have BK102 := n1_; have GW102 := n2_; have GE102 := n3_; clear n0_ n1_ n2_ n3_; clear hb hbox hg; obtain ⟨hcz28_0, hcz28_1, hcz28_2, hcz28_3⟩ := cz4 BK102.o; obtain ⟨hfz28_0, hfz28_1, hfz28_2, hfz28_3⟩ := fz4 BK102.o))
              go_ret
              exact ⟨by first | rfl | (simp [errW_none, errW_some] <;> rfl) | (simp [*, errW_none, errW_some] <;> rfl), by repeat (first | (with_reducible first | exact HB.o | apply zad | apply zaf | apply zae | refine zaj ?_ GE102.o) | exact HB.o)⟩
             ·rw [if_neg c26] at H
              have c26b0 : decide (3 < ((rd_T36 l0 x7_1).f3)) = false := decide_eq_false c26
              clear c26
              have H' := zaa.mk H
              clear H
              have p101 : 0 ≤ (x7_1 : Int) := of_decide_eq_true (by first | (with_reducible assumption) | assumption)
              have q101 : x7_1 < (l0.length : Int) := of_decide_eq_true (by first | (with_reducible assumption) | assumption)
              obtain ⟨ad101, e101, hx101_0, hx101_1, hx101_2, hx101_3⟩ := at_T36 HR0.o x7_1 p101 q101
              cases e101
              replace hx101_0 := (HB.o.cell (World.block_lt_of_cell? w _ hx101_0)).trans hx101_0
              replace hx101_1 := (HB.o.cell (World.block_lt_of_cell? w _ hx101_1)).trans hx101_1
              replace hx101_2 := (HB.o.cell (World.block_lt_of_cell? w _ hx101_2)).trans hx101_2
              replace hx101_3 := (HB.o.cell (World.block_lt_of_cell? w _ hx101_3)).trans hx101_3
              replace p101 := eq_true p101
              replace q101 := eq_true q101
              go_wp2_with (first | ((with_reducible refine zaA (N := 4) rfl ?_); refine zaB ?hg (N := 4) ?hd (cs := #[.int .i64 0, .int .i64 0, .int .i64 0, .int .i64 0]) (t := 36) ?hr ?_; (case hd => rfl); (case hg => rfl); (case hr => first | (go_simp; done) | (go_simp; rfl)); intro gb102 hg w29 hbox hb; have n0_ := zaa.mk (zak (by repeat (first | (with_reducible first | exact HB.o | apply zad | apply zaf | apply zae) | exact HB.o)) hb); have n1_ := zaa.mk (hbox); have n2_ := zaa.mk ((by rw [hg]; exact (zam (by repeat (first | (with_reducible first | exact HB.o | apply zad | apply zaf | apply zae) | exact HB.o))) : w.heap.size ≤ gb102)); have n3_ := zaa.mk ((by rw [hg]; exact (zam (by repeat (first | (with_reducible first | exact HB.o | apply zad | apply zaf | apply zae) | exact HB.o))) : w.heap.size ≤ gb102)); clear HB; have HB := n0_; have BK102 := n1_; have GW102 := n2_; have GE102 := n3_; clear n0_ n1_ n2_ n3_; clear hb hbox hg; obtain ⟨hcz30_0, hcz30_1, hcz30_2, hcz30_3⟩ := cz4 BK102.o; obtain ⟨hfz30_0, hfz30_1, hfz30_2, hfz30_3⟩ := fz4 BK102.o))
              go_roundg k1
              case measure => have := HK1.o; omega
              case rel => exact ⟨(wrap64 (x7_1 + 1)), (by first | rfl | (simp; done) | (simp [*]; done)), H', ⟨by have := HK1.o; omega⟩, ⟨by repeat (first | (with_reducible first | exact HB.o | apply zad | apply zaf | apply zae | refine zaj ?_ GE102.o) | exact HB.o)⟩⟩
     ·rw [if_neg c4] at H
      exact absurd H (by simp)
    ·rw [if_neg c3] at H
     exact absurd H (by simp)
   ·rw [if_neg c2] at H
    have c2b0 : decide (x7_1 < (l0.length : Int)) = false := decide_eq_false c2
    clear c2
    obtain rfl := Option.some.inj H
    go_wp2
    go_ret
    exact ⟨by first | rfl | (simp [errW_none, errW_some] <;> rfl) | (simp [*, errW_none, errW_some] <;> rfl), by repeat (first | (with_reducible first | exact HB.o | apply zad | apply zaf | apply zae) | exact HB.o)⟩

end Go.Proofs.Ytojcnndkdopahaa.P
