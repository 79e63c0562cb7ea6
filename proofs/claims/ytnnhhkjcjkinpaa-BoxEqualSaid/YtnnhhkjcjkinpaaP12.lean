/- Written by wip/tool/hprint.py (the kit's print.py with hand-proved contracts set in): contracts of the functions that the statements of this seat reach, without conditions beyond those named in each theorem. -/
import Derived.Test.YtnnhhkjcjkinpaaP0
namespace Go.Proofs.Ytnnhhkjcjkinpaa.P
open Go.RowKit Go.Proofs.YtnnhhkjcjkinpaaW.PrintWords Go.Proofs.YtnnhhkjcjkinpaaW.PrintLast Go.Proofs.YtnnhhkjcjkinpaaW.PrintMore
attribute [local go_sem] max2_int min2_int max_two min_two max_three min_three max_four min_four   -- for this text's walks alone
set_option linter.unusedVariables false
set_option linter.unusedSimpArgs false

/-! ### vinculumref28_Mark: function 18 -/
def vinculumref28_Mark.f (a0_0 : Int) (a0_1 : ByteArray) (a0_2 : Int) (a0_3 : Int) (a0_4 : Int) (a0_5 : Int) (a0_6 : Int) (a0_7 : Int) (l0_8 : List (S28)) (a0_9 : Int) (l0_10 : List Int) (a1 : Int) (l2 : List Int) : Option (Int × ByteArray × Int × Int × Int × Int × Int × Int × (List (S28)) × Int × List Int) := (some (([] : List Int) : List Int)).bind fun y188 => (if y188.length + l2.length < 17592186044416 then (some (a0_0, a0_1, a0_2, a0_3, a0_4, a0_5, a0_6, a0_7, l0_8, a1, (y188 ++ l2))) else (none))
set_option maxHeartbeats 8000000 in
set_option maxRecDepth 100000 in
theorem vinculumref28_Mark.calls (a0_0 : Int) (a0_1 : ByteArray) (a0_2 : Int) (a0_3 : Int) (a0_4 : Int) (a0_5 : Int) (a0_6 : Int) (a0_7 : Int) (P0_8_ : Nat → Prop) (A0_8 : Option Addr) (c0_8 : Nat) (l0_8 : List (S28)) (a0_9 : Int) (A0_10 : Option Addr) (c0_10 : Nat) (l0_10 : List Int) (a1 : Int) (A2 : Option Addr) (c2 : Nat) (l2 : List Int) (r1 : Int) (r2 : ByteArray) (r3 : Int) (r4 : Int) (r5 : Int) (r6 : Int) (r7 : Int) (r8 : Int) (r9 : List (S28)) (r10 : Int) (r11 : List Int) (w : World) (hs0_8 : Kd.V k28 28 w w.heap.size (fun k_ => P0_8_ k_) (.slice A0_8 l0_8.length c0_8) l0_8) (hr0_10 : Kd.C (Kd.int .i64) w A0_10 l0_10.length l0_10) (hc0_10 : l0_10.length ≤ c0_10) (hr2 : Kd.C (Kd.int .i64) w A2 l2.length l2) (hc2 : l2.length ≤ c2) (h : vinculumref28_Mark.f a0_0 a0_1 a0_2 a0_3 a0_4 a0_5 a0_6 a0_7 l0_8 a0_9 l0_10 a1 l2 = some (r1, r2, r3, r4, r5, r6, r7, r8, r9, r10, r11)) :
    Calls Try.prog 18 #[.agg #[.int .i64 a0_0, .string a0_1, .int .i64 a0_2, .int .i64 a0_3, .int .i64 a0_4, .int .i64 a0_5, .int .i64 a0_6, .int .i64 a0_7, .slice A0_8 l0_8.length c0_8, .int .i64 a0_9, .slice A0_10 l0_10.length c0_10], .int .i64 a1, .slice A2 l2.length c2] w fun e w' => ∃ v8_ v10_ : Value, e = .returned (.agg #[.int .i64 r1, .string r2, .int .i64 r3, .int .i64 r4, .int .i64 r5, .int .i64 r6, .int .i64 r7, .int .i64 r8, v8_, .int .i64 r10, v10_]) ∧ Kd.V k28 28 w' w.heap.size (fun k_ => (P0_8_ k_ ∨ w.heap.size ≤ k_) ∧ some k_ ≠ (v10_ : Value).ownBlock) v8_ r9 ∧ Kd.R (Kd.int .i64) 3 w' w.heap.size (fun k_ => (w.heap.size ≤ k_)) v10_ r11 ∧ Below w.heap.size w w' := by
  have hu28 := Try.underlying28
  have HO0_8 := Aside0.mk (show Kd.V k28 28 w w.heap.size (fun k_ => (P0_8_ k_ ∨ w.heap.size ≤ k_)) (.slice A0_8 l0_8.length c0_8) l0_8 from Kd.V_mono hs0_8 (fun k_ hk => .inl hk))
  have HR0_10 := Aside0.mk hr0_10
  have HC0_10 := Aside0.mk hc0_10
  clear hr0_10 hc0_10
  have HR2 := Aside0.mk hr2
  have HC2 := Aside0.mk hc2
  clear hr2 hc2
  have HB := Aside0.mk (Below.refl w.heap.size w)
  have H : ((some (([] : List Int) : List Int)).bind fun y188 => (if y188.length + l2.length < 17592186044416 then (some (a0_0, a0_1, a0_2, a0_3, a0_4, a0_5, a0_6, a0_7, l0_8, a1, (y188 ++ l2))) else (none))) = some (r1, r2, r3, r4, r5, r6, r7, r8, r9, r10, r11) := h
  clear h
  obtain ⟨y188, hy188⟩ : ∃ y_ : List Int, y_ = (([] : List Int)) := ⟨_, rfl⟩
  replace H : (if y188.length + l2.length < 17592186044416 then (some (a0_0, a0_1, a0_2, a0_3, a0_4, a0_5, a0_6, a0_7, l0_8, a1, (y188 ++ l2))) else (none)) = some (r1, r2, r3, r4, r5, r6, r7, r8, r9, r10, r11) := by first | (rw [hy188]; with_reducible exact H) | (have H2_ := (Option.bind_some _ _).symm.trans H; rw [hy188]; with_reducible exact H2_) | (have H2_ := (Option.bind_some _ _).symm.trans H; with_reducible exact H2_) | with_reducible exact H | (rw [hy188]; exact H) | exact H
  have Ny188 := Aside0.mk hy188
  clear hy188
  by_cases c4 : y188.length + l2.length < 17592186044416
  · rw [if_pos c4] at H
    have LMc4 := Aside0.mk c4
    clear c4
    obtain ⟨y191, hy191⟩ : ∃ y_ : List Int, y_ = (y188 ++ l2) := ⟨_, rfl⟩
    replace H : (some (a0_0, a0_1, a0_2, a0_3, a0_4, a0_5, a0_6, a0_7, l0_8, a1, y191)) = some (r1, r2, r3, r4, r5, r6, r7, r8, r9, r10, r11) := by first | (rw [hy191]; with_reducible exact H) | (have H2_ := (Option.bind_some _ _).symm.trans H; rw [hy191]; with_reducible exact H2_) | (have H2_ := (Option.bind_some _ _).symm.trans H; with_reducible exact H2_) | with_reducible exact H | (rw [hy191]; exact H) | exact H
    have Ny191 := Aside0.mk hy191
    clear hy191
    simp only [Option.some.injEq, Prod.mk.injEq] at H
    obtain ⟨rfl, rfl, rfl, rfl, rfl, rfl, rfl, rfl, rfl, rfl, rfl⟩ := H
    go_enter Try.func18, Try.ntmps18
    go_wp2_with (first | ((with_reducible refine gate_dst (N := 3) rfl ?_); refine box_event ?hg (N := 3) ?hd (cs := #[.int .i64 a0_0, .string a0_1, .int .i64 a0_2, .int .i64 a0_3, .int .i64 a0_4, .int .i64 a0_5, .int .i64 a0_6, .int .i64 a0_7, .slice A0_8 l0_8.length c0_8, .int .i64 a0_9, .slice A0_10 l0_10.length c0_10]) (t := 28) ?hr ?_; (case hd => rfl); (case hg => rfl); (case hr => first | (go_simp; done) | (go_simp; rfl)); intro gb186 hg w5 hbox hb; have n0_ := Aside0.mk (Kd.V_below (Kd.V_elderB (by (with_reducible repeat (first | apply Kd.V_alloc | apply Kd.V_drewN | apply Kd.V_drew)); exact HO0_8.out) gb186 (Nat.le_of_eq hg.symm)) hb); have n1_ := Aside0.mk (below_step (by repeat (first | (with_reducible first | exact HB.out | apply below_alloc | apply pw_below_drewN | apply below_drew1) | exact HB.out)) hb); have n2_ := Aside0.mk (hbox); have n3_ := Aside0.mk ((by rw [hg]; exact (below_size (by repeat (first | (with_reducible first | exact HB.out | apply below_alloc | apply pw_below_drewN | apply below_drew1) | exact HB.out))) : w.heap.size ≤ gb186)); have n4_ := Aside0.mk ((by rw [hg]; exact (below_size (by repeat (first | (with_reducible first | exact HB.out | apply below_alloc | apply pw_below_drewN | apply below_drew1) | exact HB.out))) : w.heap.size ≤ gb186)); clear HO0_8; clear HB; have HO0_8 := n0_; have HB := n1_; have BK186 := n2_; have GW186 := n3_; have GE186 := n4_; clear n0_ n1_ n2_ n3_ n4_; clear hb hbox hg) | ((with_reducible refine gate_dst (N := 6) rfl ?_); refine box_event ?hg (N := 6) ?hd (cs := #[.int .i64 0, .string (⟨#[]⟩ : ByteArray), .int .i64 0, .int .i64 0, .int .i64 0, .int .i64 0, .int .i64 0, .int .i64 0, .slice none 0 0, .int .i64 0, .slice none 0 0]) (t := 28) ?hr ?_; (case hd => rfl); (case hg => rfl); (case hr => first | (go_simp; done) | (go_simp; rfl)); intro gb187 hg w6 hbox hb; have n0_ := Aside0.mk (Kd.V_below (Kd.V_elderB (by (with_reducible repeat (first | apply Kd.V_alloc | apply Kd.V_drewN | apply Kd.V_drew)); exact HO0_8.out) gb187 (Nat.le_of_eq hg.symm)) hb); have n1_ := Aside0.mk (blk_below (g := gb186) (o := .cells #[.int .i64 a0_0, .string a0_1, .int .i64 a0_2, .int .i64 a0_3, .int .i64 a0_4, .int .i64 a0_5, .int .i64 a0_6, .int .i64 a0_7, .slice A0_8 l0_8.length c0_8, .int .i64 a0_9, .slice A0_10 l0_10.length c0_10] 28 (0, 0)) (by (with_reducible repeat (first | refine blk_drewN ?_ _ | refine blk_drew ?_ | refine blk_alloc ?_ _)); exact BK186.out) hb); have n2_ := Aside0.mk (below_step (by repeat (first | (with_reducible first | exact HB.out | apply below_alloc | apply pw_below_drewN | apply below_drew1 | refine below_set ?_ GE186.out) | exact HB.out)) hb); have n3_ := Aside0.mk (hbox); have n4_ := Aside0.mk ((by rw [hg]; exact (below_size (by repeat (first | (with_reducible first | exact HB.out | apply below_alloc | apply pw_below_drewN | apply below_drew1 | refine below_set ?_ GE186.out) | exact HB.out))) : w.heap.size ≤ gb187)); have n5_ := Aside0.mk ((by rw [hg]; exact (below_size (by repeat (first | (with_reducible first | exact HB.out | apply below_alloc | apply pw_below_drewN | apply below_drew1 | refine below_set ?_ GE186.out) | exact HB.out))) : w.heap.size ≤ gb187)); have n6_ := Aside0.mk ((by rw [hg]; exact Nat.ne_of_lt (blk_lt (g := gb186) (o := .cells #[.int .i64 a0_0, .string a0_1, .int .i64 a0_2, .int .i64 a0_3, .int .i64 a0_4, .int .i64 a0_5, .int .i64 a0_6, .int .i64 a0_7, .slice A0_8 l0_8.length c0_8, .int .i64 a0_9, .slice A0_10 l0_10.length c0_10] 28 (0, 0)) (by (with_reducible repeat (first | refine blk_drewN ?_ _ | refine blk_drew ?_ | refine blk_alloc ?_ _)); exact BK186.out)) : gb186 ≠ gb187)); have n7_ := Aside0.mk ((by rw [hg]; exact Nat.ne_of_gt (blk_lt (g := gb186) (o := .cells #[.int .i64 a0_0, .string a0_1, .int .i64 a0_2, .int .i64 a0_3, .int .i64 a0_4, .int .i64 a0_5, .int .i64 a0_6, .int .i64 a0_7, .slice A0_8 l0_8.length c0_8, .int .i64 a0_9, .slice A0_10 l0_10.length c0_10] 28 (0, 0)) (by (with_reducible repeat (first | refine blk_drewN ?_ _ | refine blk_drew ?_ | refine blk_alloc ?_ _)); exact BK186.out)) : gb187 ≠ gb186)); clear HO0_8; clear BK186; clear HB; have HO0_8 := n0_; have BK186 := n1_; have HB := n2_; have BK187 := n3_; have GW187 := n4_; have GE187 := n5_; have NB186_187 := n6_; have NB187_186 := n7_; clear n0_ n1_ n2_ n3_ n4_ n5_ n6_ n7_; clear hb hbox hg) | ((with_reducible refine gate_dst (N := 8) rfl ?_); refine Kd.R_lit (Kd.int .i64) _ 3 ?hg (N := 8) ?hd (xs := ([] : List Int)) (inner := []) (ok := fun _ => True) (okp := fun _ => True) ?hr ?hp (fun _ hk => hk) trivial (Below.refl _ _) (Nat.le_refl _) (by simp) ?_; (case hd => rfl); (case hg => rfl); (case hr => first | (go_simp; done) | (go_simp; rfl)); (case hp => exact (Reps.none _ _)); intro v189 w7 ho8 hb hg_ hnew_; clear hg_ hnew_; (first | rw [← Ny188.out] at ho8 | (simp only [Int.reduceToNat] at ho8; rw [← Ny188.out] at ho8)); have n0_ := Aside0.mk (Kd.V_elder' (by (with_reducible repeat (first | apply Kd.V_alloc | apply Kd.V_drewN | apply Kd.V_drew)); exact HO0_8.out) (Kd.R_base ho8) hb); have n1_ := Aside0.mk (Kd.R_lower (Kd.R_newM (M := fun k_ => (w.heap.size ≤ k_)) ho8 (below_size (by repeat (first | (with_reducible first | exact HB.out | apply below_alloc | apply pw_below_drewN | apply below_drew1 | refine below_set ?_ GE186.out | refine below_set ?_ GE187.out) | exact HB.out))) (fun k_ h_ => h_)) (below_size (by repeat (first | (with_reducible first | exact HB.out | apply below_alloc | apply pw_below_drewN | apply below_drew1 | refine below_set ?_ GE186.out | refine below_set ?_ GE187.out) | exact HB.out)))); have n2_ := Aside0.mk (blk_below (g := gb186) (o := .cells #[.int .i64 a0_0, .string a0_1, .int .i64 a0_2, .int .i64 a0_3, .int .i64 a0_4, .int .i64 a0_5, .int .i64 a0_6, .int .i64 a0_7, .slice A0_8 l0_8.length c0_8, .int .i64 a0_9, .slice A0_10 l0_10.length c0_10] 28 (0, 0)) (by (with_reducible repeat (first | refine blk_drewN ?_ _ | refine blk_drew ?_ | refine blk_alloc ?_ _)); exact BK186.out) hb); have n3_ := Aside0.mk (blk_below (g := gb187) (o := .cells #[.int .i64 0, .string (⟨#[]⟩ : ByteArray), .int .i64 0, .int .i64 0, .int .i64 0, .int .i64 0, .int .i64 0, .int .i64 0, .slice none 0 0, .int .i64 0, .slice none 0 0] 28 (0, 0)) (by (with_reducible repeat (first | refine blk_drewN ?_ _ | refine blk_drew ?_ | refine blk_alloc ?_ _)); exact BK187.out) hb); have n4_ := Aside0.mk (below_step (by repeat (first | (with_reducible first | exact HB.out | apply below_alloc | apply pw_below_drewN | apply below_drew1 | refine below_set ?_ GE186.out | refine below_set ?_ GE187.out) | exact HB.out)) hb); clear HO0_8; clear BK186; clear BK187; clear HB; have HO0_8 := n0_; have HO190 := n1_; have BK186 := n2_; have BK187 := n3_; have HB := n4_; clear n0_ n1_ n2_ n3_ n4_; clear hb ho8) | ((with_reducible refine gate_builtin (b := .append) (xs := #[.tmp 8, .tmp 9]) rfl ?_); at_builtin; refine Kd.R_append_rows (Kd.int .i64) (w0 := w) w.heap.size rfl (.tmp 8) (.tmp 9) 24 3 (.int .i64 0) 8 rfl Try.underlying24 info3 rfl (by decide) (by omega) v189 y188 l2 _ _ _ (fun k_ => (w.heap.size ≤ k_)) (fun _ => False) rfl rfl ?aO ?aR (fun _ _ h => h) (fun _ h => h.elim) ?aF ?aB ?aS ?aL ?_; (case aR => repeat (first | exact (Kd.C_below HR2.out HB.out) | (with_reducible refine Kd.C_alloc ?_ _) | (with_reducible refine Kd.C_drewN ?_ _) | (with_reducible refine Kd.C_drew ?_))); (case aB => exact (by repeat (first | (with_reducible first | exact HB.out | apply below_alloc | apply pw_below_drewN | apply below_drew1 | refine below_set ?_ GE186.out | refine below_set ?_ GE187.out) | exact HB.out))); (case aF => exact (fun k_ hk => (Nat.le_trans (below_size (by repeat (first | (with_reducible first | exact HB.out | apply below_alloc | apply pw_below_drewN | apply below_drew1 | refine below_set ?_ GE186.out | refine below_set ?_ GE187.out) | exact HB.out))) hk))); (case aO => exact (by (with_reducible repeat (first | apply Kd.R_alloc | apply Kd.R_drewN | apply Kd.R_drew)); exact Kd.R_mono HO190.out (fun _ hk => hk.1))); (case aS => exact (below_size (by repeat (first | (with_reducible first | exact HB.out | apply below_alloc | apply pw_below_drewN | apply below_drew1 | refine below_set ?_ GE186.out | refine below_set ?_ GE187.out) | exact HB.out)))); (case aL => have := LMc4.out; omega); intro v192 w9 ho hb hg hat; rw [← Ny191.out] at ho; have n0_ := Aside0.mk (Kd.V_afterv (ok := (fun k_ => (P0_8_ k_ ∨ w.heap.size ≤ k_) ∧ k_ ≠ gb186 ∧ k_ ≠ gb187)) (by (with_reducible repeat (first | apply Kd.V_alloc | apply Kd.V_drewN | apply Kd.V_drew)); exact Kd.V_mono HO0_8.out (fun _ hk => ⟨⟨hk.1.1.1, ⟨hk.1.1.2, hk.1.2⟩⟩, hk.2⟩)) hg hat); have n1_ := Aside0.mk (blk_grown (g := gb186) (o := .cells #[.int .i64 a0_0, .string a0_1, .int .i64 a0_2, .int .i64 a0_3, .int .i64 a0_4, .int .i64 a0_5, .int .i64 a0_6, .int .i64 a0_7, .slice A0_8 l0_8.length c0_8, .int .i64 a0_9, .slice A0_10 l0_10.length c0_10] 28 (0, 0)) (by (with_reducible repeat (first | refine blk_drewN ?_ _ | refine blk_drew ?_ | refine blk_alloc ?_ _)); exact BK186.out) hg (Kd.R_ne HO190.out BK186.out (by decide))); have n2_ := Aside0.mk (blk_grown (g := gb187) (o := .cells #[.int .i64 0, .string (⟨#[]⟩ : ByteArray), .int .i64 0, .int .i64 0, .int .i64 0, .int .i64 0, .int .i64 0, .int .i64 0, .slice none 0 0, .int .i64 0, .slice none 0 0] 28 (0, 0)) (by (with_reducible repeat (first | refine blk_drewN ?_ _ | refine blk_drew ?_ | refine blk_alloc ?_ _)); exact BK187.out) hg (Kd.R_ne HO190.out BK187.out (by decide))); have n3_ := Aside0.mk (hb); have n4_ := Aside0.mk (ho); clear HO0_8; clear BK186; clear BK187; clear HB; clear HO190; have HO0_8 := n0_; have BK186 := n1_; have BK187 := n2_; have HB := n3_; have HO193 := n4_; clear n0_ n1_ n2_ n3_ n4_; clear ho hb hg hat; have hnb10 := NB186_187.out; have hnc10 := NB187_186.out; have hcz11_0 : w9.cell? ⟨gb186, 0, none⟩ = some (.int .i64 a0_0) := (blk_cell BK186.out 0).trans rfl; have hcz11_1 : w9.cell? ⟨gb186, 1, none⟩ = some (.string a0_1) := (blk_cell BK186.out 1).trans rfl; have hcz11_2 : w9.cell? ⟨gb186, 2, none⟩ = some (.int .i64 a0_2) := (blk_cell BK186.out 2).trans rfl; have hcz11_3 : w9.cell? ⟨gb186, 3, none⟩ = some (.int .i64 a0_3) := (blk_cell BK186.out 3).trans rfl; have hcz11_4 : w9.cell? ⟨gb186, 4, none⟩ = some (.int .i64 a0_4) := (blk_cell BK186.out 4).trans rfl; have hcz11_5 : w9.cell? ⟨gb186, 5, none⟩ = some (.int .i64 a0_5) := (blk_cell BK186.out 5).trans rfl; have hcz11_6 : w9.cell? ⟨gb186, 6, none⟩ = some (.int .i64 a0_6) := (blk_cell BK186.out 6).trans rfl; have hcz11_7 : w9.cell? ⟨gb186, 7, none⟩ = some (.int .i64 a0_7) := (blk_cell BK186.out 7).trans rfl; have hcz11_8 : w9.cell? ⟨gb186, 8, none⟩ = some (.slice A0_8 l0_8.length c0_8) := (blk_cell BK186.out 8).trans rfl; have hcz11_9 : w9.cell? ⟨gb186, 9, none⟩ = some (.int .i64 a0_9) := (blk_cell BK186.out 9).trans rfl; have hcz11_10 : w9.cell? ⟨gb186, 10, none⟩ = some (.slice A0_10 l0_10.length c0_10) := (blk_cell BK186.out 10).trans rfl; have hfz11_0 := blk_frozen BK186.out 0; have hfz11_1 := blk_frozen BK186.out 1; have hfz11_2 := blk_frozen BK186.out 2; have hfz11_3 := blk_frozen BK186.out 3; have hfz11_4 := blk_frozen BK186.out 4; have hfz11_5 := blk_frozen BK186.out 5; have hfz11_6 := blk_frozen BK186.out 6; have hfz11_7 := blk_frozen BK186.out 7; have hfz11_8 := blk_frozen BK186.out 8; have hfz11_9 := blk_frozen BK186.out 9; have hfz11_10 := blk_frozen BK186.out 10; obtain ⟨Ao12, co12, eo12⟩ := Kd.R_slice HO193.out; subst eo12; have hcz13_0 : w9.cell? ⟨gb187, 0, none⟩ = some (.int .i64 0) := (blk_cell BK187.out 0).trans rfl; have hcz13_1 : w9.cell? ⟨gb187, 1, none⟩ = some (.string (⟨#[]⟩ : ByteArray)) := (blk_cell BK187.out 1).trans rfl; have hcz13_2 : w9.cell? ⟨gb187, 2, none⟩ = some (.int .i64 0) := (blk_cell BK187.out 2).trans rfl; have hcz13_3 : w9.cell? ⟨gb187, 3, none⟩ = some (.int .i64 0) := (blk_cell BK187.out 3).trans rfl; have hcz13_4 : w9.cell? ⟨gb187, 4, none⟩ = some (.int .i64 0) := (blk_cell BK187.out 4).trans rfl; have hcz13_5 : w9.cell? ⟨gb187, 5, none⟩ = some (.int .i64 0) := (blk_cell BK187.out 5).trans rfl; have hcz13_6 : w9.cell? ⟨gb187, 6, none⟩ = some (.int .i64 0) := (blk_cell BK187.out 6).trans rfl; have hcz13_7 : w9.cell? ⟨gb187, 7, none⟩ = some (.int .i64 0) := (blk_cell BK187.out 7).trans rfl; have hcz13_8 : w9.cell? ⟨gb187, 8, none⟩ = some (.slice none 0 0) := (blk_cell BK187.out 8).trans rfl; have hcz13_9 : w9.cell? ⟨gb187, 9, none⟩ = some (.int .i64 0) := (blk_cell BK187.out 9).trans rfl; have hcz13_10 : w9.cell? ⟨gb187, 10, none⟩ = some (.slice none 0 0) := (blk_cell BK187.out 10).trans rfl; have hfz13_0 := blk_frozen BK187.out 0; have hfz13_1 := blk_frozen BK187.out 1; have hfz13_2 := blk_frozen BK187.out 2; have hfz13_3 := blk_frozen BK187.out 3; have hfz13_4 := blk_frozen BK187.out 4; have hfz13_5 := blk_frozen BK187.out 5; have hfz13_6 := blk_frozen BK187.out 6; have hfz13_7 := blk_frozen BK187.out 7; have hfz13_8 := blk_frozen BK187.out 8; have hfz13_9 := blk_frozen BK187.out 9; have hfz13_10 := blk_frozen BK187.out 10))
    refine bodyPost_ret (results_cell_row rfl _ _ gb187 28 #[.int .i64 a0_0, .string a0_1, .int .i64 a0_2, .int .i64 a0_3, .int .i64 a0_4, .int .i64 a0_5, .int .i64 a0_6, .int .i64 a0_7, .slice A0_8 l0_8.length c0_8, .int .i64 a1, .slice Ao12 y191.length co12] (0, 0) _ rfl (by (with_reducible repeat (first | refine blk_drewN ?_ _ | refine blk_drew ?_ | refine blk_alloc ?_ _)); refine blk_put (cs := #[.int .i64 a0_0, .string a0_1, .int .i64 a0_2, .int .i64 a0_3, .int .i64 a0_4, .int .i64 a0_5, .int .i64 a0_6, .int .i64 a0_7, .slice A0_8 l0_8.length c0_8, .int .i64 a1, .slice none 0 0]) ?_ 10 _ rfl; (with_reducible repeat (first | refine blk_drewN ?_ _ | refine blk_drew ?_ | refine blk_alloc ?_ _)); refine blk_put (cs := #[.int .i64 a0_0, .string a0_1, .int .i64 a0_2, .int .i64 a0_3, .int .i64 a0_4, .int .i64 a0_5, .int .i64 a0_6, .int .i64 a0_7, .slice A0_8 l0_8.length c0_8, .int .i64 0, .slice none 0 0]) ?_ 9 _ rfl; (with_reducible repeat (first | refine blk_drewN ?_ _ | refine blk_drew ?_ | refine blk_alloc ?_ _)); refine blk_put (cs := #[.int .i64 a0_0, .string a0_1, .int .i64 a0_2, .int .i64 a0_3, .int .i64 a0_4, .int .i64 a0_5, .int .i64 a0_6, .int .i64 a0_7, .slice none 0 0, .int .i64 0, .slice none 0 0]) ?_ 8 _ rfl; (with_reducible repeat (first | refine blk_drewN ?_ _ | refine blk_drew ?_ | refine blk_alloc ?_ _)); refine blk_put (cs := #[.int .i64 a0_0, .string a0_1, .int .i64 a0_2, .int .i64 a0_3, .int .i64 a0_4, .int .i64 a0_5, .int .i64 a0_6, .int .i64 0, .slice none 0 0, .int .i64 0, .slice none 0 0]) ?_ 7 _ rfl; (with_reducible repeat (first | refine blk_drewN ?_ _ | refine blk_drew ?_ | refine blk_alloc ?_ _)); refine blk_put (cs := #[.int .i64 a0_0, .string a0_1, .int .i64 a0_2, .int .i64 a0_3, .int .i64 a0_4, .int .i64 a0_5, .int .i64 0, .int .i64 0, .slice none 0 0, .int .i64 0, .slice none 0 0]) ?_ 6 _ rfl; (with_reducible repeat (first | refine blk_drewN ?_ _ | refine blk_drew ?_ | refine blk_alloc ?_ _)); refine blk_put (cs := #[.int .i64 a0_0, .string a0_1, .int .i64 a0_2, .int .i64 a0_3, .int .i64 a0_4, .int .i64 0, .int .i64 0, .int .i64 0, .slice none 0 0, .int .i64 0, .slice none 0 0]) ?_ 5 _ rfl; (with_reducible repeat (first | refine blk_drewN ?_ _ | refine blk_drew ?_ | refine blk_alloc ?_ _)); refine blk_put (cs := #[.int .i64 a0_0, .string a0_1, .int .i64 a0_2, .int .i64 a0_3, .int .i64 0, .int .i64 0, .int .i64 0, .int .i64 0, .slice none 0 0, .int .i64 0, .slice none 0 0]) ?_ 4 _ rfl; (with_reducible repeat (first | refine blk_drewN ?_ _ | refine blk_drew ?_ | refine blk_alloc ?_ _)); refine blk_put (cs := #[.int .i64 a0_0, .string a0_1, .int .i64 a0_2, .int .i64 0, .int .i64 0, .int .i64 0, .int .i64 0, .int .i64 0, .slice none 0 0, .int .i64 0, .slice none 0 0]) ?_ 3 _ rfl; (with_reducible repeat (first | refine blk_drewN ?_ _ | refine blk_drew ?_ | refine blk_alloc ?_ _)); refine blk_put (cs := #[.int .i64 a0_0, .string a0_1, .int .i64 0, .int .i64 0, .int .i64 0, .int .i64 0, .int .i64 0, .int .i64 0, .slice none 0 0, .int .i64 0, .slice none 0 0]) ?_ 2 _ rfl; (with_reducible repeat (first | refine blk_drewN ?_ _ | refine blk_drew ?_ | refine blk_alloc ?_ _)); refine blk_put (cs := #[.int .i64 a0_0, .string (⟨#[]⟩ : ByteArray), .int .i64 0, .int .i64 0, .int .i64 0, .int .i64 0, .int .i64 0, .int .i64 0, .slice none 0 0, .int .i64 0, .slice none 0 0]) ?_ 1 _ rfl; (with_reducible repeat (first | refine blk_drewN ?_ _ | refine blk_drew ?_ | refine blk_alloc ?_ _)); refine blk_put (cs := #[.int .i64 0, .string (⟨#[]⟩ : ByteArray), .int .i64 0, .int .i64 0, .int .i64 0, .int .i64 0, .int .i64 0, .int .i64 0, .slice none 0 0, .int .i64 0, .slice none 0 0]) ?_ 0 _ rfl; (with_reducible repeat (first | refine blk_drewN ?_ _ | refine blk_drew ?_ | refine blk_alloc ?_ _)); refine blk_far ?_ NB187_186.out _; (with_reducible repeat (first | refine blk_drewN ?_ _ | refine blk_drew ?_ | refine blk_alloc ?_ _)); refine blk_far ?_ NB187_186.out _; (with_reducible repeat (first | refine blk_drewN ?_ _ | refine blk_drew ?_ | refine blk_alloc ?_ _)); exact BK187.out) Try.underlying28 rfl (by kernel_rfl)) rfl ?_
    exact ⟨_, _, by first | rfl | (simp [errW_none, errW_some] <;> rfl) | (simp [*, errW_none, errW_some] <;> rfl), by (with_reducible repeat (first | apply Kd.V_alloc | apply Kd.V_drewN | apply Kd.V_drew)); exact Kd.V_mono (Kd.V_far (p := ⟨gb187, 10, none⟩) (Kd.V_far (p := ⟨gb187, 9, none⟩) (Kd.V_far (p := ⟨gb187, 8, none⟩) (Kd.V_far (p := ⟨gb187, 7, none⟩) (Kd.V_far (p := ⟨gb187, 6, none⟩) (Kd.V_far (p := ⟨gb187, 5, none⟩) (Kd.V_far (p := ⟨gb187, 4, none⟩) (Kd.V_far (p := ⟨gb187, 3, none⟩) (Kd.V_far (p := ⟨gb187, 2, none⟩) (Kd.V_far (p := ⟨gb187, 1, none⟩) (Kd.V_far (p := ⟨gb187, 0, none⟩) (Kd.V_far (p := ⟨gb186, 10, none⟩) (Kd.V_far (p := ⟨gb186, 9, none⟩) (Kd.V_mono (Kd.V_mono HO0_8.out (fun k_ hk => (⟨hk, hk.1.2.1⟩ : _ ∧ k_ ≠ gb186))) (fun k_ hk => (⟨hk, hk.1.1.2.2⟩ : _ ∧ k_ ≠ gb187))) (fun _ hk => hk.1.2) (.int .i64 a1)) (fun _ hk => hk.1.2) (.slice Ao12 y191.length co12)) (fun _ hk => hk.2) (.int .i64 a0_0)) (fun _ hk => hk.2) (.string a0_1)) (fun _ hk => hk.2) (.int .i64 a0_2)) (fun _ hk => hk.2) (.int .i64 a0_3)) (fun _ hk => hk.2) (.int .i64 a0_4)) (fun _ hk => hk.2) (.int .i64 a0_5)) (fun _ hk => hk.2) (.int .i64 a0_6)) (fun _ hk => hk.2) (.int .i64 a0_7)) (fun _ hk => hk.2) (.slice A0_8 l0_8.length c0_8)) (fun _ hk => hk.2) (.int .i64 a1)) (fun _ hk => hk.2) (.slice Ao12 y191.length co12)) (fun _ hk => ⟨hk.1.1.1.1, hk.1.1.2⟩), by (with_reducible repeat (first | apply Kd.R_alloc | apply Kd.R_drewN | apply Kd.R_drew)); exact Kd.R_mono (Kd.R_far (p := ⟨gb187, 10, none⟩) (Kd.R_far (p := ⟨gb187, 9, none⟩) (Kd.R_far (p := ⟨gb187, 8, none⟩) (Kd.R_far (p := ⟨gb187, 7, none⟩) (Kd.R_far (p := ⟨gb187, 6, none⟩) (Kd.R_far (p := ⟨gb187, 5, none⟩) (Kd.R_far (p := ⟨gb187, 4, none⟩) (Kd.R_far (p := ⟨gb187, 3, none⟩) (Kd.R_far (p := ⟨gb187, 2, none⟩) (Kd.R_far (p := ⟨gb187, 1, none⟩) (Kd.R_far (p := ⟨gb187, 0, none⟩) (Kd.R_far (p := ⟨gb186, 10, none⟩) (Kd.R_far (p := ⟨gb186, 9, none⟩) (Kd.R_types (Kd.R_types HO193.out BK186.out (by decide)) BK187.out (by decide)) (fun _ hk => hk.1.2) (.int .i64 a1)) (fun _ hk => hk.1.2) (.slice Ao12 y191.length co12)) (fun _ hk => hk.2) (.int .i64 a0_0)) (fun _ hk => hk.2) (.string a0_1)) (fun _ hk => hk.2) (.int .i64 a0_2)) (fun _ hk => hk.2) (.int .i64 a0_3)) (fun _ hk => hk.2) (.int .i64 a0_4)) (fun _ hk => hk.2) (.int .i64 a0_5)) (fun _ hk => hk.2) (.int .i64 a0_6)) (fun _ hk => hk.2) (.int .i64 a0_7)) (fun _ hk => hk.2) (.slice A0_8 l0_8.length c0_8)) (fun _ hk => hk.2) (.int .i64 a1)) (fun _ hk => hk.2) (.slice Ao12 y191.length co12)) (fun _ hk => hk.1.1), by repeat (first | (with_reducible first | exact HB.out | apply below_alloc | apply pw_below_drewN | apply below_drew1 | refine below_set ?_ GE186.out | refine below_set ?_ GE187.out) | exact HB.out)⟩
  · rw [if_neg c4] at H
    exact absurd H (by simp)

/-! ### vinculumref28_At: function 20 -/
def vinculumref28_At.f (a0_0 : Int) (a0_1 : ByteArray) (a0_2 : Int) (a0_3 : Int) (a0_4 : Int) (a0_5 : Int) (a0_6 : Int) (a0_7 : Int) (l0_8 : List (S28)) (a0_9 : Int) (l0_10 : List Int) (a1 : Int) (a2 : Int) : Option (Int × ByteArray × Int × Int × Int × Int × Int × Int × (List (S28)) × Int × List Int) := some (a0_0, a0_1, a0_2, a0_3, a0_4, a0_5, a1, a2, l0_8, a0_9, l0_10)
set_option maxHeartbeats 8000000 in
set_option maxRecDepth 100000 in
theorem vinculumref28_At.calls (a0_0 : Int) (a0_1 : ByteArray) (a0_2 : Int) (a0_3 : Int) (a0_4 : Int) (a0_5 : Int) (a0_6 : Int) (a0_7 : Int) (P0_8_ : Nat → Prop) (A0_8 : Option Addr) (c0_8 : Nat) (l0_8 : List (S28)) (a0_9 : Int) (P0_10_ : Nat → Prop) (u9000_ : Value) (l0_10 : List Int) (a1 : Int) (a2 : Int) (r1 : Int) (r2 : ByteArray) (r3 : Int) (r4 : Int) (r5 : Int) (r6 : Int) (r7 : Int) (r8 : Int) (r9 : List (S28)) (r10 : Int) (r11 : List Int) (w0 w : World) (hB : Below w0.heap.size w0 w) (hs0_8 : Kd.V k28 28 w w0.heap.size (fun k_ => P0_8_ k_ ∧ some k_ ≠ (u9000_ : Value).ownBlock) (.slice A0_8 l0_8.length c0_8) l0_8) (ho0_10 : Kd.R (Kd.int .i64) 3 w w0.heap.size P0_10_ u9000_ l0_10) (h : vinculumref28_At.f a0_0 a0_1 a0_2 a0_3 a0_4 a0_5 a0_6 a0_7 l0_8 a0_9 l0_10 a1 a2 = some (r1, r2, r3, r4, r5, r6, r7, r8, r9, r10, r11)) :
    Calls Try.prog 20 #[.agg #[.int .i64 a0_0, .string a0_1, .int .i64 a0_2, .int .i64 a0_3, .int .i64 a0_4, .int .i64 a0_5, .int .i64 a0_6, .int .i64 a0_7, .slice A0_8 l0_8.length c0_8, .int .i64 a0_9, u9000_], .int .i64 a1, .int .i64 a2] w fun e w' => ∃ v8_ v10_ : Value, e = .returned (.agg #[.int .i64 r1, .string r2, .int .i64 r3, .int .i64 r4, .int .i64 r5, .int .i64 r6, .int .i64 r7, .int .i64 r8, v8_, .int .i64 r10, v10_]) ∧ Kd.V k28 28 w' w0.heap.size (fun k_ => ((P0_10_ k_ ∨ P0_8_ k_) ∨ w.heap.size ≤ k_) ∧ some k_ ≠ (v10_ : Value).ownBlock) v8_ r9 ∧ Kd.R (Kd.int .i64) 3 w' w0.heap.size (fun k_ => (P0_10_ k_ ∨ w.heap.size ≤ k_)) v10_ r11 ∧ Below w0.heap.size w0 w' ∧ Kept w w' (fun k_ => P0_10_ k_) := by
  have hu28 := Try.underlying28
  have HO0_8 := Aside0.mk (show Kd.V k28 28 w w0.heap.size (fun k_ => ((P0_10_ k_ ∨ P0_8_ k_) ∨ w.heap.size ≤ k_) ∧ some k_ ≠ (u9000_ : Value).ownBlock) (.slice A0_8 l0_8.length c0_8) l0_8 from Kd.V_mono hs0_8 (fun k_ hk => ⟨.inl (.inr hk.1), hk.2⟩))
  have HO0_10 := Aside0.mk (show Kd.R (Kd.int .i64) 3 w w0.heap.size (fun k_ => (P0_10_ k_ ∨ w.heap.size ≤ k_)) u9000_ l0_10 from Kd.R_mono ho0_10 (fun k_ hk => (.inl hk)))
  have HK := Aside0.mk (Kept.refl w (fun k_ => P0_10_ k_))
  have HW0 := Aside0.mk hB.size
  have HB := Aside0.mk hB
  clear hB
  have H : (some (a0_0, a0_1, a0_2, a0_3, a0_4, a0_5, a1, a2, l0_8, a0_9, l0_10)) = some (r1, r2, r3, r4, r5, r6, r7, r8, r9, r10, r11) := h
  clear h
  simp only [Option.some.injEq, Prod.mk.injEq] at H
  obtain ⟨rfl, rfl, rfl, rfl, rfl, rfl, rfl, rfl, rfl, rfl, rfl⟩ := H
  obtain ⟨Ao4, co4, eo4⟩ := Kd.R_slice HO0_10.out
  subst eo4
  go_enter Try.func20, Try.ntmps20
  go_wp2_with (first | ((with_reducible refine gate_dst (N := 3) rfl ?_); refine box_event ?hg (N := 3) ?hd (cs := #[.int .i64 a0_0, .string a0_1, .int .i64 a0_2, .int .i64 a0_3, .int .i64 a0_4, .int .i64 a0_5, .int .i64 a0_6, .int .i64 a0_7, .slice A0_8 l0_8.length c0_8, .int .i64 a0_9, .slice Ao4 l0_10.length co4]) (t := 28) ?hr ?_; (case hd => rfl); (case hg => rfl); (case hr => first | (go_simp; done) | (go_simp; rfl)); intro gb194 hg w5 hbox hb; have n0_ := Aside0.mk (Kd.R_below (by (with_reducible repeat (first | apply Kd.R_alloc | apply Kd.R_drewN | apply Kd.R_drew)); exact HO0_10.out) hb); have n1_ := Aside0.mk (Kd.V_below (Kd.V_elderB (by (with_reducible repeat (first | apply Kd.V_alloc | apply Kd.V_drewN | apply Kd.V_drew)); exact HO0_8.out) gb194 (Nat.le_of_eq hg.symm)) hb); have n2_ := Aside0.mk (Kept.below (S := (fun k_ => P0_10_ k_)) (by repeat (first | (with_reducible first | exact HK.out | apply Kept.alloc | apply Kept.drewN | apply Kept.drew) | exact HK.out)) hb); have n3_ := Aside0.mk (below_step (by repeat (first | (with_reducible first | exact HB.out | apply below_alloc | apply pw_below_drewN | apply below_drew1) | exact HB.out)) hb); have n4_ := Aside0.mk (hbox); have n5_ := Aside0.mk ((by rw [hg]; exact (by first | exact HK.out.1 | exact (show Kept w _ (fun k_ => P0_10_ k_) from by repeat (first | (with_reducible first | exact HK.out | apply Kept.alloc | apply Kept.drewN | apply Kept.drew) | exact HK.out)).1) : w.heap.size ≤ gb194)); have n6_ := Aside0.mk ((by rw [hg]; exact (below_size (by repeat (first | (with_reducible first | exact HB.out | apply below_alloc | apply pw_below_drewN | apply below_drew1) | exact HB.out))) : w0.heap.size ≤ gb194)); clear HO0_10; clear HO0_8; clear HK; clear HB; have HO0_10 := n0_; have HO0_8 := n1_; have HK := n2_; have HB := n3_; have BK194 := n4_; have GW194 := n5_; have GE194 := n6_; clear n0_ n1_ n2_ n3_ n4_ n5_ n6_; clear hb hbox hg) | ((with_reducible refine gate_dst (N := 6) rfl ?_); refine box_event ?hg (N := 6) ?hd (cs := #[.int .i64 0, .string (⟨#[]⟩ : ByteArray), .int .i64 0, .int .i64 0, .int .i64 0, .int .i64 0, .int .i64 0, .int .i64 0, .slice none 0 0, .int .i64 0, .slice none 0 0]) (t := 28) ?hr ?_; (case hd => rfl); (case hg => rfl); (case hr => first | (go_simp; done) | (go_simp; rfl)); intro gb195 hg w6 hbox hb; have n0_ := Aside0.mk (Kd.R_below (by (with_reducible repeat (first | apply Kd.R_alloc | apply Kd.R_drewN | apply Kd.R_drew)); exact HO0_10.out) hb); have n1_ := Aside0.mk (Kd.V_below (Kd.V_elderB (by (with_reducible repeat (first | apply Kd.V_alloc | apply Kd.V_drewN | apply Kd.V_drew)); exact HO0_8.out) gb195 (Nat.le_of_eq hg.symm)) hb); have n2_ := Aside0.mk (blk_below (g := gb194) (o := .cells #[.int .i64 a0_0, .string a0_1, .int .i64 a0_2, .int .i64 a0_3, .int .i64 a0_4, .int .i64 a0_5, .int .i64 a0_6, .int .i64 a0_7, .slice A0_8 l0_8.length c0_8, .int .i64 a0_9, .slice Ao4 l0_10.length co4] 28 (0, 0)) (by (with_reducible repeat (first | refine blk_drewN ?_ _ | refine blk_drew ?_ | refine blk_alloc ?_ _)); exact BK194.out) hb); have n3_ := Aside0.mk (Kept.below (S := (fun k_ => P0_10_ k_)) (by repeat (first | (with_reducible first | exact HK.out | apply Kept.alloc | apply Kept.drewN | apply Kept.drew | refine Kept.setCell ?_ (.inr GW194.out) _) | exact HK.out)) hb); have n4_ := Aside0.mk (below_step (by repeat (first | (with_reducible first | exact HB.out | apply below_alloc | apply pw_below_drewN | apply below_drew1 | refine below_set ?_ GE194.out) | exact HB.out)) hb); have n5_ := Aside0.mk (hbox); have n6_ := Aside0.mk ((by rw [hg]; exact (by first | exact HK.out.1 | exact (show Kept w _ (fun k_ => P0_10_ k_) from by repeat (first | (with_reducible first | exact HK.out | apply Kept.alloc | apply Kept.drewN | apply Kept.drew | refine Kept.setCell ?_ (.inr GW194.out) _) | exact HK.out)).1) : w.heap.size ≤ gb195)); have n7_ := Aside0.mk ((by rw [hg]; exact (below_size (by repeat (first | (with_reducible first | exact HB.out | apply below_alloc | apply pw_below_drewN | apply below_drew1 | refine below_set ?_ GE194.out) | exact HB.out))) : w0.heap.size ≤ gb195)); have n8_ := Aside0.mk ((by rw [hg]; exact Nat.ne_of_lt (blk_lt (g := gb194) (o := .cells #[.int .i64 a0_0, .string a0_1, .int .i64 a0_2, .int .i64 a0_3, .int .i64 a0_4, .int .i64 a0_5, .int .i64 a0_6, .int .i64 a0_7, .slice A0_8 l0_8.length c0_8, .int .i64 a0_9, .slice Ao4 l0_10.length co4] 28 (0, 0)) (by (with_reducible repeat (first | refine blk_drewN ?_ _ | refine blk_drew ?_ | refine blk_alloc ?_ _)); exact BK194.out)) : gb194 ≠ gb195)); have n9_ := Aside0.mk ((by rw [hg]; exact Nat.ne_of_gt (blk_lt (g := gb194) (o := .cells #[.int .i64 a0_0, .string a0_1, .int .i64 a0_2, .int .i64 a0_3, .int .i64 a0_4, .int .i64 a0_5, .int .i64 a0_6, .int .i64 a0_7, .slice A0_8 l0_8.length c0_8, .int .i64 a0_9, .slice Ao4 l0_10.length co4] 28 (0, 0)) (by (with_reducible repeat (first | refine blk_drewN ?_ _ | refine blk_drew ?_ | refine blk_alloc ?_ _)); exact BK194.out)) : gb195 ≠ gb194)); clear HO0_10; clear HO0_8; clear BK194; clear HK; clear HB; have HO0_10 := n0_; have HO0_8 := n1_; have BK194 := n2_; have HK := n3_; have HB := n4_; have BK195 := n5_; have GW195 := n6_; have GE195 := n7_; have NB194_195 := n8_; have NB195_194 := n9_; clear n0_ n1_ n2_ n3_ n4_ n5_ n6_ n7_ n8_ n9_; clear hb hbox hg; have hnb7 := NB194_195.out; have hnc7 := NB195_194.out; have hcz8_0 : w6.cell? ⟨gb194, 0, none⟩ = some (.int .i64 a0_0) := (blk_cell BK194.out 0).trans rfl; have hcz8_1 : w6.cell? ⟨gb194, 1, none⟩ = some (.string a0_1) := (blk_cell BK194.out 1).trans rfl; have hcz8_2 : w6.cell? ⟨gb194, 2, none⟩ = some (.int .i64 a0_2) := (blk_cell BK194.out 2).trans rfl; have hcz8_3 : w6.cell? ⟨gb194, 3, none⟩ = some (.int .i64 a0_3) := (blk_cell BK194.out 3).trans rfl; have hcz8_4 : w6.cell? ⟨gb194, 4, none⟩ = some (.int .i64 a0_4) := (blk_cell BK194.out 4).trans rfl; have hcz8_5 : w6.cell? ⟨gb194, 5, none⟩ = some (.int .i64 a0_5) := (blk_cell BK194.out 5).trans rfl; have hcz8_6 : w6.cell? ⟨gb194, 6, none⟩ = some (.int .i64 a0_6) := (blk_cell BK194.out 6).trans rfl; have hcz8_7 : w6.cell? ⟨gb194, 7, none⟩ = some (.int .i64 a0_7) := (blk_cell BK194.out 7).trans rfl; have hcz8_8 : w6.cell? ⟨gb194, 8, none⟩ = some (.slice A0_8 l0_8.length c0_8) := (blk_cell BK194.out 8).trans rfl; have hcz8_9 : w6.cell? ⟨gb194, 9, none⟩ = some (.int .i64 a0_9) := (blk_cell BK194.out 9).trans rfl; have hcz8_10 : w6.cell? ⟨gb194, 10, none⟩ = some (.slice Ao4 l0_10.length co4) := (blk_cell BK194.out 10).trans rfl; have hfz8_0 := blk_frozen BK194.out 0; have hfz8_1 := blk_frozen BK194.out 1; have hfz8_2 := blk_frozen BK194.out 2; have hfz8_3 := blk_frozen BK194.out 3; have hfz8_4 := blk_frozen BK194.out 4; have hfz8_5 := blk_frozen BK194.out 5; have hfz8_6 := blk_frozen BK194.out 6; have hfz8_7 := blk_frozen BK194.out 7; have hfz8_8 := blk_frozen BK194.out 8; have hfz8_9 := blk_frozen BK194.out 9; have hfz8_10 := blk_frozen BK194.out 10; have hcz9_0 : w6.cell? ⟨gb195, 0, none⟩ = some (.int .i64 0) := (blk_cell BK195.out 0).trans rfl; have hcz9_1 : w6.cell? ⟨gb195, 1, none⟩ = some (.string (⟨#[]⟩ : ByteArray)) := (blk_cell BK195.out 1).trans rfl; have hcz9_2 : w6.cell? ⟨gb195, 2, none⟩ = some (.int .i64 0) := (blk_cell BK195.out 2).trans rfl; have hcz9_3 : w6.cell? ⟨gb195, 3, none⟩ = some (.int .i64 0) := (blk_cell BK195.out 3).trans rfl; have hcz9_4 : w6.cell? ⟨gb195, 4, none⟩ = some (.int .i64 0) := (blk_cell BK195.out 4).trans rfl; have hcz9_5 : w6.cell? ⟨gb195, 5, none⟩ = some (.int .i64 0) := (blk_cell BK195.out 5).trans rfl; have hcz9_6 : w6.cell? ⟨gb195, 6, none⟩ = some (.int .i64 0) := (blk_cell BK195.out 6).trans rfl; have hcz9_7 : w6.cell? ⟨gb195, 7, none⟩ = some (.int .i64 0) := (blk_cell BK195.out 7).trans rfl; have hcz9_8 : w6.cell? ⟨gb195, 8, none⟩ = some (.slice none 0 0) := (blk_cell BK195.out 8).trans rfl; have hcz9_9 : w6.cell? ⟨gb195, 9, none⟩ = some (.int .i64 0) := (blk_cell BK195.out 9).trans rfl; have hcz9_10 : w6.cell? ⟨gb195, 10, none⟩ = some (.slice none 0 0) := (blk_cell BK195.out 10).trans rfl; have hfz9_0 := blk_frozen BK195.out 0; have hfz9_1 := blk_frozen BK195.out 1; have hfz9_2 := blk_frozen BK195.out 2; have hfz9_3 := blk_frozen BK195.out 3; have hfz9_4 := blk_frozen BK195.out 4; have hfz9_5 := blk_frozen BK195.out 5; have hfz9_6 := blk_frozen BK195.out 6; have hfz9_7 := blk_frozen BK195.out 7; have hfz9_8 := blk_frozen BK195.out 8; have hfz9_9 := blk_frozen BK195.out 9; have hfz9_10 := blk_frozen BK195.out 10))
  refine bodyPost_ret (results_cell_row rfl _ _ gb195 28 #[.int .i64 a0_0, .string a0_1, .int .i64 a0_2, .int .i64 a0_3, .int .i64 a0_4, .int .i64 a0_5, .int .i64 a1, .int .i64 a2, .slice A0_8 l0_8.length c0_8, .int .i64 a0_9, .slice Ao4 l0_10.length co4] (0, 0) _ rfl (by (with_reducible repeat (first | refine blk_drewN ?_ _ | refine blk_drew ?_ | refine blk_alloc ?_ _)); refine blk_put (cs := #[.int .i64 a0_0, .string a0_1, .int .i64 a0_2, .int .i64 a0_3, .int .i64 a0_4, .int .i64 a0_5, .int .i64 a1, .int .i64 a2, .slice A0_8 l0_8.length c0_8, .int .i64 a0_9, .slice none 0 0]) ?_ 10 _ rfl; (with_reducible repeat (first | refine blk_drewN ?_ _ | refine blk_drew ?_ | refine blk_alloc ?_ _)); refine blk_put (cs := #[.int .i64 a0_0, .string a0_1, .int .i64 a0_2, .int .i64 a0_3, .int .i64 a0_4, .int .i64 a0_5, .int .i64 a1, .int .i64 a2, .slice A0_8 l0_8.length c0_8, .int .i64 0, .slice none 0 0]) ?_ 9 _ rfl; (with_reducible repeat (first | refine blk_drewN ?_ _ | refine blk_drew ?_ | refine blk_alloc ?_ _)); refine blk_put (cs := #[.int .i64 a0_0, .string a0_1, .int .i64 a0_2, .int .i64 a0_3, .int .i64 a0_4, .int .i64 a0_5, .int .i64 a1, .int .i64 a2, .slice none 0 0, .int .i64 0, .slice none 0 0]) ?_ 8 _ rfl; (with_reducible repeat (first | refine blk_drewN ?_ _ | refine blk_drew ?_ | refine blk_alloc ?_ _)); refine blk_put (cs := #[.int .i64 a0_0, .string a0_1, .int .i64 a0_2, .int .i64 a0_3, .int .i64 a0_4, .int .i64 a0_5, .int .i64 a1, .int .i64 0, .slice none 0 0, .int .i64 0, .slice none 0 0]) ?_ 7 _ rfl; (with_reducible repeat (first | refine blk_drewN ?_ _ | refine blk_drew ?_ | refine blk_alloc ?_ _)); refine blk_put (cs := #[.int .i64 a0_0, .string a0_1, .int .i64 a0_2, .int .i64 a0_3, .int .i64 a0_4, .int .i64 a0_5, .int .i64 0, .int .i64 0, .slice none 0 0, .int .i64 0, .slice none 0 0]) ?_ 6 _ rfl; (with_reducible repeat (first | refine blk_drewN ?_ _ | refine blk_drew ?_ | refine blk_alloc ?_ _)); refine blk_put (cs := #[.int .i64 a0_0, .string a0_1, .int .i64 a0_2, .int .i64 a0_3, .int .i64 a0_4, .int .i64 0, .int .i64 0, .int .i64 0, .slice none 0 0, .int .i64 0, .slice none 0 0]) ?_ 5 _ rfl; (with_reducible repeat (first | refine blk_drewN ?_ _ | refine blk_drew ?_ | refine blk_alloc ?_ _)); refine blk_put (cs := #[.int .i64 a0_0, .string a0_1, .int .i64 a0_2, .int .i64 a0_3, .int .i64 0, .int .i64 0, .int .i64 0, .int .i64 0, .slice none 0 0, .int .i64 0, .slice none 0 0]) ?_ 4 _ rfl; (with_reducible repeat (first | refine blk_drewN ?_ _ | refine blk_drew ?_ | refine blk_alloc ?_ _)); refine blk_put (cs := #[.int .i64 a0_0, .string a0_1, .int .i64 a0_2, .int .i64 0, .int .i64 0, .int .i64 0, .int .i64 0, .int .i64 0, .slice none 0 0, .int .i64 0, .slice none 0 0]) ?_ 3 _ rfl; (with_reducible repeat (first | refine blk_drewN ?_ _ | refine blk_drew ?_ | refine blk_alloc ?_ _)); refine blk_put (cs := #[.int .i64 a0_0, .string a0_1, .int .i64 0, .int .i64 0, .int .i64 0, .int .i64 0, .int .i64 0, .int .i64 0, .slice none 0 0, .int .i64 0, .slice none 0 0]) ?_ 2 _ rfl; (with_reducible repeat (first | refine blk_drewN ?_ _ | refine blk_drew ?_ | refine blk_alloc ?_ _)); refine blk_put (cs := #[.int .i64 a0_0, .string (⟨#[]⟩ : ByteArray), .int .i64 0, .int .i64 0, .int .i64 0, .int .i64 0, .int .i64 0, .int .i64 0, .slice none 0 0, .int .i64 0, .slice none 0 0]) ?_ 1 _ rfl; (with_reducible repeat (first | refine blk_drewN ?_ _ | refine blk_drew ?_ | refine blk_alloc ?_ _)); refine blk_put (cs := #[.int .i64 0, .string (⟨#[]⟩ : ByteArray), .int .i64 0, .int .i64 0, .int .i64 0, .int .i64 0, .int .i64 0, .int .i64 0, .slice none 0 0, .int .i64 0, .slice none 0 0]) ?_ 0 _ rfl; (with_reducible repeat (first | refine blk_drewN ?_ _ | refine blk_drew ?_ | refine blk_alloc ?_ _)); refine blk_far ?_ NB195_194.out _; (with_reducible repeat (first | refine blk_drewN ?_ _ | refine blk_drew ?_ | refine blk_alloc ?_ _)); refine blk_far ?_ NB195_194.out _; (with_reducible repeat (first | refine blk_drewN ?_ _ | refine blk_drew ?_ | refine blk_alloc ?_ _)); exact BK195.out) Try.underlying28 rfl (by kernel_rfl)) rfl ?_
  exact ⟨_, _, by first | rfl | (simp [errW_none, errW_some] <;> rfl) | (simp [*, errW_none, errW_some] <;> rfl), by (with_reducible repeat (first | apply Kd.V_alloc | apply Kd.V_drewN | apply Kd.V_drew)); exact Kd.V_mono (Kd.V_far (p := ⟨gb195, 10, none⟩) (Kd.V_far (p := ⟨gb195, 9, none⟩) (Kd.V_far (p := ⟨gb195, 8, none⟩) (Kd.V_far (p := ⟨gb195, 7, none⟩) (Kd.V_far (p := ⟨gb195, 6, none⟩) (Kd.V_far (p := ⟨gb195, 5, none⟩) (Kd.V_far (p := ⟨gb195, 4, none⟩) (Kd.V_far (p := ⟨gb195, 3, none⟩) (Kd.V_far (p := ⟨gb195, 2, none⟩) (Kd.V_far (p := ⟨gb195, 1, none⟩) (Kd.V_far (p := ⟨gb195, 0, none⟩) (Kd.V_far (p := ⟨gb194, 7, none⟩) (Kd.V_far (p := ⟨gb194, 6, none⟩) (Kd.V_mono (Kd.V_mono HO0_8.out (fun k_ hk => (⟨hk, hk.1.2⟩ : _ ∧ k_ ≠ gb194))) (fun k_ hk => (⟨hk, hk.1.2⟩ : _ ∧ k_ ≠ gb195))) (fun _ hk => hk.1.2) (.int .i64 a1)) (fun _ hk => hk.1.2) (.int .i64 a2)) (fun _ hk => hk.2) (.int .i64 a0_0)) (fun _ hk => hk.2) (.string a0_1)) (fun _ hk => hk.2) (.int .i64 a0_2)) (fun _ hk => hk.2) (.int .i64 a0_3)) (fun _ hk => hk.2) (.int .i64 a0_4)) (fun _ hk => hk.2) (.int .i64 a0_5)) (fun _ hk => hk.2) (.int .i64 a1)) (fun _ hk => hk.2) (.int .i64 a2)) (fun _ hk => hk.2) (.slice A0_8 l0_8.length c0_8)) (fun _ hk => hk.2) (.int .i64 a0_9)) (fun _ hk => hk.2) (.slice Ao4 l0_10.length co4)) (fun _ hk => ⟨hk.1.1.1.1.1, hk.1.1.1.1.2⟩), by (with_reducible repeat (first | apply Kd.R_alloc | apply Kd.R_drewN | apply Kd.R_drew)); exact Kd.R_mono (Kd.R_far (p := ⟨gb195, 10, none⟩) (Kd.R_far (p := ⟨gb195, 9, none⟩) (Kd.R_far (p := ⟨gb195, 8, none⟩) (Kd.R_far (p := ⟨gb195, 7, none⟩) (Kd.R_far (p := ⟨gb195, 6, none⟩) (Kd.R_far (p := ⟨gb195, 5, none⟩) (Kd.R_far (p := ⟨gb195, 4, none⟩) (Kd.R_far (p := ⟨gb195, 3, none⟩) (Kd.R_far (p := ⟨gb195, 2, none⟩) (Kd.R_far (p := ⟨gb195, 1, none⟩) (Kd.R_far (p := ⟨gb195, 0, none⟩) (Kd.R_far (p := ⟨gb194, 7, none⟩) (Kd.R_far (p := ⟨gb194, 6, none⟩) (Kd.R_types (Kd.R_types HO0_10.out BK194.out (by decide)) BK195.out (by decide)) (fun _ hk => hk.1.2) (.int .i64 a1)) (fun _ hk => hk.1.2) (.int .i64 a2)) (fun _ hk => hk.2) (.int .i64 a0_0)) (fun _ hk => hk.2) (.string a0_1)) (fun _ hk => hk.2) (.int .i64 a0_2)) (fun _ hk => hk.2) (.int .i64 a0_3)) (fun _ hk => hk.2) (.int .i64 a0_4)) (fun _ hk => hk.2) (.int .i64 a0_5)) (fun _ hk => hk.2) (.int .i64 a1)) (fun _ hk => hk.2) (.int .i64 a2)) (fun _ hk => hk.2) (.slice A0_8 l0_8.length c0_8)) (fun _ hk => hk.2) (.int .i64 a0_9)) (fun _ hk => hk.2) (.slice Ao4 l0_10.length co4)) (fun _ hk => hk.1.1), by repeat (first | (with_reducible first | exact HB.out | apply below_alloc | apply pw_below_drewN | apply below_drew1 | refine below_set ?_ GE194.out | refine below_set ?_ GE195.out) | exact HB.out), by repeat (first | (with_reducible first | exact HK.out | apply Kept.alloc | apply Kept.drewN | apply Kept.drew | refine Kept.setCell ?_ (.inr GW194.out) _ | refine Kept.setCell ?_ (.inr GW195.out) _) | exact HK.out)⟩

/-! ### vinculumref28_Rule: function 22 -/
def vinculumref28_Rule.f (a0 : Int) (a1 : Int) (a2 : Int) : Option (Int × ByteArray × Int × Int × Int × Int × Int × Int × (List (S28)) × Int × List Int) := some (2, (⟨#[]⟩ : ByteArray), 0, a0, a1, a2, 0, 0, ([] : List (S28)), 0, ([] : List Int))
set_option maxHeartbeats 8000000 in
set_option maxRecDepth 100000 in
theorem vinculumref28_Rule.calls (a0 : Int) (a1 : Int) (a2 : Int) (r1 : Int) (r2 : ByteArray) (r3 : Int) (r4 : Int) (r5 : Int) (r6 : Int) (r7 : Int) (r8 : Int) (r9 : List (S28)) (r10 : Int) (r11 : List Int) (w : World) (h : vinculumref28_Rule.f a0 a1 a2 = some (r1, r2, r3, r4, r5, r6, r7, r8, r9, r10, r11)) :
    Calls Try.prog 22 #[.int .i64 a0, .int .i64 a1, .int .i64 a2] w fun e w' => ∃ v8_ v10_ : Value, e = .returned (.agg #[.int .i64 r1, .string r2, .int .i64 r3, .int .i64 r4, .int .i64 r5, .int .i64 r6, .int .i64 r7, .int .i64 r8, v8_, .int .i64 r10, v10_]) ∧ Kd.R k28 28 w' w.heap.size (fun k_ => some k_ ≠ (v10_ : Value).ownBlock) v8_ r9 ∧ Kd.R (Kd.int .i64) 3 w' w.heap.size (fun _ => True) v10_ r11 ∧ Below w.heap.size w w' := by
  have hu28 := Try.underlying28
  have HB := Aside0.mk (Below.refl w.heap.size w)
  have H : (some (2, (⟨#[]⟩ : ByteArray), 0, a0, a1, a2, 0, 0, ([] : List (S28)), 0, ([] : List Int))) = some (r1, r2, r3, r4, r5, r6, r7, r8, r9, r10, r11) := h
  clear h
  simp only [Option.some.injEq, Prod.mk.injEq] at H
  obtain ⟨rfl, rfl, rfl, rfl, rfl, rfl, rfl, rfl, rfl, rfl, rfl⟩ := H
  go_enter Try.func22, Try.ntmps22
  go_wp2_with (first | ((with_reducible refine gate_dst (N := 6) rfl ?_); refine box_event ?hg (N := 6) ?hd (cs := #[.int .i64 0, .string (⟨#[]⟩ : ByteArray), .int .i64 0, .int .i64 0, .int .i64 0, .int .i64 0, .int .i64 0, .int .i64 0, .slice none 0 0, .int .i64 0, .slice none 0 0]) (t := 28) ?hr ?_; (case hd => rfl); (case hg => rfl); (case hr => first | (go_simp; done) | (go_simp; rfl)); intro gb196 hg w4 hbox hb; have n0_ := Aside0.mk (below_step (by repeat (first | (with_reducible first | exact HB.out | apply below_alloc | apply pw_below_drewN | apply below_drew1) | exact HB.out)) hb); have n1_ := Aside0.mk (hbox); have n2_ := Aside0.mk ((by rw [hg]; exact (below_size (by repeat (first | (with_reducible first | exact HB.out | apply below_alloc | apply pw_below_drewN | apply below_drew1) | exact HB.out))) : w.heap.size ≤ gb196)); have n3_ := Aside0.mk ((by rw [hg]; exact (below_size (by repeat (first | (with_reducible first | exact HB.out | apply below_alloc | apply pw_below_drewN | apply below_drew1) | exact HB.out))) : w.heap.size ≤ gb196)); clear HB; have HB := n0_; have BK196 := n1_; have GW196 := n2_; have GE196 := n3_; clear n0_ n1_ n2_ n3_; clear hb hbox hg; have hcz5_0 : w4.cell? ⟨gb196, 0, none⟩ = some (.int .i64 0) := (blk_cell BK196.out 0).trans rfl; have hcz5_1 : w4.cell? ⟨gb196, 1, none⟩ = some (.string (⟨#[]⟩ : ByteArray)) := (blk_cell BK196.out 1).trans rfl; have hcz5_2 : w4.cell? ⟨gb196, 2, none⟩ = some (.int .i64 0) := (blk_cell BK196.out 2).trans rfl; have hcz5_3 : w4.cell? ⟨gb196, 3, none⟩ = some (.int .i64 0) := (blk_cell BK196.out 3).trans rfl; have hcz5_4 : w4.cell? ⟨gb196, 4, none⟩ = some (.int .i64 0) := (blk_cell BK196.out 4).trans rfl; have hcz5_5 : w4.cell? ⟨gb196, 5, none⟩ = some (.int .i64 0) := (blk_cell BK196.out 5).trans rfl; have hcz5_6 : w4.cell? ⟨gb196, 6, none⟩ = some (.int .i64 0) := (blk_cell BK196.out 6).trans rfl; have hcz5_7 : w4.cell? ⟨gb196, 7, none⟩ = some (.int .i64 0) := (blk_cell BK196.out 7).trans rfl; have hcz5_8 : w4.cell? ⟨gb196, 8, none⟩ = some (.slice none 0 0) := (blk_cell BK196.out 8).trans rfl; have hcz5_9 : w4.cell? ⟨gb196, 9, none⟩ = some (.int .i64 0) := (blk_cell BK196.out 9).trans rfl; have hcz5_10 : w4.cell? ⟨gb196, 10, none⟩ = some (.slice none 0 0) := (blk_cell BK196.out 10).trans rfl; have hfz5_0 := blk_frozen BK196.out 0; have hfz5_1 := blk_frozen BK196.out 1; have hfz5_2 := blk_frozen BK196.out 2; have hfz5_3 := blk_frozen BK196.out 3; have hfz5_4 := blk_frozen BK196.out 4; have hfz5_5 := blk_frozen BK196.out 5; have hfz5_6 := blk_frozen BK196.out 6; have hfz5_7 := blk_frozen BK196.out 7; have hfz5_8 := blk_frozen BK196.out 8; have hfz5_9 := blk_frozen BK196.out 9; have hfz5_10 := blk_frozen BK196.out 10))
  refine bodyPost_ret (results_cell_row rfl _ _ gb196 28 #[.int .i64 2, .string (⟨#[]⟩ : ByteArray), .int .i64 0, .int .i64 a0, .int .i64 a1, .int .i64 a2, .int .i64 0, .int .i64 0, .slice none 0 0, .int .i64 0, .slice none 0 0] (0, 0) _ rfl (by (with_reducible repeat (first | refine blk_drewN ?_ _ | refine blk_drew ?_ | refine blk_alloc ?_ _)); refine blk_put (cs := #[.int .i64 2, .string (⟨#[]⟩ : ByteArray), .int .i64 0, .int .i64 a0, .int .i64 a1, .int .i64 a2, .int .i64 0, .int .i64 0, .slice none 0 0, .int .i64 0, .slice none 0 0]) ?_ 10 _ rfl; (with_reducible repeat (first | refine blk_drewN ?_ _ | refine blk_drew ?_ | refine blk_alloc ?_ _)); refine blk_put (cs := #[.int .i64 2, .string (⟨#[]⟩ : ByteArray), .int .i64 0, .int .i64 a0, .int .i64 a1, .int .i64 a2, .int .i64 0, .int .i64 0, .slice none 0 0, .int .i64 0, .slice none 0 0]) ?_ 9 _ rfl; (with_reducible repeat (first | refine blk_drewN ?_ _ | refine blk_drew ?_ | refine blk_alloc ?_ _)); refine blk_put (cs := #[.int .i64 2, .string (⟨#[]⟩ : ByteArray), .int .i64 0, .int .i64 a0, .int .i64 a1, .int .i64 a2, .int .i64 0, .int .i64 0, .slice none 0 0, .int .i64 0, .slice none 0 0]) ?_ 8 _ rfl; (with_reducible repeat (first | refine blk_drewN ?_ _ | refine blk_drew ?_ | refine blk_alloc ?_ _)); refine blk_put (cs := #[.int .i64 2, .string (⟨#[]⟩ : ByteArray), .int .i64 0, .int .i64 a0, .int .i64 a1, .int .i64 a2, .int .i64 0, .int .i64 0, .slice none 0 0, .int .i64 0, .slice none 0 0]) ?_ 7 _ rfl; (with_reducible repeat (first | refine blk_drewN ?_ _ | refine blk_drew ?_ | refine blk_alloc ?_ _)); refine blk_put (cs := #[.int .i64 2, .string (⟨#[]⟩ : ByteArray), .int .i64 0, .int .i64 a0, .int .i64 a1, .int .i64 a2, .int .i64 0, .int .i64 0, .slice none 0 0, .int .i64 0, .slice none 0 0]) ?_ 6 _ rfl; (with_reducible repeat (first | refine blk_drewN ?_ _ | refine blk_drew ?_ | refine blk_alloc ?_ _)); refine blk_put (cs := #[.int .i64 2, .string (⟨#[]⟩ : ByteArray), .int .i64 0, .int .i64 a0, .int .i64 a1, .int .i64 0, .int .i64 0, .int .i64 0, .slice none 0 0, .int .i64 0, .slice none 0 0]) ?_ 5 _ rfl; (with_reducible repeat (first | refine blk_drewN ?_ _ | refine blk_drew ?_ | refine blk_alloc ?_ _)); refine blk_put (cs := #[.int .i64 2, .string (⟨#[]⟩ : ByteArray), .int .i64 0, .int .i64 a0, .int .i64 0, .int .i64 0, .int .i64 0, .int .i64 0, .slice none 0 0, .int .i64 0, .slice none 0 0]) ?_ 4 _ rfl; (with_reducible repeat (first | refine blk_drewN ?_ _ | refine blk_drew ?_ | refine blk_alloc ?_ _)); refine blk_put (cs := #[.int .i64 2, .string (⟨#[]⟩ : ByteArray), .int .i64 0, .int .i64 0, .int .i64 0, .int .i64 0, .int .i64 0, .int .i64 0, .slice none 0 0, .int .i64 0, .slice none 0 0]) ?_ 3 _ rfl; (with_reducible repeat (first | refine blk_drewN ?_ _ | refine blk_drew ?_ | refine blk_alloc ?_ _)); refine blk_put (cs := #[.int .i64 2, .string (⟨#[]⟩ : ByteArray), .int .i64 0, .int .i64 0, .int .i64 0, .int .i64 0, .int .i64 0, .int .i64 0, .slice none 0 0, .int .i64 0, .slice none 0 0]) ?_ 2 _ rfl; (with_reducible repeat (first | refine blk_drewN ?_ _ | refine blk_drew ?_ | refine blk_alloc ?_ _)); refine blk_put (cs := #[.int .i64 2, .string (⟨#[]⟩ : ByteArray), .int .i64 0, .int .i64 0, .int .i64 0, .int .i64 0, .int .i64 0, .int .i64 0, .slice none 0 0, .int .i64 0, .slice none 0 0]) ?_ 1 _ rfl; (with_reducible repeat (first | refine blk_drewN ?_ _ | refine blk_drew ?_ | refine blk_alloc ?_ _)); refine blk_put (cs := #[.int .i64 0, .string (⟨#[]⟩ : ByteArray), .int .i64 0, .int .i64 0, .int .i64 0, .int .i64 0, .int .i64 0, .int .i64 0, .slice none 0 0, .int .i64 0, .slice none 0 0]) ?_ 0 _ rfl; (with_reducible repeat (first | refine blk_drewN ?_ _ | refine blk_drew ?_ | refine blk_alloc ?_ _)); exact BK196.out) Try.underlying28 rfl (by kernel_rfl)) rfl ?_
  exact ⟨_, _, by first | rfl | (simp [errW_none, errW_some] <;> rfl) | (simp [*, errW_none, errW_some] <;> rfl), by first | exact Kd.R_nil _ _ _ _ _ | exact Kd.N_nil _ _ _ _ _ | exact Kd.V_nil _ _ _ _ _ | exact Kd.Q_nil _ _ _ _ _ | exact Kd.S_nil _ _ _ _ _, by first | exact Kd.R_nil _ _ _ _ _ | exact Kd.N_nil _ _ _ _ _ | exact Kd.V_nil _ _ _ _ _ | exact Kd.Q_nil _ _ _ _ _ | exact Kd.S_nil _ _ _ _ _, by repeat (first | (with_reducible first | exact HB.out | apply below_alloc | apply pw_below_drewN | apply below_drew1 | refine below_set ?_ GE196.out) | exact HB.out)⟩

-- NOT PRINTED: function 3 (vinculumlaw28_BoxMakes)

/-! ### vinculumref28_Count: function 30 -/
mutual
def vinculumref28_Count.l0 : Nat → Int → Int → Int → ByteArray → Int → Int → Int → Int → Int → Int → List (S28) → Int → List Int → Option (Int)
  | 0, _, _, _, _, _, _, _, _, _, _, _, _, _ => none
  | k + 1, x3, x4, x207000, x207001, x207002, x207003, x207004, x207005, x207006, x207007, x207008, x207009, x207010 => if x4 < (x207008.length : Int) then (if 0 ≤ x4 then ((vinculumref28_Count.f k ((rd_T28 x207008 x4).f0) ((rd_T28 x207008 x4).f1) ((rd_T28 x207008 x4).f2) ((rd_T28 x207008 x4).f3) ((rd_T28 x207008 x4).f4) ((rd_T28 x207008 x4).f5) ((rd_T28 x207008 x4).f6) ((rd_T28 x207008 x4).f7) ((rd_T28 x207008 x4).f8) ((rd_T28 x207008 x4).f9) ((rd_T28 x207008 x4).f10)).bind fun t208 => (vinculumref28_Count.l0 k (wrap64 (x3 + t208)) (wrap64 (x4 + 1)) x207000 x207001 x207002 x207003 x207004 x207005 x207006 x207007 x207008 x207009 x207010)) else (none)) else (some x3)
def vinculumref28_Count.f : Nat → Int → ByteArray → Int → Int → Int → Int → Int → Int → List (S28) → Int → List Int → Option (Int)
  | 0, _, _, _, _, _, _, _, _, _, _, _ => none
  | k + 1, a0_0, a0_1, a0_2, a0_3, a0_4, a0_5, a0_6, a0_7, l0_8, a0_9, l0_10 => vinculumref28_Count.l0 k 1 0 a0_0 a0_1 a0_2 a0_3 a0_4 a0_5 a0_6 a0_7 l0_8 a0_9 l0_10
end
theorem vinculumref28_Count.mono_l : ∀ k, (∀ y0 y1 y2 y3 y4 y5 y6 y7 y8 y9 y10, LeO (vinculumref28_Count.f k y0 y1 y2 y3 y4 y5 y6 y7 y8 y9 y10) (vinculumref28_Count.f (k + 1) y0 y1 y2 y3 y4 y5 y6 y7 y8 y9 y10)) ∧ (∀ y0 y1 y2 y3 y4 y5 y6 y7 y8 y9 y10 y11 y12, LeO (vinculumref28_Count.l0 k y0 y1 y2 y3 y4 y5 y6 y7 y8 y9 y10 y11 y12) (vinculumref28_Count.l0 (k + 1) y0 y1 y2 y3 y4 y5 y6 y7 y8 y9 y10 y11 y12))
  | 0 => ⟨fun _ _ _ _ _ _ _ _ _ _ _ r h => by simp [vinculumref28_Count.f] at h, fun _ _ _ _ _ _ _ _ _ _ _ _ _ r h => by simp [vinculumref28_Count.l0] at h⟩
  | k + 1 => by
    obtain ⟨ih0, ih1⟩ := vinculumref28_Count.mono_l k
    refine ⟨?_, ?_⟩
    · intro y0 y1 y2 y3 y4 y5 y6 y7 y8 y9 y10
      unfold vinculumref28_Count.f
      repeat' first
      | (with_reducible exact ih0 _ _ _ _ _ _ _ _ _ _ _)
      | (with_reducible exact ih1 _ _ _ _ _ _ _ _ _ _ _ _ _)
      | (with_reducible exact LeO.refl _)
      | (with_reducible exact LeO.none _)
      | (with_reducible refine LeO.ite ?_ ?_)
      | (with_reducible refine LeO.bind ?_ (fun _ => ?_))
      | exact ih0 _ _ _ _ _ _ _ _ _ _ _
      | exact ih1 _ _ _ _ _ _ _ _ _ _ _ _ _
      | exact LeO.none _
      | refine LeO.ite ?_ ?_
      | refine LeO.bind ?_ (fun _ => ?_)
    · intro y0 y1 y2 y3 y4 y5 y6 y7 y8 y9 y10 y11 y12
      unfold vinculumref28_Count.l0
      repeat' first
      | (with_reducible exact ih0 _ _ _ _ _ _ _ _ _ _ _)
      | (with_reducible exact ih1 _ _ _ _ _ _ _ _ _ _ _ _ _)
      | (with_reducible exact LeO.refl _)
      | (with_reducible exact LeO.none _)
      | (with_reducible refine LeO.ite ?_ ?_)
      | (with_reducible refine LeO.bind ?_ (fun _ => ?_))
      | exact ih0 _ _ _ _ _ _ _ _ _ _ _
      | exact ih1 _ _ _ _ _ _ _ _ _ _ _ _ _
      | exact LeO.none _
      | refine LeO.ite ?_ ?_
      | refine LeO.bind ?_ (fun _ => ?_)
theorem vinculumref28_Count.mono : ∀ a0 a1 a2 a3 a4 a5 a6 a7 a8 a9 a10 k, LeO (vinculumref28_Count.f k a0 a1 a2 a3 a4 a5 a6 a7 a8 a9 a10) (vinculumref28_Count.f (k + 1) a0 a1 a2 a3 a4 a5 a6 a7 a8 a9 a10) := by
  intro a0 a1 a2 a3 a4 a5 a6 a7 a8 a9 a10 k
  obtain ⟨ih0, ih1⟩ := vinculumref28_Count.mono_l k
  exact ih0 a0 a1 a2 a3 a4 a5 a6 a7 a8 a9 a10
set_option maxHeartbeats 8000000 in
set_option maxRecDepth 100000 in
theorem vinculumref28_Count.calls (k : Nat) : ∀ (a0_0 : Int) (a0_1 : ByteArray) (a0_2 : Int) (a0_3 : Int) (a0_4 : Int) (a0_5 : Int) (a0_6 : Int) (a0_7 : Int) (A0_8 : Option Addr) (c0_8 : Nat) (l0_8 : List (S28)) (a0_9 : Int) (A0_10 : Option Addr) (c0_10 : Nat) (l0_10 : List Int) (r : Int) (w : World) (hr0_8 : Kd.C k28 w A0_8 l0_8.length l0_8) (hc0_8 : l0_8.length ≤ c0_8) (hr0_10 : Kd.C (Kd.int .i64) w A0_10 l0_10.length l0_10) (hc0_10 : l0_10.length ≤ c0_10) (h : vinculumref28_Count.f k a0_0 a0_1 a0_2 a0_3 a0_4 a0_5 a0_6 a0_7 l0_8 a0_9 l0_10 = some r),
    Calls Try.prog 30 #[.agg #[.int .i64 a0_0, .string a0_1, .int .i64 a0_2, .int .i64 a0_3, .int .i64 a0_4, .int .i64 a0_5, .int .i64 a0_6, .int .i64 a0_7, .slice A0_8 l0_8.length c0_8, .int .i64 a0_9, .slice A0_10 l0_10.length c0_10]] w fun e w' => e = .returned (.int .i64 r) ∧ Below w.heap.size w w' := by
  induction k using Nat.strongRecOn with
  | _ k ih =>
  intro a0_0 a0_1 a0_2 a0_3 a0_4 a0_5 a0_6 a0_7 A0_8 c0_8 l0_8 a0_9 A0_10 c0_10 l0_10 r w hr0_8 hc0_8 hr0_10 hc0_10 h
  cases k with
  | zero => exact absurd h (by simp [vinculumref28_Count.f])
  | succ k =>
  simp only [vinculumref28_Count.f] at h
  have hu28 := Try.underlying28
  have HR0_8 := Aside0.mk hr0_8
  have HC0_8 := Aside0.mk hc0_8
  clear hr0_8 hc0_8
  have HR0_10 := Aside0.mk hr0_10
  have HC0_10 := Aside0.mk hc0_10
  clear hr0_10 hc0_10
  have HB := Aside0.mk (Below.refl w.heap.size w)
  have H : (vinculumref28_Count.l0 k 1 0 a0_0 a0_1 a0_2 a0_3 a0_4 a0_5 a0_6 a0_7 l0_8 a0_9 l0_10) = some r := h
  clear h
  have H' := Aside0.mk H
  clear H
  go_enter Try.func30, Try.ntmps30
  go_wp2_with (first | ((with_reducible refine gate_dst (N := 1) rfl ?_); refine box_event ?hg (N := 1) ?hd (cs := #[.int .i64 a0_0, .string a0_1, .int .i64 a0_2, .int .i64 a0_3, .int .i64 a0_4, .int .i64 a0_5, .int .i64 a0_6, .int .i64 a0_7, .slice A0_8 l0_8.length c0_8, .int .i64 a0_9, .slice A0_10 l0_10.length c0_10]) (t := 28) ?hr ?_; (case hd => rfl); (case hg => rfl); (case hr => first | (go_simp; done) | (go_simp; rfl)); intro gb206 hg w2 hbox hb; have n0_ := Aside0.mk (below_step (by repeat (first | (with_reducible first | exact HB.out | apply below_alloc | apply pw_below_drewN | apply below_drew1) | exact HB.out)) hb); have n1_ := Aside0.mk (hbox); have n2_ := Aside0.mk ((by rw [hg]; exact (below_size (by repeat (first | (with_reducible first | exact HB.out | apply below_alloc | apply pw_below_drewN | apply below_drew1) | exact HB.out))) : w.heap.size ≤ gb206)); have n3_ := Aside0.mk ((by rw [hg]; exact (below_size (by repeat (first | (with_reducible first | exact HB.out | apply below_alloc | apply pw_below_drewN | apply below_drew1) | exact HB.out))) : w.heap.size ≤ gb206)); clear HB; have HB := n0_; have BK206 := n1_; have GW206 := n2_; have GE206 := n3_; clear n0_ n1_ n2_ n3_; clear hb hbox hg))
  go_loopg [3, 4] k (fun kq v3 v4 w' => ∃ (x3_1 : Int) (x4_1 : Int), v3 = .int .i64 x3_1 ∧ v4 = .int .i64 x4_1 ∧ Aside0 (vinculumref28_Count.l0 kq x3_1 x4_1 a0_0 a0_1 a0_2 a0_3 a0_4 a0_5 a0_6 a0_7 l0_8 a0_9 l0_10 = some r) ∧ Aside0 (kq ≤ k) ∧ Aside0 (w'.heap[gb206]? = some (.cells #[.int .i64 a0_0, .string a0_1, .int .i64 a0_2, .int .i64 a0_3, .int .i64 a0_4, .int .i64 a0_5, .int .i64 a0_6, .int .i64 a0_7, (.slice A0_8 l0_8.length c0_8), .int .i64 a0_9, (.slice A0_10 l0_10.length c0_10)] 28 (0, 0))) ∧ Aside0 (Below w.heap.size w w'))
  case atStart => exact ⟨(1), (0), (by first | rfl | (simp; done) | (simp [*]; done)), (by first | rfl | (simp; done) | (simp [*]; done)), H', ⟨Nat.le_refl _⟩, ⟨by (with_reducible repeat (first | refine blk_drewN ?_ _ | refine blk_drew ?_ | refine blk_alloc ?_ _)); exact BK206.out⟩, ⟨by repeat (first | (with_reducible first | exact HB.out | apply below_alloc | apply pw_below_drewN | apply below_drew1 | refine below_set ?_ GE206.out) | exact HB.out)⟩⟩
  case round =>
    clear H'
    try clear p2
    obtain ⟨x3_1, x4_1, rfl, rfl, HA, HK1, BK206, HB⟩ := hrel
    cases gk with
    | zero => exact absurd HA.out (by simp [vinculumref28_Count.l0])
    | succ k1 =>
      have H := HA.out
      clear HA
      simp only [vinculumref28_Count.l0] at H
      by_cases c3 : x4_1 < (l0_8.length : Int)
      · rw [if_pos c3] at H
        have c3b0 : decide (x4_1 < (l0_8.length : Int)) = true := decide_eq_true c3
        clear c3
        by_cases c4 : 0 ≤ x4_1
        · rw [if_pos c4] at H
          have c4b0 : decide (0 ≤ x4_1) = true := decide_eq_true c4
          clear c4
          replace H := Option.bind_eq_some_iff.mp H
          obtain ⟨t208, A50, H⟩ := H
          replace H : (vinculumref28_Count.l0 k1 (wrap64 (x3_1 + t208)) (wrap64 (x4_1 + 1)) a0_0 a0_1 a0_2 a0_3 a0_4 a0_5 a0_6 a0_7 l0_8 a0_9 l0_10) = some r := H
          have A5 := Aside0.mk A50
          clear A50
          have H' := Aside0.mk H
          clear H
          have hcz6_0 : wr.cell? ⟨gb206, 0, none⟩ = some (.int .i64 a0_0) := (blk_cell BK206.out 0).trans rfl
          have hcz6_1 : wr.cell? ⟨gb206, 1, none⟩ = some (.string a0_1) := (blk_cell BK206.out 1).trans rfl
          have hcz6_2 : wr.cell? ⟨gb206, 2, none⟩ = some (.int .i64 a0_2) := (blk_cell BK206.out 2).trans rfl
          have hcz6_3 : wr.cell? ⟨gb206, 3, none⟩ = some (.int .i64 a0_3) := (blk_cell BK206.out 3).trans rfl
          have hcz6_4 : wr.cell? ⟨gb206, 4, none⟩ = some (.int .i64 a0_4) := (blk_cell BK206.out 4).trans rfl
          have hcz6_5 : wr.cell? ⟨gb206, 5, none⟩ = some (.int .i64 a0_5) := (blk_cell BK206.out 5).trans rfl
          have hcz6_6 : wr.cell? ⟨gb206, 6, none⟩ = some (.int .i64 a0_6) := (blk_cell BK206.out 6).trans rfl
          have hcz6_7 : wr.cell? ⟨gb206, 7, none⟩ = some (.int .i64 a0_7) := (blk_cell BK206.out 7).trans rfl
          have hcz6_8 : wr.cell? ⟨gb206, 8, none⟩ = some (.slice A0_8 l0_8.length c0_8) := (blk_cell BK206.out 8).trans rfl
          have hcz6_9 : wr.cell? ⟨gb206, 9, none⟩ = some (.int .i64 a0_9) := (blk_cell BK206.out 9).trans rfl
          have hcz6_10 : wr.cell? ⟨gb206, 10, none⟩ = some (.slice A0_10 l0_10.length c0_10) := (blk_cell BK206.out 10).trans rfl
          have hfz6_0 := blk_frozen BK206.out 0
          have hfz6_1 := blk_frozen BK206.out 1
          have hfz6_2 := blk_frozen BK206.out 2
          have hfz6_3 := blk_frozen BK206.out 3
          have hfz6_4 := blk_frozen BK206.out 4
          have hfz6_5 := blk_frozen BK206.out 5
          have hfz6_6 := blk_frozen BK206.out 6
          have hfz6_7 := blk_frozen BK206.out 7
          have hfz6_8 := blk_frozen BK206.out 8
          have hfz6_9 := blk_frozen BK206.out 9
          have hfz6_10 := blk_frozen BK206.out 10
          have p207 : 0 ≤ (x4_1 : Int) := of_decide_eq_true (by first | (with_reducible assumption) | assumption)
          have q207 : x4_1 < (l0_8.length : Int) := of_decide_eq_true (by first | (with_reducible assumption) | assumption)
          obtain ⟨ad207, A207_8, c207_8, A207_10, c207_10, e207, hx207_0, hx207_1, hx207_2, hx207_3, hx207_4, hx207_5, hx207_6, hx207_7, hx207_8, hx207_9, hx207_10, hl207_8, hi207_8, hl207_10, hi207_10⟩ := at_T28 HR0_8.out x4_1 p207 q207
          cases e207
          replace hx207_0 := (HB.out.cell (World.block_lt_of_cell? w _ hx207_0)).trans hx207_0
          replace hx207_1 := (HB.out.cell (World.block_lt_of_cell? w _ hx207_1)).trans hx207_1
          replace hx207_2 := (HB.out.cell (World.block_lt_of_cell? w _ hx207_2)).trans hx207_2
          replace hx207_3 := (HB.out.cell (World.block_lt_of_cell? w _ hx207_3)).trans hx207_3
          replace hx207_4 := (HB.out.cell (World.block_lt_of_cell? w _ hx207_4)).trans hx207_4
          replace hx207_5 := (HB.out.cell (World.block_lt_of_cell? w _ hx207_5)).trans hx207_5
          replace hx207_6 := (HB.out.cell (World.block_lt_of_cell? w _ hx207_6)).trans hx207_6
          replace hx207_7 := (HB.out.cell (World.block_lt_of_cell? w _ hx207_7)).trans hx207_7
          replace hx207_8 := (HB.out.cell (World.block_lt_of_cell? w _ hx207_8)).trans hx207_8
          replace hx207_9 := (HB.out.cell (World.block_lt_of_cell? w _ hx207_9)).trans hx207_9
          replace hx207_10 := (HB.out.cell (World.block_lt_of_cell? w _ hx207_10)).trans hx207_10
          have HR207_8 := Aside0.mk hi207_8
          have HC207_8 := Aside0.mk hl207_8
          clear hi207_8 hl207_8
          have HR207_10 := Aside0.mk hi207_10
          have HC207_10 := Aside0.mk hl207_10
          clear hi207_10 hl207_10
          replace p207 := eq_true p207
          replace q207 := eq_true q207
          go_wp2_with (first | ((with_reducible refine gate_callee (f := 30) rfl ?_); refine goesL_ (some 18) rfl rfl Try.func30 (by kernel_rfl) rfl #[.agg #[.int .i64 ((rd_T28 l0_8 x4_1).f0), .string ((rd_T28 l0_8 x4_1).f1), .int .i64 ((rd_T28 l0_8 x4_1).f2), .int .i64 ((rd_T28 l0_8 x4_1).f3), .int .i64 ((rd_T28 l0_8 x4_1).f4), .int .i64 ((rd_T28 l0_8 x4_1).f5), .int .i64 ((rd_T28 l0_8 x4_1).f6), .int .i64 ((rd_T28 l0_8 x4_1).f7), .slice A207_8 ((rd_T28 l0_8 x4_1).f8).length c207_8, .int .i64 ((rd_T28 l0_8 x4_1).f9), .slice A207_10 ((rd_T28 l0_8 x4_1).f10).length c207_10]] rfl (by (try simp only [List.map_toArray, List.map_cons, List.map_nil]); first | done | rfl | (simp only [List.length_drop, List.length_take]; rfl)) ?_; (with_reducible refine (ih k1 (by have := HK1.out; omega) ((rd_T28 l0_8 x4_1).f0) ((rd_T28 l0_8 x4_1).f1) ((rd_T28 l0_8 x4_1).f2) ((rd_T28 l0_8 x4_1).f3) ((rd_T28 l0_8 x4_1).f4) ((rd_T28 l0_8 x4_1).f5) ((rd_T28 l0_8 x4_1).f6) ((rd_T28 l0_8 x4_1).f7) _ _ ((rd_T28 l0_8 x4_1).f8) ((rd_T28 l0_8 x4_1).f9) _ _ ((rd_T28 l0_8 x4_1).f10) t208 _ ?side1 ?side2 ?side3 ?side4 A5.out).mono ?_); (case side1 => repeat (first | exact (Kd.C_below HR207_8.out HB.out) | (with_reducible refine Kd.C_alloc ?_ _) | (with_reducible refine Kd.C_drewN ?_ _) | (with_reducible refine Kd.C_drew ?_))); (case side2 => exact HC207_8.out); (case side3 => repeat (first | exact (Kd.C_below HR207_10.out HB.out) | (with_reducible refine Kd.C_alloc ?_ _) | (with_reducible refine Kd.C_drewN ?_ _) | (with_reducible refine Kd.C_drew ?_))); (case side4 => exact HC207_10.out); rintro e w7 ⟨rfl, hb⟩; refine ⟨_, rfl, ?_⟩; have n0_ := Aside0.mk (blk_below (g := gb206) (o := .cells #[.int .i64 a0_0, .string a0_1, .int .i64 a0_2, .int .i64 a0_3, .int .i64 a0_4, .int .i64 a0_5, .int .i64 a0_6, .int .i64 a0_7, .slice (some ad207) l0_8.length c0_8, .int .i64 a0_9, .slice A0_10 l0_10.length c0_10] 28 (0, 0)) (by (with_reducible repeat (first | refine blk_drewN ?_ _ | refine blk_drew ?_ | refine blk_alloc ?_ _)); exact BK206.out) hb); have n1_ := Aside0.mk (below_step (by repeat (first | (with_reducible first | exact HB.out | apply below_alloc | apply pw_below_drewN | apply below_drew1 | refine below_set ?_ GE206.out) | exact HB.out)) hb); clear BK206; clear HB; have BK206 := n0_; have HB := n1_; clear n0_ n1_; (try clear hb); (try clear hb2); (try clear hk); (try clear hi)))
          go_roundg k1
          case measure => have := HK1.out; omega
          case rel => exact ⟨(wrap64 (x3_1 + t208)), (wrap64 (x4_1 + 1)), (by first | rfl | (simp; done) | (simp [*]; done)), (by first | rfl | (simp; done) | (simp [*]; done)), H', ⟨by have := HK1.out; omega⟩, ⟨by (with_reducible repeat (first | refine blk_drewN ?_ _ | refine blk_drew ?_ | refine blk_alloc ?_ _)); exact BK206.out⟩, ⟨by repeat (first | (with_reducible first | exact HB.out | apply below_alloc | apply pw_below_drewN | apply below_drew1 | refine below_set ?_ GE206.out) | exact HB.out)⟩⟩
        · rw [if_neg c4] at H
          exact absurd H (by simp)
      · rw [if_neg c3] at H
        have c3b0 : decide (x4_1 < (l0_8.length : Int)) = false := decide_eq_false c3
        clear c3
        obtain rfl := Option.some.inj H
        have hcz8_0 : wr.cell? ⟨gb206, 0, none⟩ = some (.int .i64 a0_0) := (blk_cell BK206.out 0).trans rfl
        have hcz8_1 : wr.cell? ⟨gb206, 1, none⟩ = some (.string a0_1) := (blk_cell BK206.out 1).trans rfl
        have hcz8_2 : wr.cell? ⟨gb206, 2, none⟩ = some (.int .i64 a0_2) := (blk_cell BK206.out 2).trans rfl
        have hcz8_3 : wr.cell? ⟨gb206, 3, none⟩ = some (.int .i64 a0_3) := (blk_cell BK206.out 3).trans rfl
        have hcz8_4 : wr.cell? ⟨gb206, 4, none⟩ = some (.int .i64 a0_4) := (blk_cell BK206.out 4).trans rfl
        have hcz8_5 : wr.cell? ⟨gb206, 5, none⟩ = some (.int .i64 a0_5) := (blk_cell BK206.out 5).trans rfl
        have hcz8_6 : wr.cell? ⟨gb206, 6, none⟩ = some (.int .i64 a0_6) := (blk_cell BK206.out 6).trans rfl
        have hcz8_7 : wr.cell? ⟨gb206, 7, none⟩ = some (.int .i64 a0_7) := (blk_cell BK206.out 7).trans rfl
        have hcz8_8 : wr.cell? ⟨gb206, 8, none⟩ = some (.slice A0_8 l0_8.length c0_8) := (blk_cell BK206.out 8).trans rfl
        have hcz8_9 : wr.cell? ⟨gb206, 9, none⟩ = some (.int .i64 a0_9) := (blk_cell BK206.out 9).trans rfl
        have hcz8_10 : wr.cell? ⟨gb206, 10, none⟩ = some (.slice A0_10 l0_10.length c0_10) := (blk_cell BK206.out 10).trans rfl
        have hfz8_0 := blk_frozen BK206.out 0
        have hfz8_1 := blk_frozen BK206.out 1
        have hfz8_2 := blk_frozen BK206.out 2
        have hfz8_3 := blk_frozen BK206.out 3
        have hfz8_4 := blk_frozen BK206.out 4
        have hfz8_5 := blk_frozen BK206.out 5
        have hfz8_6 := blk_frozen BK206.out 6
        have hfz8_7 := blk_frozen BK206.out 7
        have hfz8_8 := blk_frozen BK206.out 8
        have hfz8_9 := blk_frozen BK206.out 9
        have hfz8_10 := blk_frozen BK206.out 10
        go_wp2
        go_ret
        exact ⟨by first | rfl | (simp [errW_none, errW_some] <;> rfl) | (simp [*, errW_none, errW_some] <;> rfl), by repeat (first | (with_reducible first | exact HB.out | apply below_alloc | apply pw_below_drewN | apply below_drew1 | refine below_set ?_ GE206.out) | exact HB.out)⟩

/-! ### vinculumref05_Name: function 66 -/
def vinculumref05_Name.l0 : Nat → ByteArray → Int → Option (Bool)
  | 0, _, _ => none
  | k + 1, x0, x3 => if x3 < (x0.size : Int) then (if 0 ≤ x3 then (if (bt x0 x3) < 32 then (some false) else (if (bt x0 x3) > 126 then (some false) else (vinculumref05_Name.l0 k x0 (wrap64 (x3 + 1))))) else (none)) else (if (x0.size : Int) ≥ 1 then (some (decide ((x0.size : Int) ≤ 16))) else (some false))
def vinculumref05_Name.f (k : Nat) (a0 : ByteArray) : Option (Bool) := vinculumref05_Name.l0 k a0 0
theorem vinculumref05_Name.mono_l : ∀ k, (∀ y0 y1, LeO (vinculumref05_Name.l0 k y0 y1) (vinculumref05_Name.l0 (k + 1) y0 y1))
  | 0 => fun _ _ r h => by simp [vinculumref05_Name.l0] at h
  | k + 1 => by
    have ih0 := vinculumref05_Name.mono_l k
    · intro y0 y1
      unfold vinculumref05_Name.l0
      repeat' first
      | (with_reducible exact ih0 _ _)
      | (with_reducible exact LeO.refl _)
      | (with_reducible exact LeO.none _)
      | (with_reducible refine LeO.ite ?_ ?_)
      | (with_reducible refine LeO.bind ?_ (fun _ => ?_))
      | exact ih0 _ _
      | exact LeO.none _
      | refine LeO.ite ?_ ?_
      | refine LeO.bind ?_ (fun _ => ?_)
theorem vinculumref05_Name.mono : ∀ a0 k, LeO (vinculumref05_Name.f k a0) (vinculumref05_Name.f (k + 1) a0) := by
  intro a0 k
  have ih0 := vinculumref05_Name.mono_l k
  unfold vinculumref05_Name.f
  repeat' first
      | (with_reducible exact ih0 _ _)
      | (with_reducible exact LeO.refl _)
      | (with_reducible exact LeO.none _)
      | (with_reducible refine LeO.ite ?_ ?_)
      | (with_reducible refine LeO.bind ?_ (fun _ => ?_))
      | exact ih0 _ _
      | exact LeO.none _
      | refine LeO.ite ?_ ?_
      | refine LeO.bind ?_ (fun _ => ?_)
set_option maxHeartbeats 8000000 in
set_option maxRecDepth 100000 in
theorem vinculumref05_Name.calls (k : Nat) (a0 : ByteArray) (r : Bool) (w : World) (h : vinculumref05_Name.f k a0 = some r) :
    Calls Try.prog 66 #[.string a0] w fun e w' => e = .returned (.bool r) ∧ Drawn0 w w' := by
  have H : (vinculumref05_Name.l0 k a0 0) = some r := h
  clear h
  have H' := Aside0.mk H
  clear H
  go_enter Try.func66, Try.ntmps66
  go_wp2
  go_loopg [3] k (fun kq v3 w' => ∃ (x3_1 : Int), v3 = .int .i64 x3_1 ∧ Aside0 (vinculumref05_Name.l0 kq a0 x3_1 = some r) ∧ Aside0 (kq ≤ k) ∧ Drawn0 w w')
  case atStart => exact ⟨(0), (by first | rfl | (simp; done) | (simp [*]; done)), H', ⟨Nat.le_refl _⟩, by repeat (first | exact Drawn0.refl _ | apply Drawn0.step)⟩
  case round =>
    clear H'
    obtain ⟨x3_1, rfl, HA, HK1, ⟨m1, rfl⟩⟩ := hrel
    cases gk with
    | zero => exact absurd HA.out (by simp [vinculumref05_Name.l0])
    | succ k1 =>
      have H := HA.out
      clear HA
      simp only [vinculumref05_Name.l0] at H
      by_cases c2 : x3_1 < (a0.size : Int)
      · rw [if_pos c2] at H
        have c2b0 : decide (x3_1 < (a0.size : Int)) = true := decide_eq_true c2
        clear c2
        by_cases c3 : 0 ≤ x3_1
        · rw [if_pos c3] at H
          have c3b0 : decide (0 ≤ x3_1) = true := decide_eq_true c3
          clear c3
          by_cases c5 : (bt a0 x3_1) < 32
          · rw [if_pos c5] at H
            have c5b0 : decide ((bt a0 x3_1) < 32) = true := decide_eq_true c5
            clear c5
            obtain rfl := Option.some.inj H
            have p4 : 0 ≤ (x3_1 : Int) := of_decide_eq_true (by first | (with_reducible assumption) | assumption)
            have q4 : x3_1 < (a0.size : Int) := of_decide_eq_true (by first | (with_reducible assumption) | assumption)
            have hx4 := bt_at a0 x3_1
            replace p4 := eq_true p4
            replace q4 := eq_true q4
            go_wp2
            go_ret
            exact ⟨by first | rfl | (simp; done) | (simp [*]; done), by repeat (first | exact Drawn0.refl _ | apply Drawn0.step)⟩
          · rw [if_neg c5] at H
            have c5b0 : decide ((bt a0 x3_1) < 32) = false := decide_eq_false c5
            clear c5
            by_cases c7 : (bt a0 x3_1) > 126
            · rw [if_pos c7] at H
              have c7b0 : decide (126 < (bt a0 x3_1)) = true := decide_eq_true c7
              clear c7
              obtain rfl := Option.some.inj H
              have p4 : 0 ≤ (x3_1 : Int) := of_decide_eq_true (by first | (with_reducible assumption) | assumption)
              have q4 : x3_1 < (a0.size : Int) := of_decide_eq_true (by first | (with_reducible assumption) | assumption)
              have hx4 := bt_at a0 x3_1
              replace p4 := eq_true p4
              replace q4 := eq_true q4
              have p6 : 0 ≤ (x3_1 : Int) := of_decide_eq_true (by first | (with_reducible assumption) | assumption)
              have q6 : x3_1 < (a0.size : Int) := of_decide_eq_true (by first | (with_reducible assumption) | assumption)
              have hx6 := bt_at a0 x3_1
              replace p6 := eq_true p6
              replace q6 := eq_true q6
              go_wp2
              go_ret
              exact ⟨by first | rfl | (simp; done) | (simp [*]; done), by repeat (first | exact Drawn0.refl _ | apply Drawn0.step)⟩
            · rw [if_neg c7] at H
              have c7b0 : decide (126 < (bt a0 x3_1)) = false := decide_eq_false c7
              clear c7
              have H' := Aside0.mk H
              clear H
              have p4 : 0 ≤ (x3_1 : Int) := of_decide_eq_true (by first | (with_reducible assumption) | assumption)
              have q4 : x3_1 < (a0.size : Int) := of_decide_eq_true (by first | (with_reducible assumption) | assumption)
              have hx4 := bt_at a0 x3_1
              replace p4 := eq_true p4
              replace q4 := eq_true q4
              have p6 : 0 ≤ (x3_1 : Int) := of_decide_eq_true (by first | (with_reducible assumption) | assumption)
              have q6 : x3_1 < (a0.size : Int) := of_decide_eq_true (by first | (with_reducible assumption) | assumption)
              have hx6 := bt_at a0 x3_1
              replace p6 := eq_true p6
              replace q6 := eq_true q6
              go_wp2
              go_roundg k1
              case measure => have := HK1.out; omega
              case rel => exact ⟨(wrap64 (x3_1 + 1)), (by first | rfl | (simp; done) | (simp [*]; done)), H', ⟨by have := HK1.out; omega⟩, by repeat (first | exact Drawn0.refl _ | apply Drawn0.step)⟩
        · rw [if_neg c3] at H
          exact absurd H (by simp)
      · rw [if_neg c2] at H
        have c2b0 : decide (x3_1 < (a0.size : Int)) = false := decide_eq_false c2
        clear c2
        by_cases c8 : (a0.size : Int) ≥ 1
        · rw [if_pos c8] at H
          have c8b0 : decide (1 ≤ (a0.size : Int)) = true := decide_eq_true c8
          have c8b1 : decide (1 ≤ a0.size) = true := decide_eq_true (by omega)
          clear c8
          obtain rfl := Option.some.inj H
          go_wp2
          go_ret
          exact ⟨by first | rfl | (simp; done) | (simp [*]; done), by repeat (first | exact Drawn0.refl _ | apply Drawn0.step)⟩
        · rw [if_neg c8] at H
          have c8b0 : decide (1 ≤ (a0.size : Int)) = false := decide_eq_false c8
          have c8b1 : decide (1 ≤ a0.size) = false := decide_eq_false (by omega)
          clear c8
          obtain rfl := Option.some.inj H
          go_wp2
          go_ret
          exact ⟨by first | rfl | (simp; done) | (simp [*]; done), by repeat (first | exact Drawn0.refl _ | apply Drawn0.step)⟩

/-! ### vinculumref28_source: function 67 -/
def vinculumref28_source.l0 : Nat → Int → Int → ByteArray → Int → Int → Int → Int → Int → Int → List (S28) → Int → List Int → Option (Bool)
  | 0, _, _, _, _, _, _, _, _, _, _, _, _ => none
  | k + 1, x3, x210000, x210001, x210002, x210003, x210004, x210005, x210006, x210007, x210008, x210009, x210010 => if x3 < (x210010.length : Int) then (if 0 ≤ x3 then (if (rd x210010 x3) < 0 then (some false) else (vinculumref28_source.l0 k (wrap64 (x3 + 1)) x210000 x210001 x210002 x210003 x210004 x210005 x210006 x210007 x210008 x210009 x210010)) else (none)) else (if x210009 = 0 then (some ((x210010.length : Int) == 0)) else (if x210009 = 1 then (if ((x210010.length : Int) % 2) = 0 then (some (decide ((x210010.length : Int) ≤ 48))) else (some false)) else (if x210009 = 2 then (if ((x210010.length : Int) % 2) = 1 then (some (decide ((x210010.length : Int) ≤ 49))) else (some false)) else (some false))))
def vinculumref28_source.f (k : Nat) (a0_0 : Int) (a0_1 : ByteArray) (a0_2 : Int) (a0_3 : Int) (a0_4 : Int) (a0_5 : Int) (a0_6 : Int) (a0_7 : Int) (l0_8 : List (S28)) (a0_9 : Int) (l0_10 : List Int) : Option (Bool) := vinculumref28_source.l0 k 0 a0_0 a0_1 a0_2 a0_3 a0_4 a0_5 a0_6 a0_7 l0_8 a0_9 l0_10
theorem vinculumref28_source.mono_l : ∀ k, (∀ y0 y1 y2 y3 y4 y5 y6 y7 y8 y9 y10 y11, LeO (vinculumref28_source.l0 k y0 y1 y2 y3 y4 y5 y6 y7 y8 y9 y10 y11) (vinculumref28_source.l0 (k + 1) y0 y1 y2 y3 y4 y5 y6 y7 y8 y9 y10 y11))
  | 0 => fun _ _ _ _ _ _ _ _ _ _ _ _ r h => by simp [vinculumref28_source.l0] at h
  | k + 1 => by
    have ih0 := vinculumref28_source.mono_l k
    · intro y0 y1 y2 y3 y4 y5 y6 y7 y8 y9 y10 y11
      unfold vinculumref28_source.l0
      repeat' first
      | (with_reducible exact ih0 _ _ _ _ _ _ _ _ _ _ _ _)
      | (with_reducible exact LeO.refl _)
      | (with_reducible exact LeO.none _)
      | (with_reducible refine LeO.ite ?_ ?_)
      | (with_reducible refine LeO.bind ?_ (fun _ => ?_))
      | exact ih0 _ _ _ _ _ _ _ _ _ _ _ _
      | exact LeO.none _
      | refine LeO.ite ?_ ?_
      | refine LeO.bind ?_ (fun _ => ?_)
theorem vinculumref28_source.mono : ∀ a0 a1 a2 a3 a4 a5 a6 a7 a8 a9 a10 k, LeO (vinculumref28_source.f k a0 a1 a2 a3 a4 a5 a6 a7 a8 a9 a10) (vinculumref28_source.f (k + 1) a0 a1 a2 a3 a4 a5 a6 a7 a8 a9 a10) := by
  intro a0 a1 a2 a3 a4 a5 a6 a7 a8 a9 a10 k
  have ih0 := vinculumref28_source.mono_l k
  unfold vinculumref28_source.f
  repeat' first
      | (with_reducible exact ih0 _ _ _ _ _ _ _ _ _ _ _ _)
      | (with_reducible exact LeO.refl _)
      | (with_reducible exact LeO.none _)
      | (with_reducible refine LeO.ite ?_ ?_)
      | (with_reducible refine LeO.bind ?_ (fun _ => ?_))
      | exact ih0 _ _ _ _ _ _ _ _ _ _ _ _
      | exact LeO.none _
      | refine LeO.ite ?_ ?_
      | refine LeO.bind ?_ (fun _ => ?_)
set_option maxHeartbeats 8000000 in
set_option maxRecDepth 100000 in
theorem vinculumref28_source.calls (k : Nat) (a0_0 : Int) (a0_1 : ByteArray) (a0_2 : Int) (a0_3 : Int) (a0_4 : Int) (a0_5 : Int) (a0_6 : Int) (a0_7 : Int) (A0_8 : Option Addr) (c0_8 : Nat) (l0_8 : List (S28)) (a0_9 : Int) (A0_10 : Option Addr) (c0_10 : Nat) (l0_10 : List Int) (r : Bool) (w : World) (hr0_8 : Kd.C k28 w A0_8 l0_8.length l0_8) (hc0_8 : l0_8.length ≤ c0_8) (hr0_10 : Kd.C (Kd.int .i64) w A0_10 l0_10.length l0_10) (hc0_10 : l0_10.length ≤ c0_10) (h : vinculumref28_source.f k a0_0 a0_1 a0_2 a0_3 a0_4 a0_5 a0_6 a0_7 l0_8 a0_9 l0_10 = some r) :
    Calls Try.prog 67 #[.agg #[.int .i64 a0_0, .string a0_1, .int .i64 a0_2, .int .i64 a0_3, .int .i64 a0_4, .int .i64 a0_5, .int .i64 a0_6, .int .i64 a0_7, .slice A0_8 l0_8.length c0_8, .int .i64 a0_9, .slice A0_10 l0_10.length c0_10]] w fun e w' => e = .returned (.bool r) ∧ Below w.heap.size w w' := by
  have hu28 := Try.underlying28
  have HR0_8 := Aside0.mk hr0_8
  have HC0_8 := Aside0.mk hc0_8
  clear hr0_8 hc0_8
  have HR0_10 := Aside0.mk hr0_10
  have HC0_10 := Aside0.mk hc0_10
  clear hr0_10 hc0_10
  have HB := Aside0.mk (Below.refl w.heap.size w)
  have H : (vinculumref28_source.l0 k 0 a0_0 a0_1 a0_2 a0_3 a0_4 a0_5 a0_6 a0_7 l0_8 a0_9 l0_10) = some r := h
  clear h
  have H' := Aside0.mk H
  clear H
  go_enter Try.func67, Try.ntmps67
  go_wp2_with (first | ((with_reducible refine gate_dst (N := 1) rfl ?_); (try (refine gate_guard (by rfl) ?_; dsimp only)); refine box_event ?hg (N := 1) ?hd (cs := #[.int .i64 a0_0, .string a0_1, .int .i64 a0_2, .int .i64 a0_3, .int .i64 a0_4, .int .i64 a0_5, .int .i64 a0_6, .int .i64 a0_7, .slice A0_8 l0_8.length c0_8, .int .i64 a0_9, .slice A0_10 l0_10.length c0_10]) (t := 28) ?hr ?_; (case hd => rfl); (case hg => rfl); (case hr => first | (go_simp; done) | (go_simp; rfl)); intro gb209 hg w2 hbox hb; have n0_ := Aside0.mk (below_step (by repeat (first | (with_reducible first | exact HB.out | apply below_alloc | apply pw_below_drewN | apply below_drew1) | exact HB.out)) hb); have n1_ := Aside0.mk (hbox); have n2_ := Aside0.mk ((by rw [hg]; exact (below_size (by repeat (first | (with_reducible first | exact HB.out | apply below_alloc | apply pw_below_drewN | apply below_drew1) | exact HB.out))) : w.heap.size ≤ gb209)); have n3_ := Aside0.mk ((by rw [hg]; exact (below_size (by repeat (first | (with_reducible first | exact HB.out | apply below_alloc | apply pw_below_drewN | apply below_drew1) | exact HB.out))) : w.heap.size ≤ gb209)); clear HB; have HB := n0_; have BK209 := n1_; have GW209 := n2_; have GE209 := n3_; clear n0_ n1_ n2_ n3_; clear hb hbox hg))
  go_loopg [3] k (fun kq v3 w' => ∃ (x3_1 : Int), v3 = .int .i64 x3_1 ∧ Aside0 (vinculumref28_source.l0 kq x3_1 a0_0 a0_1 a0_2 a0_3 a0_4 a0_5 a0_6 a0_7 l0_8 a0_9 l0_10 = some r) ∧ Aside0 (kq ≤ k) ∧ Aside0 (w'.heap[gb209]? = some (.cells #[.int .i64 a0_0, .string a0_1, .int .i64 a0_2, .int .i64 a0_3, .int .i64 a0_4, .int .i64 a0_5, .int .i64 a0_6, .int .i64 a0_7, (.slice A0_8 l0_8.length c0_8), .int .i64 a0_9, (.slice A0_10 l0_10.length c0_10)] 28 (0, 0))) ∧ Aside0 (Below w.heap.size w w'))
  case atStart => exact ⟨(0), (by first | rfl | (simp; done) | (simp [*]; done)), H', ⟨Nat.le_refl _⟩, ⟨by (with_reducible repeat (first | refine blk_drewN ?_ _ | refine blk_drew ?_ | refine blk_alloc ?_ _)); exact BK209.out⟩, ⟨by repeat (first | (with_reducible first | exact HB.out | apply below_alloc | apply pw_below_drewN | apply below_drew1 | refine below_set ?_ GE209.out) | exact HB.out)⟩⟩
  case round =>
    clear H'
    try clear p2
    obtain ⟨x3_1, rfl, HA, HK1, BK209, HB⟩ := hrel
    cases gk with
    | zero => exact absurd HA.out (by simp [vinculumref28_source.l0])
    | succ k1 =>
      have H := HA.out
      clear HA
      simp only [vinculumref28_source.l0] at H
      by_cases c3 : x3_1 < (l0_10.length : Int)
      · rw [if_pos c3] at H
        have c3b0 : decide (x3_1 < (l0_10.length : Int)) = true := decide_eq_true c3
        clear c3
        by_cases c4 : 0 ≤ x3_1
        · rw [if_pos c4] at H
          have c4b0 : decide (0 ≤ x3_1) = true := decide_eq_true c4
          clear c4
          by_cases c5 : (rd l0_10 x3_1) < 0
          · rw [if_pos c5] at H
            have c5b0 : decide ((rd l0_10 x3_1) < 0) = true := decide_eq_true c5
            clear c5
            obtain rfl := Option.some.inj H
            have hcz6_0 : wr.cell? ⟨gb209, 0, none⟩ = some (.int .i64 a0_0) := (blk_cell BK209.out 0).trans rfl
            have hcz6_1 : wr.cell? ⟨gb209, 1, none⟩ = some (.string a0_1) := (blk_cell BK209.out 1).trans rfl
            have hcz6_2 : wr.cell? ⟨gb209, 2, none⟩ = some (.int .i64 a0_2) := (blk_cell BK209.out 2).trans rfl
            have hcz6_3 : wr.cell? ⟨gb209, 3, none⟩ = some (.int .i64 a0_3) := (blk_cell BK209.out 3).trans rfl
            have hcz6_4 : wr.cell? ⟨gb209, 4, none⟩ = some (.int .i64 a0_4) := (blk_cell BK209.out 4).trans rfl
            have hcz6_5 : wr.cell? ⟨gb209, 5, none⟩ = some (.int .i64 a0_5) := (blk_cell BK209.out 5).trans rfl
            have hcz6_6 : wr.cell? ⟨gb209, 6, none⟩ = some (.int .i64 a0_6) := (blk_cell BK209.out 6).trans rfl
            have hcz6_7 : wr.cell? ⟨gb209, 7, none⟩ = some (.int .i64 a0_7) := (blk_cell BK209.out 7).trans rfl
            have hcz6_8 : wr.cell? ⟨gb209, 8, none⟩ = some (.slice A0_8 l0_8.length c0_8) := (blk_cell BK209.out 8).trans rfl
            have hcz6_9 : wr.cell? ⟨gb209, 9, none⟩ = some (.int .i64 a0_9) := (blk_cell BK209.out 9).trans rfl
            have hcz6_10 : wr.cell? ⟨gb209, 10, none⟩ = some (.slice A0_10 l0_10.length c0_10) := (blk_cell BK209.out 10).trans rfl
            have hfz6_0 := blk_frozen BK209.out 0
            have hfz6_1 := blk_frozen BK209.out 1
            have hfz6_2 := blk_frozen BK209.out 2
            have hfz6_3 := blk_frozen BK209.out 3
            have hfz6_4 := blk_frozen BK209.out 4
            have hfz6_5 := blk_frozen BK209.out 5
            have hfz6_6 := blk_frozen BK209.out 6
            have hfz6_7 := blk_frozen BK209.out 7
            have hfz6_8 := blk_frozen BK209.out 8
            have hfz6_9 := blk_frozen BK209.out 9
            have hfz6_10 := blk_frozen BK209.out 10
            have p210 : 0 ≤ (x3_1 : Int) := of_decide_eq_true (by first | (with_reducible assumption) | assumption)
            have q210 : x3_1 < (l0_10.length : Int) := of_decide_eq_true (by first | (with_reducible assumption) | assumption)
            obtain ⟨ad210, e210, hx210_0⟩ := Kd.at_int HR0_10.out x3_1 p210 q210
            cases e210
            replace hx210_0 := (HB.out.cell (World.block_lt_of_cell? w _ hx210_0)).trans hx210_0
            replace p210 := eq_true p210
            replace q210 := eq_true q210
            go_wp2
            go_ret
            exact ⟨by first | rfl | (simp [errW_none, errW_some] <;> rfl) | (simp [*, errW_none, errW_some] <;> rfl), by repeat (first | (with_reducible first | exact HB.out | apply below_alloc | apply pw_below_drewN | apply below_drew1 | refine below_set ?_ GE209.out) | exact HB.out)⟩
          · rw [if_neg c5] at H
            have c5b0 : decide ((rd l0_10 x3_1) < 0) = false := decide_eq_false c5
            clear c5
            have H' := Aside0.mk H
            clear H
            have hcz7_0 : wr.cell? ⟨gb209, 0, none⟩ = some (.int .i64 a0_0) := (blk_cell BK209.out 0).trans rfl
            have hcz7_1 : wr.cell? ⟨gb209, 1, none⟩ = some (.string a0_1) := (blk_cell BK209.out 1).trans rfl
            have hcz7_2 : wr.cell? ⟨gb209, 2, none⟩ = some (.int .i64 a0_2) := (blk_cell BK209.out 2).trans rfl
            have hcz7_3 : wr.cell? ⟨gb209, 3, none⟩ = some (.int .i64 a0_3) := (blk_cell BK209.out 3).trans rfl
            have hcz7_4 : wr.cell? ⟨gb209, 4, none⟩ = some (.int .i64 a0_4) := (blk_cell BK209.out 4).trans rfl
            have hcz7_5 : wr.cell? ⟨gb209, 5, none⟩ = some (.int .i64 a0_5) := (blk_cell BK209.out 5).trans rfl
            have hcz7_6 : wr.cell? ⟨gb209, 6, none⟩ = some (.int .i64 a0_6) := (blk_cell BK209.out 6).trans rfl
            have hcz7_7 : wr.cell? ⟨gb209, 7, none⟩ = some (.int .i64 a0_7) := (blk_cell BK209.out 7).trans rfl
            have hcz7_8 : wr.cell? ⟨gb209, 8, none⟩ = some (.slice A0_8 l0_8.length c0_8) := (blk_cell BK209.out 8).trans rfl
            have hcz7_9 : wr.cell? ⟨gb209, 9, none⟩ = some (.int .i64 a0_9) := (blk_cell BK209.out 9).trans rfl
            have hcz7_10 : wr.cell? ⟨gb209, 10, none⟩ = some (.slice A0_10 l0_10.length c0_10) := (blk_cell BK209.out 10).trans rfl
            have hfz7_0 := blk_frozen BK209.out 0
            have hfz7_1 := blk_frozen BK209.out 1
            have hfz7_2 := blk_frozen BK209.out 2
            have hfz7_3 := blk_frozen BK209.out 3
            have hfz7_4 := blk_frozen BK209.out 4
            have hfz7_5 := blk_frozen BK209.out 5
            have hfz7_6 := blk_frozen BK209.out 6
            have hfz7_7 := blk_frozen BK209.out 7
            have hfz7_8 := blk_frozen BK209.out 8
            have hfz7_9 := blk_frozen BK209.out 9
            have hfz7_10 := blk_frozen BK209.out 10
            have p210 : 0 ≤ (x3_1 : Int) := of_decide_eq_true (by first | (with_reducible assumption) | assumption)
            have q210 : x3_1 < (l0_10.length : Int) := of_decide_eq_true (by first | (with_reducible assumption) | assumption)
            obtain ⟨ad210, e210, hx210_0⟩ := Kd.at_int HR0_10.out x3_1 p210 q210
            cases e210
            replace hx210_0 := (HB.out.cell (World.block_lt_of_cell? w _ hx210_0)).trans hx210_0
            replace p210 := eq_true p210
            replace q210 := eq_true q210
            go_wp2
            go_roundg k1
            case measure => have := HK1.out; omega
            case rel => exact ⟨(wrap64 (x3_1 + 1)), (by first | rfl | (simp; done) | (simp [*]; done)), H', ⟨by have := HK1.out; omega⟩, ⟨by (with_reducible repeat (first | refine blk_drewN ?_ _ | refine blk_drew ?_ | refine blk_alloc ?_ _)); exact BK209.out⟩, ⟨by repeat (first | (with_reducible first | exact HB.out | apply below_alloc | apply pw_below_drewN | apply below_drew1 | refine below_set ?_ GE209.out) | exact HB.out)⟩⟩
        · rw [if_neg c4] at H
          exact absurd H (by simp)
      · rw [if_neg c3] at H
        have c3b0 : decide (x3_1 < (l0_10.length : Int)) = false := decide_eq_false c3
        clear c3
        by_cases c8 : a0_9 = 0
        · rw [if_pos c8] at H
          have c8b0 : (a0_9 == 0) = true := beq_iff_eq.mpr c8
          have c8b1 : (a0_9 != 0) = false := bne_eq_false_iff_eq.mpr c8
          clear c8
          obtain rfl := Option.some.inj H
          have hcz9_0 : wr.cell? ⟨gb209, 0, none⟩ = some (.int .i64 a0_0) := (blk_cell BK209.out 0).trans rfl
          have hcz9_1 : wr.cell? ⟨gb209, 1, none⟩ = some (.string a0_1) := (blk_cell BK209.out 1).trans rfl
          have hcz9_2 : wr.cell? ⟨gb209, 2, none⟩ = some (.int .i64 a0_2) := (blk_cell BK209.out 2).trans rfl
          have hcz9_3 : wr.cell? ⟨gb209, 3, none⟩ = some (.int .i64 a0_3) := (blk_cell BK209.out 3).trans rfl
          have hcz9_4 : wr.cell? ⟨gb209, 4, none⟩ = some (.int .i64 a0_4) := (blk_cell BK209.out 4).trans rfl
          have hcz9_5 : wr.cell? ⟨gb209, 5, none⟩ = some (.int .i64 a0_5) := (blk_cell BK209.out 5).trans rfl
          have hcz9_6 : wr.cell? ⟨gb209, 6, none⟩ = some (.int .i64 a0_6) := (blk_cell BK209.out 6).trans rfl
          have hcz9_7 : wr.cell? ⟨gb209, 7, none⟩ = some (.int .i64 a0_7) := (blk_cell BK209.out 7).trans rfl
          have hcz9_8 : wr.cell? ⟨gb209, 8, none⟩ = some (.slice A0_8 l0_8.length c0_8) := (blk_cell BK209.out 8).trans rfl
          have hcz9_9 : wr.cell? ⟨gb209, 9, none⟩ = some (.int .i64 a0_9) := (blk_cell BK209.out 9).trans rfl
          have hcz9_10 : wr.cell? ⟨gb209, 10, none⟩ = some (.slice A0_10 l0_10.length c0_10) := (blk_cell BK209.out 10).trans rfl
          have hfz9_0 := blk_frozen BK209.out 0
          have hfz9_1 := blk_frozen BK209.out 1
          have hfz9_2 := blk_frozen BK209.out 2
          have hfz9_3 := blk_frozen BK209.out 3
          have hfz9_4 := blk_frozen BK209.out 4
          have hfz9_5 := blk_frozen BK209.out 5
          have hfz9_6 := blk_frozen BK209.out 6
          have hfz9_7 := blk_frozen BK209.out 7
          have hfz9_8 := blk_frozen BK209.out 8
          have hfz9_9 := blk_frozen BK209.out 9
          have hfz9_10 := blk_frozen BK209.out 10
          go_wp2
          go_ret
          exact ⟨by first | rfl | (simp [errW_none, errW_some] <;> rfl) | (simp [*, errW_none, errW_some] <;> rfl), by repeat (first | (with_reducible first | exact HB.out | apply below_alloc | apply pw_below_drewN | apply below_drew1 | refine below_set ?_ GE209.out) | exact HB.out)⟩
        · rw [if_neg c8] at H
          have c8b0 : (a0_9 == 0) = false := beq_eq_false_iff_ne.mpr c8
          have c8b1 : (a0_9 != 0) = true := bne_iff_ne.mpr c8
          by_cases c10 : a0_9 = 1
          · rw [if_pos c10] at H
            have c10b0 : (a0_9 == 1) = true := beq_iff_eq.mpr c10
            have c10b1 : (a0_9 != 1) = false := bne_eq_false_iff_eq.mpr c10
            clear c10
            by_cases c11 : ((l0_10.length : Int) % 2) = 0
            · rw [if_pos c11] at H
              have c11b0 : (((l0_10.length : Int) % 2) == 0) = true := beq_iff_eq.mpr c11
              have c11b1 : (((l0_10.length : Int) % 2) != 0) = false := bne_eq_false_iff_eq.mpr c11
              clear c11
              obtain rfl := Option.some.inj H
              have hcz12_0 : wr.cell? ⟨gb209, 0, none⟩ = some (.int .i64 a0_0) := (blk_cell BK209.out 0).trans rfl
              have hcz12_1 : wr.cell? ⟨gb209, 1, none⟩ = some (.string a0_1) := (blk_cell BK209.out 1).trans rfl
              have hcz12_2 : wr.cell? ⟨gb209, 2, none⟩ = some (.int .i64 a0_2) := (blk_cell BK209.out 2).trans rfl
              have hcz12_3 : wr.cell? ⟨gb209, 3, none⟩ = some (.int .i64 a0_3) := (blk_cell BK209.out 3).trans rfl
              have hcz12_4 : wr.cell? ⟨gb209, 4, none⟩ = some (.int .i64 a0_4) := (blk_cell BK209.out 4).trans rfl
              have hcz12_5 : wr.cell? ⟨gb209, 5, none⟩ = some (.int .i64 a0_5) := (blk_cell BK209.out 5).trans rfl
              have hcz12_6 : wr.cell? ⟨gb209, 6, none⟩ = some (.int .i64 a0_6) := (blk_cell BK209.out 6).trans rfl
              have hcz12_7 : wr.cell? ⟨gb209, 7, none⟩ = some (.int .i64 a0_7) := (blk_cell BK209.out 7).trans rfl
              have hcz12_8 : wr.cell? ⟨gb209, 8, none⟩ = some (.slice A0_8 l0_8.length c0_8) := (blk_cell BK209.out 8).trans rfl
              have hcz12_9 : wr.cell? ⟨gb209, 9, none⟩ = some (.int .i64 a0_9) := (blk_cell BK209.out 9).trans rfl
              have hcz12_10 : wr.cell? ⟨gb209, 10, none⟩ = some (.slice A0_10 l0_10.length c0_10) := (blk_cell BK209.out 10).trans rfl
              have hfz12_0 := blk_frozen BK209.out 0
              have hfz12_1 := blk_frozen BK209.out 1
              have hfz12_2 := blk_frozen BK209.out 2
              have hfz12_3 := blk_frozen BK209.out 3
              have hfz12_4 := blk_frozen BK209.out 4
              have hfz12_5 := blk_frozen BK209.out 5
              have hfz12_6 := blk_frozen BK209.out 6
              have hfz12_7 := blk_frozen BK209.out 7
              have hfz12_8 := blk_frozen BK209.out 8
              have hfz12_9 := blk_frozen BK209.out 9
              have hfz12_10 := blk_frozen BK209.out 10
              go_wp2
              go_ret
              exact ⟨by first | rfl | (simp [errW_none, errW_some] <;> rfl) | (simp [*, errW_none, errW_some] <;> rfl), by repeat (first | (with_reducible first | exact HB.out | apply below_alloc | apply pw_below_drewN | apply below_drew1 | refine below_set ?_ GE209.out) | exact HB.out)⟩
            · rw [if_neg c11] at H
              have c11b0 : (((l0_10.length : Int) % 2) == 0) = false := beq_eq_false_iff_ne.mpr c11
              have c11b1 : (((l0_10.length : Int) % 2) != 0) = true := bne_iff_ne.mpr c11
              obtain rfl := Option.some.inj H
              have hcz13_0 : wr.cell? ⟨gb209, 0, none⟩ = some (.int .i64 a0_0) := (blk_cell BK209.out 0).trans rfl
              have hcz13_1 : wr.cell? ⟨gb209, 1, none⟩ = some (.string a0_1) := (blk_cell BK209.out 1).trans rfl
              have hcz13_2 : wr.cell? ⟨gb209, 2, none⟩ = some (.int .i64 a0_2) := (blk_cell BK209.out 2).trans rfl
              have hcz13_3 : wr.cell? ⟨gb209, 3, none⟩ = some (.int .i64 a0_3) := (blk_cell BK209.out 3).trans rfl
              have hcz13_4 : wr.cell? ⟨gb209, 4, none⟩ = some (.int .i64 a0_4) := (blk_cell BK209.out 4).trans rfl
              have hcz13_5 : wr.cell? ⟨gb209, 5, none⟩ = some (.int .i64 a0_5) := (blk_cell BK209.out 5).trans rfl
              have hcz13_6 : wr.cell? ⟨gb209, 6, none⟩ = some (.int .i64 a0_6) := (blk_cell BK209.out 6).trans rfl
              have hcz13_7 : wr.cell? ⟨gb209, 7, none⟩ = some (.int .i64 a0_7) := (blk_cell BK209.out 7).trans rfl
              have hcz13_8 : wr.cell? ⟨gb209, 8, none⟩ = some (.slice A0_8 l0_8.length c0_8) := (blk_cell BK209.out 8).trans rfl
              have hcz13_9 : wr.cell? ⟨gb209, 9, none⟩ = some (.int .i64 a0_9) := (blk_cell BK209.out 9).trans rfl
              have hcz13_10 : wr.cell? ⟨gb209, 10, none⟩ = some (.slice A0_10 l0_10.length c0_10) := (blk_cell BK209.out 10).trans rfl
              have hfz13_0 := blk_frozen BK209.out 0
              have hfz13_1 := blk_frozen BK209.out 1
              have hfz13_2 := blk_frozen BK209.out 2
              have hfz13_3 := blk_frozen BK209.out 3
              have hfz13_4 := blk_frozen BK209.out 4
              have hfz13_5 := blk_frozen BK209.out 5
              have hfz13_6 := blk_frozen BK209.out 6
              have hfz13_7 := blk_frozen BK209.out 7
              have hfz13_8 := blk_frozen BK209.out 8
              have hfz13_9 := blk_frozen BK209.out 9
              have hfz13_10 := blk_frozen BK209.out 10
              go_wp2
              go_ret
              exact ⟨by first | rfl | (simp [errW_none, errW_some] <;> rfl) | (simp [*, errW_none, errW_some] <;> rfl), by repeat (first | (with_reducible first | exact HB.out | apply below_alloc | apply pw_below_drewN | apply below_drew1 | refine below_set ?_ GE209.out) | exact HB.out)⟩
          · rw [if_neg c10] at H
            have c10b0 : (a0_9 == 1) = false := beq_eq_false_iff_ne.mpr c10
            have c10b1 : (a0_9 != 1) = true := bne_iff_ne.mpr c10
            by_cases c14 : a0_9 = 2
            · rw [if_pos c14] at H
              have c14b0 : (a0_9 == 2) = true := beq_iff_eq.mpr c14
              have c14b1 : (a0_9 != 2) = false := bne_eq_false_iff_eq.mpr c14
              clear c14
              by_cases c15 : ((l0_10.length : Int) % 2) = 1
              · rw [if_pos c15] at H
                have c15b0 : (((l0_10.length : Int) % 2) == 1) = true := beq_iff_eq.mpr c15
                have c15b1 : (((l0_10.length : Int) % 2) != 1) = false := bne_eq_false_iff_eq.mpr c15
                clear c15
                obtain rfl := Option.some.inj H
                have hcz16_0 : wr.cell? ⟨gb209, 0, none⟩ = some (.int .i64 a0_0) := (blk_cell BK209.out 0).trans rfl
                have hcz16_1 : wr.cell? ⟨gb209, 1, none⟩ = some (.string a0_1) := (blk_cell BK209.out 1).trans rfl
                have hcz16_2 : wr.cell? ⟨gb209, 2, none⟩ = some (.int .i64 a0_2) := (blk_cell BK209.out 2).trans rfl
                have hcz16_3 : wr.cell? ⟨gb209, 3, none⟩ = some (.int .i64 a0_3) := (blk_cell BK209.out 3).trans rfl
                have hcz16_4 : wr.cell? ⟨gb209, 4, none⟩ = some (.int .i64 a0_4) := (blk_cell BK209.out 4).trans rfl
                have hcz16_5 : wr.cell? ⟨gb209, 5, none⟩ = some (.int .i64 a0_5) := (blk_cell BK209.out 5).trans rfl
                have hcz16_6 : wr.cell? ⟨gb209, 6, none⟩ = some (.int .i64 a0_6) := (blk_cell BK209.out 6).trans rfl
                have hcz16_7 : wr.cell? ⟨gb209, 7, none⟩ = some (.int .i64 a0_7) := (blk_cell BK209.out 7).trans rfl
                have hcz16_8 : wr.cell? ⟨gb209, 8, none⟩ = some (.slice A0_8 l0_8.length c0_8) := (blk_cell BK209.out 8).trans rfl
                have hcz16_9 : wr.cell? ⟨gb209, 9, none⟩ = some (.int .i64 a0_9) := (blk_cell BK209.out 9).trans rfl
                have hcz16_10 : wr.cell? ⟨gb209, 10, none⟩ = some (.slice A0_10 l0_10.length c0_10) := (blk_cell BK209.out 10).trans rfl
                have hfz16_0 := blk_frozen BK209.out 0
                have hfz16_1 := blk_frozen BK209.out 1
                have hfz16_2 := blk_frozen BK209.out 2
                have hfz16_3 := blk_frozen BK209.out 3
                have hfz16_4 := blk_frozen BK209.out 4
                have hfz16_5 := blk_frozen BK209.out 5
                have hfz16_6 := blk_frozen BK209.out 6
                have hfz16_7 := blk_frozen BK209.out 7
                have hfz16_8 := blk_frozen BK209.out 8
                have hfz16_9 := blk_frozen BK209.out 9
                have hfz16_10 := blk_frozen BK209.out 10
                go_wp2
                go_ret
                exact ⟨by first | rfl | (simp [errW_none, errW_some] <;> rfl) | (simp [*, errW_none, errW_some] <;> rfl), by repeat (first | (with_reducible first | exact HB.out | apply below_alloc | apply pw_below_drewN | apply below_drew1 | refine below_set ?_ GE209.out) | exact HB.out)⟩
              · rw [if_neg c15] at H
                have c15b0 : (((l0_10.length : Int) % 2) == 1) = false := beq_eq_false_iff_ne.mpr c15
                have c15b1 : (((l0_10.length : Int) % 2) != 1) = true := bne_iff_ne.mpr c15
                obtain rfl := Option.some.inj H
                have hcz17_0 : wr.cell? ⟨gb209, 0, none⟩ = some (.int .i64 a0_0) := (blk_cell BK209.out 0).trans rfl
                have hcz17_1 : wr.cell? ⟨gb209, 1, none⟩ = some (.string a0_1) := (blk_cell BK209.out 1).trans rfl
                have hcz17_2 : wr.cell? ⟨gb209, 2, none⟩ = some (.int .i64 a0_2) := (blk_cell BK209.out 2).trans rfl
                have hcz17_3 : wr.cell? ⟨gb209, 3, none⟩ = some (.int .i64 a0_3) := (blk_cell BK209.out 3).trans rfl
                have hcz17_4 : wr.cell? ⟨gb209, 4, none⟩ = some (.int .i64 a0_4) := (blk_cell BK209.out 4).trans rfl
                have hcz17_5 : wr.cell? ⟨gb209, 5, none⟩ = some (.int .i64 a0_5) := (blk_cell BK209.out 5).trans rfl
                have hcz17_6 : wr.cell? ⟨gb209, 6, none⟩ = some (.int .i64 a0_6) := (blk_cell BK209.out 6).trans rfl
                have hcz17_7 : wr.cell? ⟨gb209, 7, none⟩ = some (.int .i64 a0_7) := (blk_cell BK209.out 7).trans rfl
                have hcz17_8 : wr.cell? ⟨gb209, 8, none⟩ = some (.slice A0_8 l0_8.length c0_8) := (blk_cell BK209.out 8).trans rfl
                have hcz17_9 : wr.cell? ⟨gb209, 9, none⟩ = some (.int .i64 a0_9) := (blk_cell BK209.out 9).trans rfl
                have hcz17_10 : wr.cell? ⟨gb209, 10, none⟩ = some (.slice A0_10 l0_10.length c0_10) := (blk_cell BK209.out 10).trans rfl
                have hfz17_0 := blk_frozen BK209.out 0
                have hfz17_1 := blk_frozen BK209.out 1
                have hfz17_2 := blk_frozen BK209.out 2
                have hfz17_3 := blk_frozen BK209.out 3
                have hfz17_4 := blk_frozen BK209.out 4
                have hfz17_5 := blk_frozen BK209.out 5
                have hfz17_6 := blk_frozen BK209.out 6
                have hfz17_7 := blk_frozen BK209.out 7
                have hfz17_8 := blk_frozen BK209.out 8
                have hfz17_9 := blk_frozen BK209.out 9
                have hfz17_10 := blk_frozen BK209.out 10
                go_wp2
                go_ret
                exact ⟨by first | rfl | (simp [errW_none, errW_some] <;> rfl) | (simp [*, errW_none, errW_some] <;> rfl), by repeat (first | (with_reducible first | exact HB.out | apply below_alloc | apply pw_below_drewN | apply below_drew1 | refine below_set ?_ GE209.out) | exact HB.out)⟩
            · rw [if_neg c14] at H
              have c14b0 : (a0_9 == 2) = false := beq_eq_false_iff_ne.mpr c14
              have c14b1 : (a0_9 != 2) = true := bne_iff_ne.mpr c14
              obtain rfl := Option.some.inj H
              have hcz18_0 : wr.cell? ⟨gb209, 0, none⟩ = some (.int .i64 a0_0) := (blk_cell BK209.out 0).trans rfl
              have hcz18_1 : wr.cell? ⟨gb209, 1, none⟩ = some (.string a0_1) := (blk_cell BK209.out 1).trans rfl
              have hcz18_2 : wr.cell? ⟨gb209, 2, none⟩ = some (.int .i64 a0_2) := (blk_cell BK209.out 2).trans rfl
              have hcz18_3 : wr.cell? ⟨gb209, 3, none⟩ = some (.int .i64 a0_3) := (blk_cell BK209.out 3).trans rfl
              have hcz18_4 : wr.cell? ⟨gb209, 4, none⟩ = some (.int .i64 a0_4) := (blk_cell BK209.out 4).trans rfl
              have hcz18_5 : wr.cell? ⟨gb209, 5, none⟩ = some (.int .i64 a0_5) := (blk_cell BK209.out 5).trans rfl
              have hcz18_6 : wr.cell? ⟨gb209, 6, none⟩ = some (.int .i64 a0_6) := (blk_cell BK209.out 6).trans rfl
              have hcz18_7 : wr.cell? ⟨gb209, 7, none⟩ = some (.int .i64 a0_7) := (blk_cell BK209.out 7).trans rfl
              have hcz18_8 : wr.cell? ⟨gb209, 8, none⟩ = some (.slice A0_8 l0_8.length c0_8) := (blk_cell BK209.out 8).trans rfl
              have hcz18_9 : wr.cell? ⟨gb209, 9, none⟩ = some (.int .i64 a0_9) := (blk_cell BK209.out 9).trans rfl
              have hcz18_10 : wr.cell? ⟨gb209, 10, none⟩ = some (.slice A0_10 l0_10.length c0_10) := (blk_cell BK209.out 10).trans rfl
              have hfz18_0 := blk_frozen BK209.out 0
              have hfz18_1 := blk_frozen BK209.out 1
              have hfz18_2 := blk_frozen BK209.out 2
              have hfz18_3 := blk_frozen BK209.out 3
              have hfz18_4 := blk_frozen BK209.out 4
              have hfz18_5 := blk_frozen BK209.out 5
              have hfz18_6 := blk_frozen BK209.out 6
              have hfz18_7 := blk_frozen BK209.out 7
              have hfz18_8 := blk_frozen BK209.out 8
              have hfz18_9 := blk_frozen BK209.out 9
              have hfz18_10 := blk_frozen BK209.out 10
              go_wp2
              go_ret
              exact ⟨by first | rfl | (simp [errW_none, errW_some] <;> rfl) | (simp [*, errW_none, errW_some] <;> rfl), by repeat (first | (with_reducible first | exact HB.out | apply below_alloc | apply pw_below_drewN | apply below_drew1 | refine below_set ?_ GE209.out) | exact HB.out)⟩

end Go.Proofs.Ytnnhhkjcjkinpaa.P
