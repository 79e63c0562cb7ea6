--m
/- Written by wip/tool/hprint.py (the kit's print.py with hand-proved contracts set in): contracts of the functions that the statements of this seat reach, without conditions beyond those named in each theorem. -/
import Derived.Test.YtikgflpobacndaaP0
import Derived.Test.YtikgflpobacndaaP54
namespace Go.Proofs.Ytikgflpobacndaa.P
open Go.RowKit Go.Proofs.YtikgflpobacndaaW.PrintWords Go.Proofs.YtikgflpobacndaaW.PrintLast Go.Proofs.YtikgflpobacndaaW.PrintMore
attribute [local go_sem] zaA zaB zaC zaD zaE zaF zaG zaH   -- for this text's walks alone
set_option linter.unusedVariables false
set_option linter.unusedSimpArgs false

/-! ### vinculumref13_MapAll: function 21 -/
def vinculumref13_MapAll.l0 : Nat → List (S27) → Bool → List Int → Int → Option (List Int)
 | 0, _, _, _, _ => none
 | k + 1, x0, x2, x7, x8 => if x8 < (x0.length : Int) then (if 0 ≤ x8 then ((vinculumref13_Map.f k ((rd_T27 x0 x8).f0) ((rd_T27 x0 x8).f1) ((rd_T27 x0 x8).f2) ((rd_T27 x0 x8).f3) ((rd_T27 x0 x8).f4) ((rd_T27 x0 x8).f5) ((rd_T27 x0 x8).f6) ((rd_T27 x0 x8).f7) x7 x2).bind fun t705 => (vinculumref13_MapAll.l0 k x0 x2 t705 (wrap64 (x8 + 1)))) else (none)) else (some x7)
def vinculumref13_MapAll.f (k : Nat) (l0 : List (S27)) (l1 : List Int) (a2 : Bool) : Option (List Int) := (some (([] : List Int) : List Int)).bind fun y698 => (if y698.length + l1.length < 17592186044416 then (vinculumref13_MapAll.l0 k l0 a2 (y698 ++ l1) 0) else (none))
theorem vinculumref13_MapAll.mono_l : ∀ k, (∀ y0 y1 y2 y3, LeO (vinculumref13_MapAll.l0 k y0 y1 y2 y3) (vinculumref13_MapAll.l0 (k + 1) y0 y1 y2 y3))
 | 0 => fun _ _ _ _ r h => by simp [vinculumref13_MapAll.l0] at h
 | k + 1 => by
  have ih0 := vinculumref13_MapAll.mono_l k
  ·intro y0 y1 y2 y3
   unfold vinculumref13_MapAll.l0
   repeat' first
   | (with_reducible exact ih0 _ _ _ _)
   | (with_reducible exact vinculumref13_Map.mono _ _ _ _ _ _ _ _ _ _ _)
   | (with_reducible exact LeO.refl _)
   | (with_reducible exact LeO.none _)
   | (with_reducible refine LeO.ite ?_ ?_)
   | (with_reducible refine LeO.bind ?_ (fun _ => ?_))
   | exact ih0 _ _ _ _
   | exact vinculumref13_Map.mono _ _ _ _ _ _ _ _ _ _ _
   | exact LeO.none _
   | refine LeO.ite ?_ ?_
   | refine LeO.bind ?_ (fun _ => ?_)
theorem vinculumref13_MapAll.mono : ∀ a0 a1 a2 k, LeO (vinculumref13_MapAll.f k a0 a1 a2) (vinculumref13_MapAll.f (k + 1) a0 a1 a2) := by
 intro a0 a1 a2 k
 have ih0 := vinculumref13_MapAll.mono_l k
 unfold vinculumref13_MapAll.f
 repeat' first
   | (with_reducible exact ih0 _ _ _ _)
   | (with_reducible exact vinculumref13_Map.mono _ _ _ _ _ _ _ _ _ _ _)
   | (with_reducible exact LeO.refl _)
   | (with_reducible exact LeO.none _)
   | (with_reducible refine LeO.ite ?_ ?_)
   | (with_reducible refine LeO.bind ?_ (fun _ => ?_))
   | exact ih0 _ _ _ _
   | exact vinculumref13_Map.mono _ _ _ _ _ _ _ _ _ _ _
   | exact LeO.none _
   | refine LeO.ite ?_ ?_
   | refine LeO.bind ?_ (fun _ => ?_)
set_option maxHeartbeats 8000000 in
set_option maxRecDepth 100000 in
theorem vinculumref13_MapAll.calls (k : Nat) (A0 : Option Addr) (c0 : Nat) (l0 : List (S27)) (A1 : Option Addr) (c1 : Nat) (l1 : List Int) (a2 : Bool) (r : List Int) (w : World) (hr0 : Kd.C k27 w A0 l0.length l0) (hc0 : l0.length ≤ c0) (hr1 : Kd.C (Kd.int .i64) w A1 l1.length l1) (hc1 : l1.length ≤ c1) (h : vinculumref13_MapAll.f k l0 l1 a2 = some r) :
  Calls Try.prog 21 #[.slice A0 l0.length c0, .slice A1 l1.length c1, .bool a2] w fun e w' => ∃ v0_ : Value, e = .returned (v0_) ∧ Kd.R (Kd.int .i64) 3 w' w.heap.size (fun _ => True) v0_ r ∧ Below w.heap.size w w' := by
 have hu27 := Try.underlying27
 have HR0 := zab.mk hr0
 have HC0 := zab.mk hc0
 clear hr0 hc0
 have HR1 := zab.mk hr1
 have HC1 := zab.mk hc1
 clear hr1 hc1
 have HB := zab.mk (Below.refl w.heap.size w)
 have H : ((some (([] : List Int) : List Int)).bind fun y698 => (if y698.length + l1.length < 17592186044416 then (vinculumref13_MapAll.l0 k l0 a2 (y698 ++ l1) 0) else (none))) = some r := h
 clear h
 obtain ⟨y698, hy698⟩ : ∃ y_ : List Int, y_ = (([] : List Int)) := ⟨_, rfl⟩
 replace H : (if y698.length + l1.length < 17592186044416 then (vinculumref13_MapAll.l0 k l0 a2 (y698 ++ l1) 0) else (none)) = some r := by first | (rw [hy698]; with_reducible exact H) | (have H2_ := (Option.bind_some _ _).symm.trans H; rw [hy698]; with_reducible exact H2_) | (have H2_ := (Option.bind_some _ _).symm.trans H; with_reducible exact H2_) | with_reducible exact H | (rw [hy698]; exact H) | exact H
 have Ny698 := zab.mk hy698
 clear hy698
 by_cases c4 : y698.length + l1.length < 17592186044416
 ·rw [if_pos c4] at H
  have LMc4 := zab.mk c4
  clear c4
  obtain ⟨y701, hy701⟩ : ∃ y_ : List Int, y_ = (y698 ++ l1) := ⟨_, rfl⟩
  replace H : (vinculumref13_MapAll.l0 k l0 a2 y701 0) = some r := by first | (rw [hy701]; with_reducible exact H) | (have H2_ := (Option.bind_some _ _).symm.trans H; rw [hy701]; with_reducible exact H2_) | (have H2_ := (Option.bind_some _ _).symm.trans H; with_reducible exact H2_) | with_reducible exact H | (rw [hy701]; exact H) | exact H
  have Ny701 := zab.mk hy701
  clear hy701
  have H' := zab.mk H
  clear H
  go_enter Try.func21, Try.ntmps21
  go_wp2_with (first | ((with_reducible refine zap (N := 9) rfl ?_); refine Kd.R_lit (Kd.int .i64) _ 3 ?hg (N := 9) ?hd (xs := ([] : List Int)) (inner := []) (ok := fun _ => True) (okp := fun _ => True) ?hr ?hp (fun _ hk => hk) trivial (Below.refl _ _) (Nat.le_refl _) (by simp) ?_; (case hd => rfl); (case hg => rfl); (case hr => first | (go_simp; done) | (go_simp; rfl)); (case hp => exact (Reps.none _ _)); intro v699 w5 ho6 hb hg_ hnew_; clear hg_ hnew_; (first | rw [← Ny698.out] at ho6 | (simp only [Int.reduceToNat] at ho6; rw [← Ny698.out] at ho6)); have n0_ := zab.mk (Kd.R_lower ho6 (zak (by repeat (first | (with_reducible first | exact HB.o | apply zad | apply zaf | apply zae) | exact HB.o)))); have n1_ := zab.mk (zal (by repeat (first | (with_reducible first | exact HB.o | apply zad | apply zaf | apply zae) | exact HB.o)) hb); clear HB; have HO700 := n0_; have HB := n1_; clear n0_ n1_; clear hb ho6) | ((with_reducible refine zaL (b := .append) (xs := #[.tmp 9, .tmp 10]) rfl ?_); at_builtin; refine Kd.R_append_rows (Kd.int .i64) (w0 := w) w.heap.size rfl (.tmp 9) (.tmp 10) 25 3 (.int .i64 0) 8 rfl Try.underlying25 info3 rfl (by decide) (by omega) v699 y698 l1 _ _ _ (fun _ => True) (fun _ => False) rfl rfl ?aO ?aR (fun _ _ h => h) (fun _ h => h.elim) ?aF ?aB ?aS ?aL ?_; (case aR => repeat (first | exact (Kd.C_below HR1.o HB.o) | (with_reducible first | refine Kd.C_alloc ?_ _ | refine Kd.C_drewN ?_ _ | refine Kd.C_drew ?_))); (case aB => exact (by repeat (first | (with_reducible first | exact HB.o | apply zad | apply zaf | apply zae) | exact HB.o))); (case aF => exact (fun _ _ => trivial)); (case aO => exact (by (with_reducible repeat (first | apply Kd.R_alloc | apply Kd.R_drewN | apply Kd.R_drew)); exact HO700.o)); (case aS => exact (zak (by repeat (first | (with_reducible first | exact HB.o | apply zad | apply zaf | apply zae) | exact HB.o)))); (case aL => have := LMc4.out; omega); intro v702 w7 ho hb hg hat; rw [← Ny701.out] at ho; have n0_ := zab.mk (hb); have n1_ := zab.mk (ho); clear HB; clear HO700; have HB := n0_; have HO703 := n1_; clear n0_ n1_; clear ho hb hg hat))
  go_loopg [7, 8] k (fun kq v7 v8 w' => ∃ (x7_1 : List Int) (x8_1 : Int), v8 = .int .i64 x8_1 ∧ zab (vinculumref13_MapAll.l0 kq l0 a2 x7_1 x8_1 = some r) ∧ zab (kq ≤ k) ∧ zab (Kd.R (Kd.int .i64) 3 w' w.heap.size (fun _ => True) v7 x7_1) ∧ zab (Below w.heap.size w w'))
  case atStart => exact ⟨(y701), (0), (by first | rfl | (simp; done) | (simp [*]; done)), H', ⟨Nat.le_refl _⟩, ⟨by (with_reducible repeat (first | apply Kd.R_alloc | apply Kd.R_drewN | apply Kd.R_drew)); exact HO703.o⟩, ⟨by repeat (first | (with_reducible first | exact HB.o | apply zad | apply zaf | apply zae) | exact HB.o)⟩⟩
  case round =>
   clear H'
   try clear c1
   try clear c2
   try clear p2
   try clear c4
   obtain ⟨x7_1, x8_1, rfl, HA, HK1, HO_7, HB⟩ := hrel
   cases gk with
   | zero => exact absurd HA.o (by simp [vinculumref13_MapAll.l0])
   | succ k1 =>
    have H := HA.o
    clear HA
    simp only [vinculumref13_MapAll.l0] at H
    by_cases c8 : x8_1 < (l0.length : Int)
    ·rw [if_pos c8] at H
     have c8b0 : decide (x8_1 < (l0.length : Int)) = true := decide_eq_true c8
     clear c8
     by_cases c9 : 0 ≤ x8_1
     ·rw [if_pos c9] at H
      have c9b0 : decide (0 ≤ x8_1) = true := decide_eq_true c9
      clear c9
      replace H := Option.bind_eq_some_iff.mp H
      obtain ⟨t705, A100, H⟩ := H
      replace H : (vinculumref13_MapAll.l0 k1 l0 a2 t705 (wrap64 (x8_1 + 1))) = some r := H
      have A10 := zab.mk A100
      clear A100
      have H' := zab.mk H
      clear H
      have p704 : 0 ≤ (x8_1 : Int) := of_decide_eq_true (by first | (with_reducible assumption) | assumption)
      have q704 : x8_1 < (l0.length : Int) := of_decide_eq_true (by first | (with_reducible assumption) | assumption)
      obtain ⟨ad704, A704_1, c704_1, A704_4, c704_4, e704, hx704_0, hx704_1, hx704_2, hx704_3, hx704_4, hx704_5, hx704_6, hx704_7, hl704_1, hi704_1, hl704_4, hi704_4⟩ := at_T27 HR0.o x8_1 p704 q704
      cases e704
      replace hx704_0 := (HB.o.cell (World.block_lt_of_cell? w _ hx704_0)).trans hx704_0
      replace hx704_1 := (HB.o.cell (World.block_lt_of_cell? w _ hx704_1)).trans hx704_1
      replace hx704_2 := (HB.o.cell (World.block_lt_of_cell? w _ hx704_2)).trans hx704_2
      replace hx704_3 := (HB.o.cell (World.block_lt_of_cell? w _ hx704_3)).trans hx704_3
      replace hx704_4 := (HB.o.cell (World.block_lt_of_cell? w _ hx704_4)).trans hx704_4
      replace hx704_5 := (HB.o.cell (World.block_lt_of_cell? w _ hx704_5)).trans hx704_5
      replace hx704_6 := (HB.o.cell (World.block_lt_of_cell? w _ hx704_6)).trans hx704_6
      replace hx704_7 := (HB.o.cell (World.block_lt_of_cell? w _ hx704_7)).trans hx704_7
      have HR704_1 := zab.mk hi704_1
      have HC704_1 := zab.mk hl704_1
      clear hi704_1 hl704_1
      have HR704_4 := zab.mk hi704_4
      have HC704_4 := zab.mk hl704_4
      clear hi704_4 hl704_4
      replace p704 := eq_true p704
      replace q704 := eq_true q704
      obtain ⟨Ao11, co11, eo11⟩ := Kd.R_slice HO_7.o
      subst eo11
      go_wp2_with (first | ((with_reducible refine zav (f := 23) rfl ?_); refine zaw (some 24) rfl rfl Try.func23 (by kernel_rfl) rfl #[.agg #[.int .i64 ((rd_T27 l0 x8_1).f0), .slice A704_1 ((rd_T27 l0 x8_1).f1).length c704_1, .int .i64 ((rd_T27 l0 x8_1).f2), .int .i64 ((rd_T27 l0 x8_1).f3), .slice A704_4 ((rd_T27 l0 x8_1).f4).length c704_4, .int .i64 ((rd_T27 l0 x8_1).f5), .string ((rd_T27 l0 x8_1).f6), .string ((rd_T27 l0 x8_1).f7)], .slice Ao11 x7_1.length co11, .bool a2] rfl (by (try simp only [List.map_toArray, List.map_cons, List.map_nil]); first | done | rfl | (simp only [List.length_drop, List.length_take]; rfl)) ?_; (with_reducible refine (vinculumref13_Map.calls k1 ((rd_T27 l0 x8_1).f0) _ _ ((rd_T27 l0 x8_1).f1) ((rd_T27 l0 x8_1).f2) ((rd_T27 l0 x8_1).f3) _ _ ((rd_T27 l0 x8_1).f4) ((rd_T27 l0 x8_1).f5) ((rd_T27 l0 x8_1).f6) ((rd_T27 l0 x8_1).f7) _ _ x7_1 a2 t705 _ ?side1 ?side2 ?side3 ?side4 ?side5 ?side6 A10.o).mono ?_); (case side1 => repeat (first | exact (Kd.C_below HR704_1.o HB.o) | (with_reducible first | refine Kd.C_alloc ?_ _ | refine Kd.C_drewN ?_ _ | refine Kd.C_drew ?_))); (case side2 => exact HC704_1.out); (case side3 => repeat (first | exact (Kd.C_below HR704_4.o HB.o) | (with_reducible first | refine Kd.C_alloc ?_ _ | refine Kd.C_drewN ?_ _ | refine Kd.C_drew ?_))); (case side4 => exact HC704_4.out); (case side5 => repeat (first | exact (Kd.R_reads' HO_7.o).2.2 | (with_reducible first | refine Kd.C_alloc ?_ _ | refine Kd.C_drewN ?_ _ | refine Kd.C_drew ?_))); (case side6 => exact (Kd.R_reads' HO_7.o).2.1); rintro e w12 ⟨v706, rfl, ho0, hb⟩; refine ⟨_, rfl, ?_⟩; have n0_ := zab.mk (Kd.R_elder' (by (with_reducible repeat (first | apply Kd.R_alloc | apply Kd.R_drewN | apply Kd.R_drew)); exact HO_7.o) (Kd.R_base ho0) hb); have n1_ := zab.mk (Kd.R_lower (Kd.R_new' ho0 (Kd.R_lt (by (with_reducible repeat (first | apply Kd.R_alloc | apply Kd.R_drewN | apply Kd.R_drew)); exact HO_7.o))) (zak (by repeat (first | (with_reducible first | exact HB.o | apply zad | apply zaf | apply zae) | exact HB.o)))); have n2_ := zab.mk (zal (by repeat (first | (with_reducible first | exact HB.o | apply zad | apply zaf | apply zae) | exact HB.o)) hb); clear HO_7; clear HB; have HO_7 := n0_; have HO707 := n1_; have HB := n2_; clear n0_ n1_ n2_; (try clear hb); (try clear hb2); (try clear hk); (try clear hi); (try clear ho0)))
      go_roundg k1
      case measure => have := HK1.o; omega
      case rel => exact ⟨(t705), (wrap64 (x8_1 + 1)), (by first | rfl | (simp; done) | (simp [*]; done)), H', ⟨by have := HK1.o; omega⟩, ⟨by (with_reducible repeat (first | apply Kd.R_alloc | apply Kd.R_drewN | apply Kd.R_drew)); exact Kd.R_mono HO707.o (fun _ hk => trivial)⟩, ⟨by repeat (first | (with_reducible first | exact HB.o | apply zad | apply zaf | apply zae) | exact HB.o)⟩⟩
     ·rw [if_neg c9] at H
      exact absurd H (by simp)
    ·rw [if_neg c8] at H
     have c8b0 : decide (x8_1 < (l0.length : Int)) = false := decide_eq_false c8
     clear c8
     obtain rfl := Option.some.inj H
     go_wp2
     go_ret
     exact ⟨_, by first | rfl | (simp [errW_none, errW_some] <;> rfl) | (simp [*, errW_none, errW_some] <;> rfl), by (with_reducible repeat (first | apply Kd.R_alloc | apply Kd.R_drewN | apply Kd.R_drew)); exact HO_7.o, by repeat (first | (with_reducible first | exact HB.o | apply zad | apply zaf | apply zae) | exact HB.o)⟩
 ·rw [if_neg c4] at H
  exact absurd H (by simp)

end Go.Proofs.Ytikgflpobacndaa.P
