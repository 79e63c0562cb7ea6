--m
/- Written by wip/tool/hprint.py (the kit's print.py with hand-proved contracts set in): contracts of the functions that the statements of this seat reach, without conditions beyond those named in each theorem. -/
import Derived.Test.YtikgflpobacndaaP0
import Derived.Test.YtikgflpobacndaaP4
import Derived.Test.YtikgflpobacndaaP12
namespace Go.Proofs.Ytikgflpobacndaa.P
open Go.RowKit Go.Proofs.YtikgflpobacndaaW.PrintWords Go.Proofs.YtikgflpobacndaaW.PrintLast Go.Proofs.YtikgflpobacndaaW.PrintMore
attribute [local go_sem] zaA zaB zaC zaD zaE zaF zaG zaH   -- for this text's walks alone
set_option linter.unusedVariables false
set_option linter.unusedSimpArgs false

/-! ### posmap_MapAll: function 20 -/
def posmap_MapAll.l0 : Nat → Bool → List Int → List (S27) → Int → Int → Option (List Int)
 | 0, _, _, _, _, _ => none
 | k + 1, x2, x7, x12, x13, x14 => if x14 < x13 then (if 0 ≤ x14 then (if x14 < (x12.length : Int) then ((posmap_Map.f k ((rd_T27 x12 x14).f0) ((rd_T27 x12 x14).f1) ((rd_T27 x12 x14).f2) ((rd_T27 x12 x14).f3) ((rd_T27 x12 x14).f4) ((rd_T27 x12 x14).f5) ((rd_T27 x12 x14).f6) ((rd_T27 x12 x14).f7) x7 x2).bind fun t538 => (posmap_MapAll.l0 k x2 t538 x12 x13 (wrap64 (x14 + 1)))) else (none)) else (none)) else (some x7)
def posmap_MapAll.f (k : Nat) (l0 : List (S27)) (l1 : List Int) (a2 : Bool) : Option (List Int) := (slices_Clone_int_int.f l1).bind fun t533 => (posmap_MapAll.l0 k a2 t533 l0 (l0.length : Int) 0)
theorem posmap_MapAll.mono_l : ∀ k, (∀ y0 y1 y2 y3 y4, LeO (posmap_MapAll.l0 k y0 y1 y2 y3 y4) (posmap_MapAll.l0 (k + 1) y0 y1 y2 y3 y4))
 | 0 => fun _ _ _ _ _ r h => by simp [posmap_MapAll.l0] at h
 | k + 1 => by
  have ih0 := posmap_MapAll.mono_l k
  ·intro y0 y1 y2 y3 y4
   unfold posmap_MapAll.l0
   repeat' first
   | (with_reducible exact ih0 _ _ _ _ _)
   | (with_reducible exact posmap_Map.mono _ _ _ _ _ _ _ _ _ _ _)
   | (with_reducible exact LeO.refl _)
   | (with_reducible exact LeO.none _)
   | (with_reducible refine LeO.ite ?_ ?_)
   | (with_reducible refine LeO.bind ?_ (fun _ => ?_))
   | exact ih0 _ _ _ _ _
   | exact posmap_Map.mono _ _ _ _ _ _ _ _ _ _ _
   | exact LeO.none _
   | refine LeO.ite ?_ ?_
   | refine LeO.bind ?_ (fun _ => ?_)
theorem posmap_MapAll.mono : ∀ a0 a1 a2 k, LeO (posmap_MapAll.f k a0 a1 a2) (posmap_MapAll.f (k + 1) a0 a1 a2) := by
 intro a0 a1 a2 k
 have ih0 := posmap_MapAll.mono_l k
 unfold posmap_MapAll.f
 repeat' first
   | (with_reducible exact ih0 _ _ _ _ _)
   | (with_reducible exact posmap_Map.mono _ _ _ _ _ _ _ _ _ _ _)
   | (with_reducible exact LeO.refl _)
   | (with_reducible exact LeO.none _)
   | (with_reducible refine LeO.ite ?_ ?_)
   | (with_reducible refine LeO.bind ?_ (fun _ => ?_))
   | exact ih0 _ _ _ _ _
   | exact posmap_Map.mono _ _ _ _ _ _ _ _ _ _ _
   | exact LeO.none _
   | refine LeO.ite ?_ ?_
   | refine LeO.bind ?_ (fun _ => ?_)
set_option maxHeartbeats 8000000 in
set_option maxRecDepth 100000 in
theorem posmap_MapAll.calls (k : Nat) (A0 : Option Addr) (c0 : Nat) (l0 : List (S27)) (A1 : Option Addr) (c1 : Nat) (l1 : List Int) (a2 : Bool) (r : List Int) (w : World) (hr0 : Kd.C k27 w A0 l0.length l0) (hc0 : l0.length ≤ c0) (hr1 : Kd.C (Kd.int .i64) w A1 l1.length l1) (hc1 : l1.length ≤ c1) (h : posmap_MapAll.f k l0 l1 a2 = some r) :
  Calls Try.prog 20 #[.slice A0 l0.length c0, .slice A1 l1.length c1, .bool a2] w fun e w' => ∃ v0_ : Value, e = .returned (v0_) ∧ Kd.R (Kd.int .i64) 3 w' w.heap.size (fun _ => True) v0_ r ∧ Below w.heap.size w w' := by
 have hu27 := Try.underlying27
 have HR0 := zab.mk hr0
 have HC0 := zab.mk hc0
 clear hr0 hc0
 have HR1 := zab.mk hr1
 have HC1 := zab.mk hc1
 clear hr1 hc1
 have HB := zab.mk (Below.refl w.heap.size w)
 have H : ((slices_Clone_int_int.f l1).bind fun t533 => (posmap_MapAll.l0 k a2 t533 l0 (l0.length : Int) 0)) = some r := h
 clear h
 replace H := Option.bind_eq_some_iff.mp H
 obtain ⟨t533, A40, H⟩ := H
 replace H : (posmap_MapAll.l0 k a2 t533 l0 (l0.length : Int) 0) = some r := H
 have A4 := zab.mk A40
 clear A40
 have H' := zab.mk H
 clear H
 go_enter Try.func20, Try.ntmps20
 go_wp2_with (first | ((with_reducible refine zav (f := 38) rfl ?_); refine zaw (some 11) rfl rfl Try.func38 (by kernel_rfl) rfl #[.slice A1 l1.length c1] rfl (by (try simp only [List.map_toArray, List.map_cons, List.map_nil]); first | done | rfl | (simp only [List.length_drop, List.length_take]; rfl)) ?_; (with_reducible refine (slices_Clone_int_int.calls _ _ l1 t533 _ ?side1 ?side2 A4.o).mono ?_); (case side1 => repeat (first | exact HR1.o | (with_reducible first | refine Kd.C_alloc ?_ _ | refine Kd.C_drewN ?_ _ | refine Kd.C_drew ?_))); (case side2 => exact HC1.out); rintro e w5 ⟨v534, rfl, ho0, hb⟩; refine ⟨_, rfl, ?_⟩; have n0_ := zab.mk (Kd.R_lower ho0 (zak (by repeat (first | (with_reducible first | exact HB.o | apply zad | apply zaf | apply zae) | exact HB.o)))); have n1_ := zab.mk (zal (by repeat (first | (with_reducible first | exact HB.o | apply zad | apply zaf | apply zae) | exact HB.o)) hb); clear HB; have HO535 := n0_; have HB := n1_; clear n0_ n1_; (try clear hb); (try clear hb2); (try clear hk); (try clear hi); (try clear ho0)))
 go_loopg [7, 14] k (fun kq v7 v14 w' => ∃ (x7_1 : List Int) (x14_1 : Int), v14 = .int .i64 x14_1 ∧ zab (posmap_MapAll.l0 kq a2 x7_1 l0 (l0.length : Int) x14_1 = some r) ∧ zab (kq ≤ k) ∧ zab (Kd.R (Kd.int .i64) 3 w' w.heap.size (fun _ => True) v7 x7_1) ∧ zab (Below w.heap.size w w'))
 case atStart => exact ⟨(t533), (0), (by first | rfl | (simp; done) | (simp [*]; done)), H', ⟨Nat.le_refl _⟩, ⟨by (with_reducible repeat (first | apply Kd.R_alloc | apply Kd.R_drewN | apply Kd.R_drew)); exact HO535.o⟩, ⟨by repeat (first | (with_reducible first | exact HB.o | apply zad | apply zaf | apply zae) | exact HB.o)⟩⟩
 case round =>
  clear H'
  try clear c1
  try clear c2
  try clear p2
  try clear c3
  obtain ⟨x7_1, x14_1, rfl, HA, HK1, HO_7, HB⟩ := hrel
  cases gk with
  | zero => exact absurd HA.o (by simp [posmap_MapAll.l0])
  | succ k1 =>
   have H := HA.o
   clear HA
   simp only [posmap_MapAll.l0] at H
   by_cases c6 : x14_1 < (l0.length : Int)
   ·rw [if_pos c6] at H
    have c6b0 : decide (x14_1 < (l0.length : Int)) = true := decide_eq_true c6
    clear c6
    by_cases c7 : 0 ≤ x14_1
    ·rw [if_pos c7] at H
     have c7b0 : decide (0 ≤ x14_1) = true := decide_eq_true c7
     clear c7
     by_cases c8 : x14_1 < (l0.length : Int)
     ·rw [if_pos c8] at H
      have c8b0 : decide (x14_1 < (l0.length : Int)) = true := decide_eq_true c8
      clear c8
      replace H := Option.bind_eq_some_iff.mp H
      obtain ⟨t538, A90, H⟩ := H
      replace H : (posmap_MapAll.l0 k1 a2 t538 l0 (l0.length : Int) (wrap64 (x14_1 + 1))) = some r := H
      have A9 := zab.mk A90
      clear A90
      have H' := zab.mk H
      clear H
      have p536 : 0 ≤ (x14_1 : Int) := of_decide_eq_true (by first | (with_reducible assumption) | assumption)
      have q536 : x14_1 < (l0.length : Int) := of_decide_eq_true (by first | (with_reducible assumption) | assumption)
      obtain ⟨ad536, A536_1, c536_1, A536_4, c536_4, e536, hx536_0, hx536_1, hx536_2, hx536_3, hx536_4, hx536_5, hx536_6, hx536_7, hl536_1, hi536_1, hl536_4, hi536_4⟩ := at_T27 HR0.o x14_1 p536 q536
      cases e536
      replace hx536_0 := (HB.o.cell (World.block_lt_of_cell? w _ hx536_0)).trans hx536_0
      replace hx536_1 := (HB.o.cell (World.block_lt_of_cell? w _ hx536_1)).trans hx536_1
      replace hx536_2 := (HB.o.cell (World.block_lt_of_cell? w _ hx536_2)).trans hx536_2
      replace hx536_3 := (HB.o.cell (World.block_lt_of_cell? w _ hx536_3)).trans hx536_3
      replace hx536_4 := (HB.o.cell (World.block_lt_of_cell? w _ hx536_4)).trans hx536_4
      replace hx536_5 := (HB.o.cell (World.block_lt_of_cell? w _ hx536_5)).trans hx536_5
      replace hx536_6 := (HB.o.cell (World.block_lt_of_cell? w _ hx536_6)).trans hx536_6
      replace hx536_7 := (HB.o.cell (World.block_lt_of_cell? w _ hx536_7)).trans hx536_7
      have HR536_1 := zab.mk hi536_1
      have HC536_1 := zab.mk hl536_1
      clear hi536_1 hl536_1
      have HR536_4 := zab.mk hi536_4
      have HC536_4 := zab.mk hl536_4
      clear hi536_4 hl536_4
      replace p536 := eq_true p536
      replace q536 := eq_true q536
      go_wp2_with (first | ((with_reducible refine zap (N := 9) rfl ?_); refine zar ?hg (N := 9) ?hd (cs := #[.int .i64 0, .slice none 0 0, .int .i64 0, .int .i64 0, .slice none 0 0, .int .i64 0, .string (⟨#[]⟩ : ByteArray), .string (⟨#[]⟩ : ByteArray)]) (t := 27) ?hr ?_; (case hd => rfl); (case hg => rfl); (case hr => first | (go_simp; done) | (go_simp; rfl)); intro gb537 hg w10 hbox hb; have n0_ := zab.mk (Kd.R_below (by (with_reducible repeat (first | apply Kd.R_alloc | apply Kd.R_drewN | apply Kd.R_drew)); exact HO_7.o) hb); have n1_ := zab.mk (zal (by repeat (first | (with_reducible first | exact HB.o | apply zad | apply zaf | apply zae) | exact HB.o)) hb); have n2_ := zab.mk (hbox); have n3_ := zab.mk ((by rw [hg]; exact (zak (by repeat (first | (with_reducible first | exact HB.o | apply zad | apply zaf | apply zae) | exact HB.o))) : w.heap.size ≤ gb537)); have n4_ := zab.mk ((by rw [hg]; exact (zak (by repeat (first | (with_reducible first | exact HB.o | apply zad | apply zaf | apply zae) | exact HB.o))) : w.heap.size ≤ gb537)); clear HO_7; clear HB; have HO_7 := n0_; have HB := n1_; have BK537 := n2_; have GW537 := n3_; have GE537 := n4_; clear n0_ n1_ n2_ n3_ n4_; clear hb hbox hg; have hcz11_0 : w10.cell? ⟨gb537, 0, none⟩ = some (.int .i64 0) := (zaa BK537.o 0).trans rfl; have hcz11_1 : w10.cell? ⟨gb537, 1, none⟩ = some (.slice none 0 0) := (zaa BK537.o 1).trans rfl; have hcz11_2 : w10.cell? ⟨gb537, 2, none⟩ = some (.int .i64 0) := (zaa BK537.o 2).trans rfl; have hcz11_3 : w10.cell? ⟨gb537, 3, none⟩ = some (.int .i64 0) := (zaa BK537.o 3).trans rfl; have hcz11_4 : w10.cell? ⟨gb537, 4, none⟩ = some (.slice none 0 0) := (zaa BK537.o 4).trans rfl; have hcz11_5 : w10.cell? ⟨gb537, 5, none⟩ = some (.int .i64 0) := (zaa BK537.o 5).trans rfl; have hcz11_6 : w10.cell? ⟨gb537, 6, none⟩ = some (.string (⟨#[]⟩ : ByteArray)) := (zaa BK537.o 6).trans rfl; have hcz11_7 : w10.cell? ⟨gb537, 7, none⟩ = some (.string (⟨#[]⟩ : ByteArray)) := (zaa BK537.o 7).trans rfl; have hfz11_0 := zac BK537.o 0; have hfz11_1 := zac BK537.o 1; have hfz11_2 := zac BK537.o 2; have hfz11_3 := zac BK537.o 3; have hfz11_4 := zac BK537.o 4; have hfz11_5 := zac BK537.o 5; have hfz11_6 := zac BK537.o 6; have hfz11_7 := zac BK537.o 7; obtain ⟨Ao12, co12, eo12⟩ := Kd.R_slice HO_7.o; subst eo12) | ((with_reducible refine zav (f := 14) rfl ?_); refine zaw (some 21) rfl rfl Try.func14 (by kernel_rfl) rfl #[.agg #[.int .i64 ((rd_T27 l0 x14_1).f0), .slice A536_1 ((rd_T27 l0 x14_1).f1).length c536_1, .int .i64 ((rd_T27 l0 x14_1).f2), .int .i64 ((rd_T27 l0 x14_1).f3), .slice A536_4 ((rd_T27 l0 x14_1).f4).length c536_4, .int .i64 ((rd_T27 l0 x14_1).f5), .string ((rd_T27 l0 x14_1).f6), .string ((rd_T27 l0 x14_1).f7)], .slice Ao12 x7_1.length co12, .bool a2] rfl (by (try simp only [List.map_toArray, List.map_cons, List.map_nil]); first | done | rfl | (simp only [List.length_drop, List.length_take]; rfl)) ?_; (with_reducible refine (posmap_Map.calls k1 ((rd_T27 l0 x14_1).f0) _ _ ((rd_T27 l0 x14_1).f1) ((rd_T27 l0 x14_1).f2) ((rd_T27 l0 x14_1).f3) _ _ ((rd_T27 l0 x14_1).f4) ((rd_T27 l0 x14_1).f5) ((rd_T27 l0 x14_1).f6) ((rd_T27 l0 x14_1).f7) _ _ x7_1 a2 t538 _ ?side1 ?side2 ?side3 ?side4 ?side5 ?side6 A9.o).mono ?_); (case side1 => exact Kd.C_below HR536_1.o (by repeat (first | (with_reducible first | exact HB.o | apply zad | apply zaf | apply zae | refine zag ?_ GE537.o) | exact HB.o))); (case side2 => exact HC536_1.out); (case side3 => exact Kd.C_below HR536_4.o (by repeat (first | (with_reducible first | exact HB.o | apply zad | apply zaf | apply zae | refine zag ?_ GE537.o) | exact HB.o))); (case side4 => exact HC536_4.out); (case side5 => refine (Kd.R_reads' (e := 3) (base := w.heap.size) (ok := fun k_ => True) (n := x7_1.length) (c := co12) ?_).2.2; exact (by (with_reducible repeat (first | apply Kd.R_alloc | apply Kd.R_drewN | apply Kd.R_drew)); exact (Kd.R_mono (Kd.R_far (p := ⟨gb537, 7, none⟩) (Kd.R_far (p := ⟨gb537, 6, none⟩) (Kd.R_far (p := ⟨gb537, 5, none⟩) (Kd.R_far (p := ⟨gb537, 4, none⟩) (Kd.R_far (p := ⟨gb537, 3, none⟩) (Kd.R_far (p := ⟨gb537, 2, none⟩) (Kd.R_far (p := ⟨gb537, 1, none⟩) (Kd.R_far (p := ⟨gb537, 0, none⟩) (Kd.R_types HO_7.o BK537.o (by decide)) (fun _ hk => hk.2) (.int .i64 ((rd_T27 l0 x14_1).f0))) (fun _ hk => hk.2) (.slice A536_1 ((rd_T27 l0 x14_1).f1).length c536_1)) (fun _ hk => hk.2) (.int .i64 ((rd_T27 l0 x14_1).f2))) (fun _ hk => hk.2) (.int .i64 ((rd_T27 l0 x14_1).f3))) (fun _ hk => hk.2) (.slice A536_4 ((rd_T27 l0 x14_1).f4).length c536_4)) (fun _ hk => hk.2) (.int .i64 ((rd_T27 l0 x14_1).f5))) (fun _ hk => hk.2) (.string ((rd_T27 l0 x14_1).f6))) (fun _ hk => hk.2) (.string ((rd_T27 l0 x14_1).f7))) (fun _ h_ => h_.1)))); (case side6 => exact (Kd.R_reads' HO_7.o).2.1); rintro e w13 ⟨v539, rfl, ho0, hb⟩; refine ⟨_, rfl, ?_⟩; have n0_ := zab.mk (Kd.R_elder' (by (with_reducible repeat (first | apply Kd.R_alloc | apply Kd.R_drewN | apply Kd.R_drew)); exact (Kd.R_mono (Kd.R_far (p := ⟨gb537, 7, none⟩) (Kd.R_far (p := ⟨gb537, 6, none⟩) (Kd.R_far (p := ⟨gb537, 5, none⟩) (Kd.R_far (p := ⟨gb537, 4, none⟩) (Kd.R_far (p := ⟨gb537, 3, none⟩) (Kd.R_far (p := ⟨gb537, 2, none⟩) (Kd.R_far (p := ⟨gb537, 1, none⟩) (Kd.R_far (p := ⟨gb537, 0, none⟩) (Kd.R_types HO_7.o BK537.o (by decide)) (fun _ hk => hk.2) (.int .i64 ((rd_T27 l0 x14_1).f0))) (fun _ hk => hk.2) (.slice A536_1 ((rd_T27 l0 x14_1).f1).length c536_1)) (fun _ hk => hk.2) (.int .i64 ((rd_T27 l0 x14_1).f2))) (fun _ hk => hk.2) (.int .i64 ((rd_T27 l0 x14_1).f3))) (fun _ hk => hk.2) (.slice A536_4 ((rd_T27 l0 x14_1).f4).length c536_4)) (fun _ hk => hk.2) (.int .i64 ((rd_T27 l0 x14_1).f5))) (fun _ hk => hk.2) (.string ((rd_T27 l0 x14_1).f6))) (fun _ hk => hk.2) (.string ((rd_T27 l0 x14_1).f7))) (fun _ h_ => h_.1))) (Kd.R_base ho0) hb); have n1_ := zab.mk (Kd.R_lower (Kd.R_new' ho0 (Kd.R_lt (by (with_reducible repeat (first | apply Kd.R_alloc | apply Kd.R_drewN | apply Kd.R_drew)); exact (Kd.R_mono (Kd.R_far (p := ⟨gb537, 7, none⟩) (Kd.R_far (p := ⟨gb537, 6, none⟩) (Kd.R_far (p := ⟨gb537, 5, none⟩) (Kd.R_far (p := ⟨gb537, 4, none⟩) (Kd.R_far (p := ⟨gb537, 3, none⟩) (Kd.R_far (p := ⟨gb537, 2, none⟩) (Kd.R_far (p := ⟨gb537, 1, none⟩) (Kd.R_far (p := ⟨gb537, 0, none⟩) (Kd.R_types HO_7.o BK537.o (by decide)) (fun _ hk => hk.2) (.int .i64 ((rd_T27 l0 x14_1).f0))) (fun _ hk => hk.2) (.slice A536_1 ((rd_T27 l0 x14_1).f1).length c536_1)) (fun _ hk => hk.2) (.int .i64 ((rd_T27 l0 x14_1).f2))) (fun _ hk => hk.2) (.int .i64 ((rd_T27 l0 x14_1).f3))) (fun _ hk => hk.2) (.slice A536_4 ((rd_T27 l0 x14_1).f4).length c536_4)) (fun _ hk => hk.2) (.int .i64 ((rd_T27 l0 x14_1).f5))) (fun _ hk => hk.2) (.string ((rd_T27 l0 x14_1).f6))) (fun _ hk => hk.2) (.string ((rd_T27 l0 x14_1).f7))) (fun _ h_ => h_.1))))) (zak (by repeat (first | (with_reducible first | exact HB.o | apply zad | apply zaf | apply zae | refine zag ?_ GE537.o) | exact HB.o)))); have n2_ := zab.mk (zam (g := gb537) (o := .cells #[.int .i64 ((rd_T27 l0 x14_1).f0), .slice A536_1 ((rd_T27 l0 x14_1).f1).length c536_1, .int .i64 ((rd_T27 l0 x14_1).f2), .int .i64 ((rd_T27 l0 x14_1).f3), .slice A536_4 ((rd_T27 l0 x14_1).f4).length c536_4, .int .i64 ((rd_T27 l0 x14_1).f5), .string ((rd_T27 l0 x14_1).f6), .string ((rd_T27 l0 x14_1).f7)] 27 (0, 0)) (by (with_reducible repeat (first | refine zaj ?_ _ | refine zah ?_ | refine zai ?_ _)); refine zan (cs := #[.int .i64 ((rd_T27 l0 x14_1).f0), .slice A536_1 ((rd_T27 l0 x14_1).f1).length c536_1, .int .i64 ((rd_T27 l0 x14_1).f2), .int .i64 ((rd_T27 l0 x14_1).f3), .slice A536_4 ((rd_T27 l0 x14_1).f4).length c536_4, .int .i64 ((rd_T27 l0 x14_1).f5), .string ((rd_T27 l0 x14_1).f6), .string (⟨#[]⟩ : ByteArray)]) ?_ 7 _ rfl; (with_reducible repeat (first | refine zaj ?_ _ | refine zah ?_ | refine zai ?_ _)); refine zan (cs := #[.int .i64 ((rd_T27 l0 x14_1).f0), .slice A536_1 ((rd_T27 l0 x14_1).f1).length c536_1, .int .i64 ((rd_T27 l0 x14_1).f2), .int .i64 ((rd_T27 l0 x14_1).f3), .slice A536_4 ((rd_T27 l0 x14_1).f4).length c536_4, .int .i64 ((rd_T27 l0 x14_1).f5), .string (⟨#[]⟩ : ByteArray), .string (⟨#[]⟩ : ByteArray)]) ?_ 6 _ rfl; (with_reducible repeat (first | refine zaj ?_ _ | refine zah ?_ | refine zai ?_ _)); refine zan (cs := #[.int .i64 ((rd_T27 l0 x14_1).f0), .slice A536_1 ((rd_T27 l0 x14_1).f1).length c536_1, .int .i64 ((rd_T27 l0 x14_1).f2), .int .i64 ((rd_T27 l0 x14_1).f3), .slice A536_4 ((rd_T27 l0 x14_1).f4).length c536_4, .int .i64 0, .string (⟨#[]⟩ : ByteArray), .string (⟨#[]⟩ : ByteArray)]) ?_ 5 _ rfl; (with_reducible repeat (first | refine zaj ?_ _ | refine zah ?_ | refine zai ?_ _)); refine zan (cs := #[.int .i64 ((rd_T27 l0 x14_1).f0), .slice A536_1 ((rd_T27 l0 x14_1).f1).length c536_1, .int .i64 ((rd_T27 l0 x14_1).f2), .int .i64 ((rd_T27 l0 x14_1).f3), .slice none 0 0, .int .i64 0, .string (⟨#[]⟩ : ByteArray), .string (⟨#[]⟩ : ByteArray)]) ?_ 4 _ rfl; (with_reducible repeat (first | refine zaj ?_ _ | refine zah ?_ | refine zai ?_ _)); refine zan (cs := #[.int .i64 ((rd_T27 l0 x14_1).f0), .slice A536_1 ((rd_T27 l0 x14_1).f1).length c536_1, .int .i64 ((rd_T27 l0 x14_1).f2), .int .i64 0, .slice none 0 0, .int .i64 0, .string (⟨#[]⟩ : ByteArray), .string (⟨#[]⟩ : ByteArray)]) ?_ 3 _ rfl; (with_reducible repeat (first | refine zaj ?_ _ | refine zah ?_ | refine zai ?_ _)); refine zan (cs := #[.int .i64 ((rd_T27 l0 x14_1).f0), .slice A536_1 ((rd_T27 l0 x14_1).f1).length c536_1, .int .i64 0, .int .i64 0, .slice none 0 0, .int .i64 0, .string (⟨#[]⟩ : ByteArray), .string (⟨#[]⟩ : ByteArray)]) ?_ 2 _ rfl; (with_reducible repeat (first | refine zaj ?_ _ | refine zah ?_ | refine zai ?_ _)); refine zan (cs := #[.int .i64 ((rd_T27 l0 x14_1).f0), .slice none 0 0, .int .i64 0, .int .i64 0, .slice none 0 0, .int .i64 0, .string (⟨#[]⟩ : ByteArray), .string (⟨#[]⟩ : ByteArray)]) ?_ 1 _ rfl; (with_reducible repeat (first | refine zaj ?_ _ | refine zah ?_ | refine zai ?_ _)); refine zan (cs := #[.int .i64 0, .slice none 0 0, .int .i64 0, .int .i64 0, .slice none 0 0, .int .i64 0, .string (⟨#[]⟩ : ByteArray), .string (⟨#[]⟩ : ByteArray)]) ?_ 0 _ rfl; (with_reducible repeat (first | refine zaj ?_ _ | refine zah ?_ | refine zai ?_ _)); exact BK537.o) hb); have n3_ := zab.mk (zal (by repeat (first | (with_reducible first | exact HB.o | apply zad | apply zaf | apply zae | refine zag ?_ GE537.o) | exact HB.o)) hb); clear HO_7; clear BK537; clear HB; have HO_7 := n0_; have HO540 := n1_; have BK537 := n2_; have HB := n3_; clear n0_ n1_ n2_ n3_; (try clear hb); (try clear hb2); (try clear hk); (try clear hi); (try clear ho0)))
      go_roundg k1
      case measure => have := HK1.o; omega
      case rel => exact ⟨(t538), (wrap64 (x14_1 + 1)), (by first | rfl | (simp; done) | (simp [*]; done)), H', ⟨by have := HK1.o; omega⟩, ⟨by (with_reducible repeat (first | apply Kd.R_alloc | apply Kd.R_drewN | apply Kd.R_drew)); exact Kd.R_mono HO540.o (fun _ hk => trivial)⟩, ⟨by repeat (first | (with_reducible first | exact HB.o | apply zad | apply zaf | apply zae | refine zag ?_ GE537.o) | exact HB.o)⟩⟩
     ·rw [if_neg c8] at H
      exact absurd H (by simp)
    ·rw [if_neg c7] at H
     exact absurd H (by simp)
   ·rw [if_neg c6] at H
    have c6b0 : decide (x14_1 < (l0.length : Int)) = false := decide_eq_false c6
    clear c6
    obtain rfl := Option.some.inj H
    go_wp2
    go_ret
    exact ⟨_, by first | rfl | (simp [errW_none, errW_some] <;> rfl) | (simp [*, errW_none, errW_some] <;> rfl), by (with_reducible repeat (first | apply Kd.R_alloc | apply Kd.R_drewN | apply Kd.R_drew)); exact HO_7.o, by repeat (first | (with_reducible first | exact HB.o | apply zad | apply zaf | apply zae) | exact HB.o)⟩

end Go.Proofs.Ytikgflpobacndaa.P
