--m
/- Written by wip/tool/hprint.py (the kit's print.py with hand-proved contracts set in): contracts of the functions that the statements of this seat reach, without conditions beyond those named in each theorem. -/
import Derived.Test.YtikgflpobacndaaP0
namespace Go.Proofs.Ytikgflpobacndaa.P
open Go.RowKit Go.Proofs.YtikgflpobacndaaW.PrintWords Go.Proofs.YtikgflpobacndaaW.PrintLast Go.Proofs.YtikgflpobacndaaW.PrintMore
attribute [local go_sem] zaA zaB zaC zaD zaE zaF zaG zaH   -- for this text's walks alone
set_option linter.unusedVariables false
set_option linter.unusedSimpArgs false

/-! ### vinculumref13_offset: function 46 -/
mutual
def vinculumref13_offset.j0 : Nat → Int → Int → Bool → Int → List Int → Int → Int → List (S24) → Int → ByteArray → ByteArray → Option (List Int)
 | 0, _, _, _, _, _, _, _, _, _, _, _ => none
 | k + 1, x1, x7, x45, x542000, x542001, x542002, x542003, x542004, x542005, x542006, x542007 => if x45 = true then (some (([x542002] : List Int))) else (if x1 > x542002 then (some (([wrap64 (x1 - x7)] : List Int))) else (some (([x1] : List Int))))
def vinculumref13_offset.j1 : Nat → Int → Bool → Bool → Int → List Int → Int → Int → List (S24) → Int → ByteArray → ByteArray → Option (List Int)
 | 0, _, _, _, _, _, _, _, _, _, _, _ => none
 | k + 1, x1, x2, x71, x542000, x542001, x542002, x542003, x542004, x542005, x542006, x542007 => if x71 = true then (some (([x542002, x542005, wrap64 (x1 - x542002)] : List Int))) else (if x1 > x542002 then (some (([wrap64 ((wrap64 (x1 - x542003)) + 1)] : List Int))) else (if x1 = x542002 then (if x542003 = 0 then (if x2 = true then (some (([wrap64 (x542002 + 1)] : List Int))) else (some (([x1] : List Int)))) else (some (([x1] : List Int)))) else (some (([x1] : List Int)))))
end
def vinculumref13_offset.f (k : Nat) (a0_0 : Int) (l0_1 : List Int) (a0_2 : Int) (a0_3 : Int) (l0_4 : List (S24)) (a0_5 : Int) (a0_6 : ByteArray) (a0_7 : ByteArray) (a1 : Int) (a2 : Bool) : Option (List Int) := if a0_0 = 1 then (if a1 > a0_2 then (some (([wrap64 (a1 + (l0_4.length : Int))] : List Int))) else (if a1 = a0_2 then (if a2 = true then (some (([wrap64 (a1 + (l0_4.length : Int))] : List Int))) else (some (([a1] : List Int)))) else (some (([a1] : List Int))))) else (if a0_0 = 2 then (if a1 > a0_2 then (vinculumref13_offset.j0 k a1 (l0_4.length : Int) (decide (a1 < (wrap64 (a0_2 + (l0_4.length : Int))))) a0_0 l0_1 a0_2 a0_3 l0_4 a0_5 a0_6 a0_7) else (vinculumref13_offset.j0 k a1 (l0_4.length : Int) false a0_0 l0_1 a0_2 a0_3 l0_4 a0_5 a0_6 a0_7)) else (if a0_0 = 3 then (if a1 > a0_2 then (vinculumref13_offset.j1 k a1 a2 (decide (a1 < (wrap64 (a0_2 + a0_3)))) a0_0 l0_1 a0_2 a0_3 l0_4 a0_5 a0_6 a0_7) else (vinculumref13_offset.j1 k a1 a2 false a0_0 l0_1 a0_2 a0_3 l0_4 a0_5 a0_6 a0_7)) else (if a0_0 = 4 then (if a1 > a0_2 then (some (([wrap64 ((wrap64 (a1 - 1)) + a0_3)] : List Int))) else (some (([a1] : List Int)))) else (some (([a1] : List Int))))))
theorem vinculumref13_offset.mono_l : ∀ k, (∀ y0 y1 y2 y3 y4 y5 y6 y7 y8 y9 y10, LeO (vinculumref13_offset.j0 k y0 y1 y2 y3 y4 y5 y6 y7 y8 y9 y10) (vinculumref13_offset.j0 (k + 1) y0 y1 y2 y3 y4 y5 y6 y7 y8 y9 y10)) ∧ (∀ y0 y1 y2 y3 y4 y5 y6 y7 y8 y9 y10, LeO (vinculumref13_offset.j1 k y0 y1 y2 y3 y4 y5 y6 y7 y8 y9 y10) (vinculumref13_offset.j1 (k + 1) y0 y1 y2 y3 y4 y5 y6 y7 y8 y9 y10))
 | 0 => ⟨fun _ _ _ _ _ _ _ _ _ _ _ r h => by simp [vinculumref13_offset.j0] at h, fun _ _ _ _ _ _ _ _ _ _ _ r h => by simp [vinculumref13_offset.j1] at h⟩
 | k + 1 => by
  obtain ⟨ih0, ih1⟩ := vinculumref13_offset.mono_l k
  refine ⟨?_, ?_⟩
  ·intro y0 y1 y2 y3 y4 y5 y6 y7 y8 y9 y10
   unfold vinculumref13_offset.j0
   repeat' first
   | (with_reducible exact ih0 _ _ _ _ _ _ _ _ _ _ _)
   | (with_reducible exact ih1 _ _ _ _ _ _ _ _ _ _ _)
   | (with_reducible exact LeO.refl _)
   | (with_reducible exact LeO.none _)
   | (with_reducible refine LeO.ite ?_ ?_)
   | (with_reducible refine LeO.bind ?_ (fun _ => ?_))
   | exact ih0 _ _ _ _ _ _ _ _ _ _ _
   | exact ih1 _ _ _ _ _ _ _ _ _ _ _
   | exact LeO.none _
   | refine LeO.ite ?_ ?_
   | refine LeO.bind ?_ (fun _ => ?_)
  ·intro y0 y1 y2 y3 y4 y5 y6 y7 y8 y9 y10
   unfold vinculumref13_offset.j1
   repeat' first
   | (with_reducible exact ih0 _ _ _ _ _ _ _ _ _ _ _)
   | (with_reducible exact ih1 _ _ _ _ _ _ _ _ _ _ _)
   | (with_reducible exact LeO.refl _)
   | (with_reducible exact LeO.none _)
   | (with_reducible refine LeO.ite ?_ ?_)
   | (with_reducible refine LeO.bind ?_ (fun _ => ?_))
   | exact ih0 _ _ _ _ _ _ _ _ _ _ _
   | exact ih1 _ _ _ _ _ _ _ _ _ _ _
   | exact LeO.none _
   | refine LeO.ite ?_ ?_
   | refine LeO.bind ?_ (fun _ => ?_)
theorem vinculumref13_offset.mono : ∀ a0 a1 a2 a3 a4 a5 a6 a7 a8 a9 k, LeO (vinculumref13_offset.f k a0 a1 a2 a3 a4 a5 a6 a7 a8 a9) (vinculumref13_offset.f (k + 1) a0 a1 a2 a3 a4 a5 a6 a7 a8 a9) := by
 intro a0 a1 a2 a3 a4 a5 a6 a7 a8 a9 k
 obtain ⟨ih0, ih1⟩ := vinculumref13_offset.mono_l k
 unfold vinculumref13_offset.f
 repeat' first
   | (with_reducible exact ih0 _ _ _ _ _ _ _ _ _ _ _)
   | (with_reducible exact ih1 _ _ _ _ _ _ _ _ _ _ _)
   | (with_reducible exact LeO.refl _)
   | (with_reducible exact LeO.none _)
   | (with_reducible refine LeO.ite ?_ ?_)
   | (with_reducible refine LeO.bind ?_ (fun _ => ?_))
   | exact ih0 _ _ _ _ _ _ _ _ _ _ _
   | exact ih1 _ _ _ _ _ _ _ _ _ _ _
   | exact LeO.none _
   | refine LeO.ite ?_ ?_
   | refine LeO.bind ?_ (fun _ => ?_)
set_option maxHeartbeats 8000000 in
set_option maxRecDepth 100000 in
theorem vinculumref13_offset.calls (k : Nat) (a0_0 : Int) (A0_1 : Option Addr) (c0_1 : Nat) (l0_1 : List Int) (a0_2 : Int) (a0_3 : Int) (A0_4 : Option Addr) (c0_4 : Nat) (l0_4 : List (S24)) (a0_5 : Int) (a0_6 : ByteArray) (a0_7 : ByteArray) (a1 : Int) (a2 : Bool) (r : List Int) (w : World) (hr0_1 : Kd.C (Kd.int .i64) w A0_1 l0_1.length l0_1) (hc0_1 : l0_1.length ≤ c0_1) (hr0_4 : Kd.C k24 w A0_4 l0_4.length l0_4) (hc0_4 : l0_4.length ≤ c0_4) (h : vinculumref13_offset.f k a0_0 l0_1 a0_2 a0_3 l0_4 a0_5 a0_6 a0_7 a1 a2 = some r) :
  Calls Try.prog 46 #[.agg #[.int .i64 a0_0, .slice A0_1 l0_1.length c0_1, .int .i64 a0_2, .int .i64 a0_3, .slice A0_4 l0_4.length c0_4, .int .i64 a0_5, .string a0_6, .string a0_7], .int .i64 a1, .bool a2] w fun e w' => ∃ v0_ : Value, e = .returned (v0_) ∧ Kd.R (Kd.int .i64) 3 w' w.heap.size (fun _ => True) v0_ r ∧ Below w.heap.size w w' := by
 have hu27 := Try.underlying27
 have HR0_1 := zab.mk hr0_1
 have HC0_1 := zab.mk hc0_1
 clear hr0_1 hc0_1
 have HR0_4 := zab.mk hr0_4
 have HC0_4 := zab.mk hc0_4
 clear hr0_4 hc0_4
 have HB := zab.mk (Below.refl w.heap.size w)
 have H : (if a0_0 = 1 then (if a1 > a0_2 then (some (([wrap64 (a1 + (l0_4.length : Int))] : List Int))) else (if a1 = a0_2 then (if a2 = true then (some (([wrap64 (a1 + (l0_4.length : Int))] : List Int))) else (some (([a1] : List Int)))) else (some (([a1] : List Int))))) else (if a0_0 = 2 then (if a1 > a0_2 then (vinculumref13_offset.j0 k a1 (l0_4.length : Int) (decide (a1 < (wrap64 (a0_2 + (l0_4.length : Int))))) a0_0 l0_1 a0_2 a0_3 l0_4 a0_5 a0_6 a0_7) else (vinculumref13_offset.j0 k a1 (l0_4.length : Int) false a0_0 l0_1 a0_2 a0_3 l0_4 a0_5 a0_6 a0_7)) else (if a0_0 = 3 then (if a1 > a0_2 then (vinculumref13_offset.j1 k a1 a2 (decide (a1 < (wrap64 (a0_2 + a0_3)))) a0_0 l0_1 a0_2 a0_3 l0_4 a0_5 a0_6 a0_7) else (vinculumref13_offset.j1 k a1 a2 false a0_0 l0_1 a0_2 a0_3 l0_4 a0_5 a0_6 a0_7)) else (if a0_0 = 4 then (if a1 > a0_2 then (some (([wrap64 ((wrap64 (a1 - 1)) + a0_3)] : List Int))) else (some (([a1] : List Int)))) else (some (([a1] : List Int))))))) = some r := h
 clear h
 by_cases c4 : a0_0 = 1
 ·rw [if_pos c4] at H
  have c4b0 : (a0_0 == 1) = true := beq_iff_eq.mpr c4
  have c4b1 : (a0_0 != 1) = false := bne_eq_false_iff_eq.mpr c4
  clear c4
  by_cases c5 : a1 > a0_2
  ·rw [if_pos c5] at H
   have c5b0 : decide (a0_2 < a1) = true := decide_eq_true c5
   clear c5
   obtain ⟨y542, hy542⟩ : ∃ y_ : List Int, y_ = (([wrap64 (a1 + (l0_4.length : Int))] : List Int)) := ⟨_, rfl⟩
   replace H : (some y542) = some r := by first | (rw [hy542]; with_reducible exact H) | (have H2_ := (Option.bind_some _ _).symm.trans H; rw [hy542]; with_reducible exact H2_) | (have H2_ := (Option.bind_some _ _).symm.trans H; with_reducible exact H2_) | with_reducible exact H | (rw [hy542]; exact H) | exact H
   have Ny542 := zab.mk hy542
   clear hy542
   obtain rfl := Option.some.inj H
   go_enter Try.func46, Try.ntmps46
   go_wp2_with (first | ((with_reducible refine zap (N := 3) rfl ?_); refine zar ?hg (N := 3) ?hd (cs := #[.int .i64 a0_0, .slice A0_1 l0_1.length c0_1, .int .i64 a0_2, .int .i64 a0_3, .slice A0_4 l0_4.length c0_4, .int .i64 a0_5, .string a0_6, .string a0_7]) (t := 27) ?hr ?_; (case hd => rfl); (case hg => rfl); (case hr => first | (go_simp; done) | (go_simp; rfl)); intro gb541 hg w6 hbox hb; have n0_ := zab.mk (zal (by repeat (first | (with_reducible first | exact HB.o | apply zad | apply zaf | apply zae) | exact HB.o)) hb); have n1_ := zab.mk (hbox); have n2_ := zab.mk ((by rw [hg]; exact (zak (by repeat (first | (with_reducible first | exact HB.o | apply zad | apply zaf | apply zae) | exact HB.o))) : w.heap.size ≤ gb541)); have n3_ := zab.mk ((by rw [hg]; exact (zak (by repeat (first | (with_reducible first | exact HB.o | apply zad | apply zaf | apply zae) | exact HB.o))) : w.heap.size ≤ gb541)); clear HB; have HB := n0_; have BK541 := n1_; have GW541 := n2_; have GE541 := n3_; clear n0_ n1_ n2_ n3_; clear hb hbox hg; have hcz7_0 : w6.cell? ⟨gb541, 0, none⟩ = some (.int .i64 a0_0) := (zaa BK541.o 0).trans rfl; have hcz7_1 : w6.cell? ⟨gb541, 1, none⟩ = some (.slice A0_1 l0_1.length c0_1) := (zaa BK541.o 1).trans rfl; have hcz7_2 : w6.cell? ⟨gb541, 2, none⟩ = some (.int .i64 a0_2) := (zaa BK541.o 2).trans rfl; have hcz7_3 : w6.cell? ⟨gb541, 3, none⟩ = some (.int .i64 a0_3) := (zaa BK541.o 3).trans rfl; have hcz7_4 : w6.cell? ⟨gb541, 4, none⟩ = some (.slice A0_4 l0_4.length c0_4) := (zaa BK541.o 4).trans rfl; have hcz7_5 : w6.cell? ⟨gb541, 5, none⟩ = some (.int .i64 a0_5) := (zaa BK541.o 5).trans rfl; have hcz7_6 : w6.cell? ⟨gb541, 6, none⟩ = some (.string a0_6) := (zaa BK541.o 6).trans rfl; have hcz7_7 : w6.cell? ⟨gb541, 7, none⟩ = some (.string a0_7) := (zaa BK541.o 7).trans rfl; have hfz7_0 := zac BK541.o 0; have hfz7_1 := zac BK541.o 1; have hfz7_2 := zac BK541.o 2; have hfz7_3 := zac BK541.o 3; have hfz7_4 := zac BK541.o 4; have hfz7_5 := zac BK541.o 5; have hfz7_6 := zac BK541.o 6; have hfz7_7 := zac BK541.o 7) | ((with_reducible refine zap (N := 31) rfl ?_); refine Kd.R_lit (Kd.int .i64) _ 3 ?hg (N := 31) ?hd (xs := ([wrap64 (a1 + (l0_4.length : Int))] : List Int)) (inner := [.int .i64 (wrap64 (a1 + (l0_4.length : Int)))]) (ok := fun _ => True) (okp := fun _ => True) ?hr ?hp (fun _ hk => hk) trivial (Below.refl _ _) (Nat.le_refl _) (by simp) ?_; (case hd => rfl); (case hg => rfl); (case hr => first | (go_simp; done) | (go_simp; rfl)); (case hp => exact (Reps.one (show Kd.M (Kd.int .i64) _ _ _ (wrap64 (a1 + (l0_4.length : Int))) [.int .i64 (wrap64 (a1 + (l0_4.length : Int)))] from rfl) (Reps.none _ _))); intro v543 w8 ho9 hb hg_ hnew_; clear hg_ hnew_; (first | rw [← Ny542.out] at ho9 | (simp only [Int.reduceToNat] at ho9; rw [← Ny542.out] at ho9)); have n0_ := zab.mk (Kd.R_lower ho9 (zak (by repeat (first | (with_reducible first | exact HB.o | apply zad | apply zaf | apply zae | refine zag ?_ GE541.o) | exact HB.o)))); have n1_ := zab.mk (zam (g := gb541) (o := .cells #[.int .i64 a0_0, .slice A0_1 l0_1.length c0_1, .int .i64 a0_2, .int .i64 a0_3, .slice A0_4 l0_4.length c0_4, .int .i64 a0_5, .string a0_6, .string a0_7] 27 (0, 0)) (by (with_reducible repeat (first | refine zaj ?_ _ | refine zah ?_ | refine zai ?_ _)); exact BK541.o) hb); have n2_ := zab.mk (zal (by repeat (first | (with_reducible first | exact HB.o | apply zad | apply zaf | apply zae | refine zag ?_ GE541.o) | exact HB.o)) hb); clear BK541; clear HB; have HO544 := n0_; have BK541 := n1_; have HB := n2_; clear n0_ n1_ n2_; clear hb ho9))
   go_ret
   exact ⟨_, by first | rfl | (simp [errW_none, errW_some] <;> rfl) | (simp [*, errW_none, errW_some] <;> rfl), by (with_reducible repeat (first | apply Kd.R_alloc | apply Kd.R_drewN | apply Kd.R_drew)); exact HO544.o, by repeat (first | (with_reducible first | exact HB.o | apply zad | apply zaf | apply zae | refine zag ?_ GE541.o) | exact HB.o)⟩
  ·rw [if_neg c5] at H
   have c5b0 : decide (a0_2 < a1) = false := decide_eq_false c5
   clear c5
   by_cases c10 : a1 = a0_2
   ·rw [if_pos c10] at H
    have c10b0 : (a1 == a0_2) = true := beq_iff_eq.mpr c10
    have c10b1 : (a1 != a0_2) = false := bne_eq_false_iff_eq.mpr c10
    clear c10
    by_cases c11 : a2 = true
    ·subst c11
     have H1 : (some (([wrap64 (a1 + (l0_4.length : Int))] : List Int))) = some r := by rw [if_pos rfl] at H; exact H
     clear H
     have H := H1
     clear H1
     obtain ⟨y545, hy545⟩ : ∃ y_ : List Int, y_ = (([wrap64 (a1 + (l0_4.length : Int))] : List Int)) := ⟨_, rfl⟩
     replace H : (some y545) = some r := by first | (rw [hy545]; with_reducible exact H) | (have H2_ := (Option.bind_some _ _).symm.trans H; rw [hy545]; with_reducible exact H2_) | (have H2_ := (Option.bind_some _ _).symm.trans H; with_reducible exact H2_) | with_reducible exact H | (rw [hy545]; exact H) | exact H
     have Ny545 := zab.mk hy545
     clear hy545
     obtain rfl := Option.some.inj H
     go_enter Try.func46, Try.ntmps46
     go_wp2_with (first | ((with_reducible refine zap (N := 3) rfl ?_); refine zar ?hg (N := 3) ?hd (cs := #[.int .i64 a0_0, .slice A0_1 l0_1.length c0_1, .int .i64 a0_2, .int .i64 a0_3, .slice A0_4 l0_4.length c0_4, .int .i64 a0_5, .string a0_6, .string a0_7]) (t := 27) ?hr ?_; (case hd => rfl); (case hg => rfl); (case hr => first | (go_simp; done) | (go_simp; rfl)); intro gb541 hg w12 hbox hb; have n0_ := zab.mk (zal (by repeat (first | (with_reducible first | exact HB.o | apply zad | apply zaf | apply zae) | exact HB.o)) hb); have n1_ := zab.mk (hbox); have n2_ := zab.mk ((by rw [hg]; exact (zak (by repeat (first | (with_reducible first | exact HB.o | apply zad | apply zaf | apply zae) | exact HB.o))) : w.heap.size ≤ gb541)); have n3_ := zab.mk ((by rw [hg]; exact (zak (by repeat (first | (with_reducible first | exact HB.o | apply zad | apply zaf | apply zae) | exact HB.o))) : w.heap.size ≤ gb541)); clear HB; have HB := n0_; have BK541 := n1_; have GW541 := n2_; have GE541 := n3_; clear n0_ n1_ n2_ n3_; clear hb hbox hg; have hcz13_0 : w12.cell? ⟨gb541, 0, none⟩ = some (.int .i64 a0_0) := (zaa BK541.o 0).trans rfl; have hcz13_1 : w12.cell? ⟨gb541, 1, none⟩ = some (.slice A0_1 l0_1.length c0_1) := (zaa BK541.o 1).trans rfl; have hcz13_2 : w12.cell? ⟨gb541, 2, none⟩ = some (.int .i64 a0_2) := (zaa BK541.o 2).trans rfl; have hcz13_3 : w12.cell? ⟨gb541, 3, none⟩ = some (.int .i64 a0_3) := (zaa BK541.o 3).trans rfl; have hcz13_4 : w12.cell? ⟨gb541, 4, none⟩ = some (.slice A0_4 l0_4.length c0_4) := (zaa BK541.o 4).trans rfl; have hcz13_5 : w12.cell? ⟨gb541, 5, none⟩ = some (.int .i64 a0_5) := (zaa BK541.o 5).trans rfl; have hcz13_6 : w12.cell? ⟨gb541, 6, none⟩ = some (.string a0_6) := (zaa BK541.o 6).trans rfl; have hcz13_7 : w12.cell? ⟨gb541, 7, none⟩ = some (.string a0_7) := (zaa BK541.o 7).trans rfl; have hfz13_0 := zac BK541.o 0; have hfz13_1 := zac BK541.o 1; have hfz13_2 := zac BK541.o 2; have hfz13_3 := zac BK541.o 3; have hfz13_4 := zac BK541.o 4; have hfz13_5 := zac BK541.o 5; have hfz13_6 := zac BK541.o 6; have hfz13_7 := zac BK541.o 7) | ((with_reducible refine zap (N := 31) rfl ?_); refine Kd.R_lit (Kd.int .i64) _ 3 ?hg (N := 31) ?hd (xs := ([wrap64 (a1 + (l0_4.length : Int))] : List Int)) (inner := [.int .i64 (wrap64 (a1 + (l0_4.length : Int)))]) (ok := fun _ => True) (okp := fun _ => True) ?hr ?hp (fun _ hk => hk) trivial (Below.refl _ _) (Nat.le_refl _) (by simp) ?_; (case hd => rfl); (case hg => rfl); (case hr => first | (go_simp; done) | (go_simp; rfl)); (case hp => exact (Reps.one (show Kd.M (Kd.int .i64) _ _ _ (wrap64 (a1 + (l0_4.length : Int))) [.int .i64 (wrap64 (a1 + (l0_4.length : Int)))] from rfl) (Reps.none _ _))); intro v546 w14 ho15 hb hg_ hnew_; clear hg_ hnew_; (first | rw [← Ny545.out] at ho15 | (simp only [Int.reduceToNat] at ho15; rw [← Ny545.out] at ho15)); have n0_ := zab.mk (Kd.R_lower ho15 (zak (by repeat (first | (with_reducible first | exact HB.o | apply zad | apply zaf | apply zae | refine zag ?_ GE541.o) | exact HB.o)))); have n1_ := zab.mk (zam (g := gb541) (o := .cells #[.int .i64 a0_0, .slice A0_1 l0_1.length c0_1, .int .i64 a0_2, .int .i64 a0_3, .slice A0_4 l0_4.length c0_4, .int .i64 a0_5, .string a0_6, .string a0_7] 27 (0, 0)) (by (with_reducible repeat (first | refine zaj ?_ _ | refine zah ?_ | refine zai ?_ _)); exact BK541.o) hb); have n2_ := zab.mk (zal (by repeat (first | (with_reducible first | exact HB.o | apply zad | apply zaf | apply zae | refine zag ?_ GE541.o) | exact HB.o)) hb); clear BK541; clear HB; have HO547 := n0_; have BK541 := n1_; have HB := n2_; clear n0_ n1_ n2_; clear hb ho15))
     go_ret
     exact ⟨_, by first | rfl | (simp [errW_none, errW_some] <;> rfl) | (simp [*, errW_none, errW_some] <;> rfl), by (with_reducible repeat (first | apply Kd.R_alloc | apply Kd.R_drewN | apply Kd.R_drew)); exact HO547.o, by repeat (first | (with_reducible first | exact HB.o | apply zad | apply zaf | apply zae | refine zag ?_ GE541.o) | exact HB.o)⟩
    ·replace c11 := Bool.eq_false_iff.mpr c11
     subst c11
     have H1 : (some (([a1] : List Int))) = some r := by rw [if_neg (show ¬ (false = true) by decide)] at H; exact H
     clear H
     have H := H1
     clear H1
     obtain ⟨y548, hy548⟩ : ∃ y_ : List Int, y_ = (([a1] : List Int)) := ⟨_, rfl⟩
     replace H : (some y548) = some r := by first | (rw [hy548]; with_reducible exact H) | (have H2_ := (Option.bind_some _ _).symm.trans H; rw [hy548]; with_reducible exact H2_) | (have H2_ := (Option.bind_some _ _).symm.trans H; with_reducible exact H2_) | with_reducible exact H | (rw [hy548]; exact H) | exact H
     have Ny548 := zab.mk hy548
     clear hy548
     obtain rfl := Option.some.inj H
     go_enter Try.func46, Try.ntmps46
     go_wp2_with (first | ((with_reducible refine zap (N := 3) rfl ?_); refine zar ?hg (N := 3) ?hd (cs := #[.int .i64 a0_0, .slice A0_1 l0_1.length c0_1, .int .i64 a0_2, .int .i64 a0_3, .slice A0_4 l0_4.length c0_4, .int .i64 a0_5, .string a0_6, .string a0_7]) (t := 27) ?hr ?_; (case hd => rfl); (case hg => rfl); (case hr => first | (go_simp; done) | (go_simp; rfl)); intro gb541 hg w16 hbox hb; have n0_ := zab.mk (zal (by repeat (first | (with_reducible first | exact HB.o | apply zad | apply zaf | apply zae) | exact HB.o)) hb); have n1_ := zab.mk (hbox); have n2_ := zab.mk ((by rw [hg]; exact (zak (by repeat (first | (with_reducible first | exact HB.o | apply zad | apply zaf | apply zae) | exact HB.o))) : w.heap.size ≤ gb541)); have n3_ := zab.mk ((by rw [hg]; exact (zak (by repeat (first | (with_reducible first | exact HB.o | apply zad | apply zaf | apply zae) | exact HB.o))) : w.heap.size ≤ gb541)); clear HB; have HB := n0_; have BK541 := n1_; have GW541 := n2_; have GE541 := n3_; clear n0_ n1_ n2_ n3_; clear hb hbox hg; have hcz17_0 : w16.cell? ⟨gb541, 0, none⟩ = some (.int .i64 a0_0) := (zaa BK541.o 0).trans rfl; have hcz17_1 : w16.cell? ⟨gb541, 1, none⟩ = some (.slice A0_1 l0_1.length c0_1) := (zaa BK541.o 1).trans rfl; have hcz17_2 : w16.cell? ⟨gb541, 2, none⟩ = some (.int .i64 a0_2) := (zaa BK541.o 2).trans rfl; have hcz17_3 : w16.cell? ⟨gb541, 3, none⟩ = some (.int .i64 a0_3) := (zaa BK541.o 3).trans rfl; have hcz17_4 : w16.cell? ⟨gb541, 4, none⟩ = some (.slice A0_4 l0_4.length c0_4) := (zaa BK541.o 4).trans rfl; have hcz17_5 : w16.cell? ⟨gb541, 5, none⟩ = some (.int .i64 a0_5) := (zaa BK541.o 5).trans rfl; have hcz17_6 : w16.cell? ⟨gb541, 6, none⟩ = some (.string a0_6) := (zaa BK541.o 6).trans rfl; have hcz17_7 : w16.cell? ⟨gb541, 7, none⟩ = some (.string a0_7) := (zaa BK541.o 7).trans rfl; have hfz17_0 := zac BK541.o 0; have hfz17_1 := zac BK541.o 1; have hfz17_2 := zac BK541.o 2; have hfz17_3 := zac BK541.o 3; have hfz17_4 := zac BK541.o 4; have hfz17_5 := zac BK541.o 5; have hfz17_6 := zac BK541.o 6; have hfz17_7 := zac BK541.o 7) | ((with_reducible refine zap (N := 120) rfl ?_); refine Kd.R_lit (Kd.int .i64) _ 3 ?hg (N := 120) ?hd (xs := ([a1] : List Int)) (inner := [.int .i64 a1]) (ok := fun _ => True) (okp := fun _ => True) ?hr ?hp (fun _ hk => hk) trivial (Below.refl _ _) (Nat.le_refl _) (by simp) ?_; (case hd => rfl); (case hg => rfl); (case hr => first | (go_simp; done) | (go_simp; rfl)); (case hp => exact (Reps.one (show Kd.M (Kd.int .i64) _ _ _ a1 [.int .i64 a1] from rfl) (Reps.none _ _))); intro v549 w18 ho19 hb hg_ hnew_; clear hg_ hnew_; (first | rw [← Ny548.out] at ho19 | (simp only [Int.reduceToNat] at ho19; rw [← Ny548.out] at ho19)); have n0_ := zab.mk (Kd.R_lower ho19 (zak (by repeat (first | (with_reducible first | exact HB.o | apply zad | apply zaf | apply zae | refine zag ?_ GE541.o) | exact HB.o)))); have n1_ := zab.mk (zam (g := gb541) (o := .cells #[.int .i64 a0_0, .slice A0_1 l0_1.length c0_1, .int .i64 a0_2, .int .i64 a0_3, .slice A0_4 l0_4.length c0_4, .int .i64 a0_5, .string a0_6, .string a0_7] 27 (0, 0)) (by (with_reducible repeat (first | refine zaj ?_ _ | refine zah ?_ | refine zai ?_ _)); exact BK541.o) hb); have n2_ := zab.mk (zal (by repeat (first | (with_reducible first | exact HB.o | apply zad | apply zaf | apply zae | refine zag ?_ GE541.o) | exact HB.o)) hb); clear BK541; clear HB; have HO550 := n0_; have BK541 := n1_; have HB := n2_; clear n0_ n1_ n2_; clear hb ho19))
     go_ret
     exact ⟨_, by first | rfl | (simp [errW_none, errW_some] <;> rfl) | (simp [*, errW_none, errW_some] <;> rfl), by (with_reducible repeat (first | apply Kd.R_alloc | apply Kd.R_drewN | apply Kd.R_drew)); exact HO550.o, by repeat (first | (with_reducible first | exact HB.o | apply zad | apply zaf | apply zae | refine zag ?_ GE541.o) | exact HB.o)⟩
   ·rw [if_neg c10] at H
    have c10b0 : (a1 == a0_2) = false := beq_eq_false_iff_ne.mpr c10
    have c10b1 : (a1 != a0_2) = true := bne_iff_ne.mpr c10
    obtain ⟨y551, hy551⟩ : ∃ y_ : List Int, y_ = (([a1] : List Int)) := ⟨_, rfl⟩
    replace H : (some y551) = some r := by first | (rw [hy551]; with_reducible exact H) | (have H2_ := (Option.bind_some _ _).symm.trans H; rw [hy551]; with_reducible exact H2_) | (have H2_ := (Option.bind_some _ _).symm.trans H; with_reducible exact H2_) | with_reducible exact H | (rw [hy551]; exact H) | exact H
    have Ny551 := zab.mk hy551
    clear hy551
    obtain rfl := Option.some.inj H
    go_enter Try.func46, Try.ntmps46
    go_wp2_with (first | ((with_reducible refine zap (N := 3) rfl ?_); refine zar ?hg (N := 3) ?hd (cs := #[.int .i64 a0_0, .slice A0_1 l0_1.length c0_1, .int .i64 a0_2, .int .i64 a0_3, .slice A0_4 l0_4.length c0_4, .int .i64 a0_5, .string a0_6, .string a0_7]) (t := 27) ?hr ?_; (case hd => rfl); (case hg => rfl); (case hr => first | (go_simp; done) | (go_simp; rfl)); intro gb541 hg w20 hbox hb; have n0_ := zab.mk (zal (by repeat (first | (with_reducible first | exact HB.o | apply zad | apply zaf | apply zae) | exact HB.o)) hb); have n1_ := zab.mk (hbox); have n2_ := zab.mk ((by rw [hg]; exact (zak (by repeat (first | (with_reducible first | exact HB.o | apply zad | apply zaf | apply zae) | exact HB.o))) : w.heap.size ≤ gb541)); have n3_ := zab.mk ((by rw [hg]; exact (zak (by repeat (first | (with_reducible first | exact HB.o | apply zad | apply zaf | apply zae) | exact HB.o))) : w.heap.size ≤ gb541)); clear HB; have HB := n0_; have BK541 := n1_; have GW541 := n2_; have GE541 := n3_; clear n0_ n1_ n2_ n3_; clear hb hbox hg; have hcz21_0 : w20.cell? ⟨gb541, 0, none⟩ = some (.int .i64 a0_0) := (zaa BK541.o 0).trans rfl; have hcz21_1 : w20.cell? ⟨gb541, 1, none⟩ = some (.slice A0_1 l0_1.length c0_1) := (zaa BK541.o 1).trans rfl; have hcz21_2 : w20.cell? ⟨gb541, 2, none⟩ = some (.int .i64 a0_2) := (zaa BK541.o 2).trans rfl; have hcz21_3 : w20.cell? ⟨gb541, 3, none⟩ = some (.int .i64 a0_3) := (zaa BK541.o 3).trans rfl; have hcz21_4 : w20.cell? ⟨gb541, 4, none⟩ = some (.slice A0_4 l0_4.length c0_4) := (zaa BK541.o 4).trans rfl; have hcz21_5 : w20.cell? ⟨gb541, 5, none⟩ = some (.int .i64 a0_5) := (zaa BK541.o 5).trans rfl; have hcz21_6 : w20.cell? ⟨gb541, 6, none⟩ = some (.string a0_6) := (zaa BK541.o 6).trans rfl; have hcz21_7 : w20.cell? ⟨gb541, 7, none⟩ = some (.string a0_7) := (zaa BK541.o 7).trans rfl; have hfz21_0 := zac BK541.o 0; have hfz21_1 := zac BK541.o 1; have hfz21_2 := zac BK541.o 2; have hfz21_3 := zac BK541.o 3; have hfz21_4 := zac BK541.o 4; have hfz21_5 := zac BK541.o 5; have hfz21_6 := zac BK541.o 6; have hfz21_7 := zac BK541.o 7) | ((with_reducible refine zap (N := 120) rfl ?_); refine Kd.R_lit (Kd.int .i64) _ 3 ?hg (N := 120) ?hd (xs := ([a1] : List Int)) (inner := [.int .i64 a1]) (ok := fun _ => True) (okp := fun _ => True) ?hr ?hp (fun _ hk => hk) trivial (Below.refl _ _) (Nat.le_refl _) (by simp) ?_; (case hd => rfl); (case hg => rfl); (case hr => first | (go_simp; done) | (go_simp; rfl)); (case hp => exact (Reps.one (show Kd.M (Kd.int .i64) _ _ _ a1 [.int .i64 a1] from rfl) (Reps.none _ _))); intro v552 w22 ho23 hb hg_ hnew_; clear hg_ hnew_; (first | rw [← Ny551.out] at ho23 | (simp only [Int.reduceToNat] at ho23; rw [← Ny551.out] at ho23)); have n0_ := zab.mk (Kd.R_lower ho23 (zak (by repeat (first | (with_reducible first | exact HB.o | apply zad | apply zaf | apply zae | refine zag ?_ GE541.o) | exact HB.o)))); have n1_ := zab.mk (zam (g := gb541) (o := .cells #[.int .i64 a0_0, .slice A0_1 l0_1.length c0_1, .int .i64 a0_2, .int .i64 a0_3, .slice A0_4 l0_4.length c0_4, .int .i64 a0_5, .string a0_6, .string a0_7] 27 (0, 0)) (by (with_reducible repeat (first | refine zaj ?_ _ | refine zah ?_ | refine zai ?_ _)); exact BK541.o) hb); have n2_ := zab.mk (zal (by repeat (first | (with_reducible first | exact HB.o | apply zad | apply zaf | apply zae | refine zag ?_ GE541.o) | exact HB.o)) hb); clear BK541; clear HB; have HO553 := n0_; have BK541 := n1_; have HB := n2_; clear n0_ n1_ n2_; clear hb ho23))
    go_ret
    exact ⟨_, by first | rfl | (simp [errW_none, errW_some] <;> rfl) | (simp [*, errW_none, errW_some] <;> rfl), by (with_reducible repeat (first | apply Kd.R_alloc | apply Kd.R_drewN | apply Kd.R_drew)); exact HO553.o, by repeat (first | (with_reducible first | exact HB.o | apply zad | apply zaf | apply zae | refine zag ?_ GE541.o) | exact HB.o)⟩
 ·rw [if_neg c4] at H
  have c4b0 : (a0_0 == 1) = false := beq_eq_false_iff_ne.mpr c4
  have c4b1 : (a0_0 != 1) = true := bne_iff_ne.mpr c4
  by_cases c24 : a0_0 = 2
  ·rw [if_pos c24] at H
   have c24b0 : (a0_0 == 2) = true := beq_iff_eq.mpr c24
   have c24b1 : (a0_0 != 2) = false := bne_eq_false_iff_eq.mpr c24
   clear c24
   have HC25 := zab.mk H
   clear H
   go_enter Try.func46, Try.ntmps46
   go_upto_region 7 with (first | ((with_reducible refine zap (N := 3) rfl ?_); refine zar ?hg (N := 3) ?hd (cs := #[.int .i64 a0_0, .slice A0_1 l0_1.length c0_1, .int .i64 a0_2, .int .i64 a0_3, .slice A0_4 l0_4.length c0_4, .int .i64 a0_5, .string a0_6, .string a0_7]) (t := 27) ?hr ?_; (case hd => rfl); (case hg => rfl); (case hr => first | (go_simp; done) | (go_simp; rfl)); intro gb541 hg w26 hbox hb; have n0_ := zab.mk (zal (by repeat (first | (with_reducible first | exact HB.o | apply zad | apply zaf | apply zae) | exact HB.o)) hb); have n1_ := zab.mk (hbox); have n2_ := zab.mk ((by rw [hg]; exact (zak (by repeat (first | (with_reducible first | exact HB.o | apply zad | apply zaf | apply zae) | exact HB.o))) : w.heap.size ≤ gb541)); have n3_ := zab.mk ((by rw [hg]; exact (zak (by repeat (first | (with_reducible first | exact HB.o | apply zad | apply zaf | apply zae) | exact HB.o))) : w.heap.size ≤ gb541)); clear HB; have HB := n0_; have BK541 := n1_; have GW541 := n2_; have GE541 := n3_; clear n0_ n1_ n2_ n3_; clear hb hbox hg; have hcz27_0 : w26.cell? ⟨gb541, 0, none⟩ = some (.int .i64 a0_0) := (zaa BK541.o 0).trans rfl; have hcz27_1 : w26.cell? ⟨gb541, 1, none⟩ = some (.slice A0_1 l0_1.length c0_1) := (zaa BK541.o 1).trans rfl; have hcz27_2 : w26.cell? ⟨gb541, 2, none⟩ = some (.int .i64 a0_2) := (zaa BK541.o 2).trans rfl; have hcz27_3 : w26.cell? ⟨gb541, 3, none⟩ = some (.int .i64 a0_3) := (zaa BK541.o 3).trans rfl; have hcz27_4 : w26.cell? ⟨gb541, 4, none⟩ = some (.slice A0_4 l0_4.length c0_4) := (zaa BK541.o 4).trans rfl; have hcz27_5 : w26.cell? ⟨gb541, 5, none⟩ = some (.int .i64 a0_5) := (zaa BK541.o 5).trans rfl; have hcz27_6 : w26.cell? ⟨gb541, 6, none⟩ = some (.string a0_6) := (zaa BK541.o 6).trans rfl; have hcz27_7 : w26.cell? ⟨gb541, 7, none⟩ = some (.string a0_7) := (zaa BK541.o 7).trans rfl; have hfz27_0 := zac BK541.o 0; have hfz27_1 := zac BK541.o 1; have hfz27_2 := zac BK541.o 2; have hfz27_3 := zac BK541.o 3; have hfz27_4 := zac BK541.o 4; have hfz27_5 := zac BK541.o 5; have hfz27_6 := zac BK541.o 6; have hfz27_7 := zac BK541.o 7))
   (try simp only [Act.put, List.setIfInBounds_toArray, List.set_cons_zero, List.set_cons_succ])
   go_cut [45] (fun v45 wc => ∃ (kq : Nat) (x45_24 : Bool), v45 = .bool x45_24 ∧ zab (vinculumref13_offset.j0 kq a1 (l0_4.length : Int) x45_24 a0_0 l0_1 a0_2 a0_3 l0_4 a0_5 a0_6 a0_7 = some r) ∧ zab (kq ≤ k) ∧ zab (wc.heap[gb541]? = some (.cells #[.int .i64 a0_0, (.slice A0_1 l0_1.length c0_1), .int .i64 a0_2, .int .i64 a0_3, (.slice A0_4 l0_4.length c0_4), .int .i64 a0_5, .string a0_6, .string a0_7] 27 (0, 0))) ∧ zab (Below w.heap.size w wc))
   case first =>
    have H := HC25.out
    clear HC25
    by_cases c28 : a1 > a0_2
    ·rw [if_pos c28] at H
     have c28b0 : decide (a0_2 < a1) = true := decide_eq_true c28
     clear c28
     (first | rw [c28b0] | (simp only [i64_w, i32_w]; rw [c28b0]) | skip)
     have H' := zab.mk H
     clear H
     have hcz29_0 : w26.cell? ⟨gb541, 0, none⟩ = some (.int .i64 a0_0) := (zaa BK541.o 0).trans rfl
     have hcz29_1 : w26.cell? ⟨gb541, 1, none⟩ = some (.slice A0_1 l0_1.length c0_1) := (zaa BK541.o 1).trans rfl
     have hcz29_2 : w26.cell? ⟨gb541, 2, none⟩ = some (.int .i64 a0_2) := (zaa BK541.o 2).trans rfl
     have hcz29_3 : w26.cell? ⟨gb541, 3, none⟩ = some (.int .i64 a0_3) := (zaa BK541.o 3).trans rfl
     have hcz29_4 : w26.cell? ⟨gb541, 4, none⟩ = some (.slice A0_4 l0_4.length c0_4) := (zaa BK541.o 4).trans rfl
     have hcz29_5 : w26.cell? ⟨gb541, 5, none⟩ = some (.int .i64 a0_5) := (zaa BK541.o 5).trans rfl
     have hcz29_6 : w26.cell? ⟨gb541, 6, none⟩ = some (.string a0_6) := (zaa BK541.o 6).trans rfl
     have hcz29_7 : w26.cell? ⟨gb541, 7, none⟩ = some (.string a0_7) := (zaa BK541.o 7).trans rfl
     have hfz29_0 := zac BK541.o 0
     have hfz29_1 := zac BK541.o 1
     have hfz29_2 := zac BK541.o 2
     have hfz29_3 := zac BK541.o 3
     have hfz29_4 := zac BK541.o 4
     have hfz29_5 := zac BK541.o 5
     have hfz29_6 := zac BK541.o 6
     have hfz29_7 := zac BK541.o 7
     go_wp2
     go_meet
     case rel => exact ⟨_, (decide (a1 < (wrap64 (a0_2 + (l0_4.length : Int))))), (by first | rfl | (simp; done) | (simp [*]; done)), H', ⟨by first | omega | exact Nat.le_refl _⟩, ⟨by (with_reducible repeat (first | refine zaj ?_ _ | refine zah ?_ | refine zai ?_ _)); exact BK541.o⟩, ⟨by repeat (first | (with_reducible first | exact HB.o | apply zad | apply zaf | apply zae | refine zag ?_ GE541.o) | exact HB.o)⟩⟩
    ·rw [if_neg c28] at H
     have c28b0 : decide (a0_2 < a1) = false := decide_eq_false c28
     clear c28
     (first | rw [c28b0] | (simp only [i64_w, i32_w]; rw [c28b0]) | skip)
     have H' := zab.mk H
     clear H
     have hcz30_0 : w26.cell? ⟨gb541, 0, none⟩ = some (.int .i64 a0_0) := (zaa BK541.o 0).trans rfl
     have hcz30_1 : w26.cell? ⟨gb541, 1, none⟩ = some (.slice A0_1 l0_1.length c0_1) := (zaa BK541.o 1).trans rfl
     have hcz30_2 : w26.cell? ⟨gb541, 2, none⟩ = some (.int .i64 a0_2) := (zaa BK541.o 2).trans rfl
     have hcz30_3 : w26.cell? ⟨gb541, 3, none⟩ = some (.int .i64 a0_3) := (zaa BK541.o 3).trans rfl
     have hcz30_4 : w26.cell? ⟨gb541, 4, none⟩ = some (.slice A0_4 l0_4.length c0_4) := (zaa BK541.o 4).trans rfl
     have hcz30_5 : w26.cell? ⟨gb541, 5, none⟩ = some (.int .i64 a0_5) := (zaa BK541.o 5).trans rfl
     have hcz30_6 : w26.cell? ⟨gb541, 6, none⟩ = some (.string a0_6) := (zaa BK541.o 6).trans rfl
     have hcz30_7 : w26.cell? ⟨gb541, 7, none⟩ = some (.string a0_7) := (zaa BK541.o 7).trans rfl
     have hfz30_0 := zac BK541.o 0
     have hfz30_1 := zac BK541.o 1
     have hfz30_2 := zac BK541.o 2
     have hfz30_3 := zac BK541.o 3
     have hfz30_4 := zac BK541.o 4
     have hfz30_5 := zac BK541.o 5
     have hfz30_6 := zac BK541.o 6
     have hfz30_7 := zac BK541.o 7
     go_wp2
     go_meet
     case rel => exact ⟨_, (false), (by first | rfl | (simp; done) | (simp [*]; done)), H', ⟨by first | omega | exact Nat.le_refl _⟩, ⟨by (with_reducible repeat (first | refine zaj ?_ _ | refine zah ?_ | refine zai ?_ _)); exact BK541.o⟩, ⟨by repeat (first | (with_reducible first | exact HB.o | apply zad | apply zaf | apply zae | refine zag ?_ GE541.o) | exact HB.o)⟩⟩
   case rest =>
    clear HC25
    try clear c1
    try clear c2
    try clear p2
    try clear c4
    try clear c4b0
    try clear c4b1
    try clear c5
    try clear c5b0
    try clear p6
    try clear c10
    try clear c10b0
    try clear c10b1
    try clear c11
    try clear c24
    try clear c24b0
    try clear c24b1
    try clear c28
    try clear c28b0
    try clear hcz13_0
    try clear hcz13_1
    try clear hcz13_2
    try clear hcz13_3
    try clear hcz13_4
    try clear hcz13_5
    try clear hcz13_6
    try clear hcz13_7
    try clear hcz17_0
    try clear hcz17_1
    try clear hcz17_2
    try clear hcz17_3
    try clear hcz17_4
    try clear hcz17_5
    try clear hcz17_6
    try clear hcz17_7
    try clear hcz21_0
    try clear hcz21_1
    try clear hcz21_2
    try clear hcz21_3
    try clear hcz21_4
    try clear hcz21_5
    try clear hcz21_6
    try clear hcz21_7
    try clear hcz27_0
    try clear hcz27_1
    try clear hcz27_2
    try clear hcz27_3
    try clear hcz27_4
    try clear hcz27_5
    try clear hcz27_6
    try clear hcz27_7
    try clear hcz29_0
    try clear hcz29_1
    try clear hcz29_2
    try clear hcz29_3
    try clear hcz29_4
    try clear hcz29_5
    try clear hcz29_6
    try clear hcz29_7
    try clear hcz30_0
    try clear hcz30_1
    try clear hcz30_2
    try clear hcz30_3
    try clear hcz30_4
    try clear hcz30_5
    try clear hcz30_6
    try clear hcz30_7
    try clear hcz7_0
    try clear hcz7_1
    try clear hcz7_2
    try clear hcz7_3
    try clear hcz7_4
    try clear hcz7_5
    try clear hcz7_6
    try clear hcz7_7
    try clear hfz13_0
    try clear hfz13_1
    try clear hfz13_2
    try clear hfz13_3
    try clear hfz13_4
    try clear hfz13_5
    try clear hfz13_6
    try clear hfz13_7
    try clear hfz17_0
    try clear hfz17_1
    try clear hfz17_2
    try clear hfz17_3
    try clear hfz17_4
    try clear hfz17_5
    try clear hfz17_6
    try clear hfz17_7
    try clear hfz21_0
    try clear hfz21_1
    try clear hfz21_2
    try clear hfz21_3
    try clear hfz21_4
    try clear hfz21_5
    try clear hfz21_6
    try clear hfz21_7
    try clear hfz27_0
    try clear hfz27_1
    try clear hfz27_2
    try clear hfz27_3
    try clear hfz27_4
    try clear hfz27_5
    try clear hfz27_6
    try clear hfz27_7
    try clear hfz29_0
    try clear hfz29_1
    try clear hfz29_2
    try clear hfz29_3
    try clear hfz29_4
    try clear hfz29_5
    try clear hfz29_6
    try clear hfz29_7
    try clear hfz30_0
    try clear hfz30_1
    try clear hfz30_2
    try clear hfz30_3
    try clear hfz30_4
    try clear hfz30_5
    try clear hfz30_6
    try clear hfz30_7
    try clear hfz7_0
    try clear hfz7_1
    try clear hfz7_2
    try clear hfz7_3
    try clear hfz7_4
    try clear hfz7_5
    try clear hfz7_6
    try clear hfz7_7
    obtain ⟨kq, x45_24, rfl, HA, HJ24, BK541, HB⟩ := hcut
    cases kq with
    | zero => exact absurd HA.o (by simp [vinculumref13_offset.j0])
    | succ kj24 =>
     have H := HA.o
     clear HA
     simp only [vinculumref13_offset.j0] at H
     by_cases c31 : x45_24 = true
     ·subst c31
      have H1 : (some (([a0_2] : List Int))) = some r := by rw [if_pos rfl] at H; exact H
      clear H
      have H := H1
      clear H1
      obtain ⟨y554, hy554⟩ : ∃ y_ : List Int, y_ = (([a0_2] : List Int)) := ⟨_, rfl⟩
      replace H : (some y554) = some r := by first | (rw [hy554]; with_reducible exact H) | (have H2_ := (Option.bind_some _ _).symm.trans H; rw [hy554]; with_reducible exact H2_) | (have H2_ := (Option.bind_some _ _).symm.trans H; with_reducible exact H2_) | with_reducible exact H | (rw [hy554]; exact H) | exact H
      have Ny554 := zab.mk hy554
      clear hy554
      obtain rfl := Option.some.inj H
      have hcz32_0 : wc.cell? ⟨gb541, 0, none⟩ = some (.int .i64 a0_0) := (zaa BK541.o 0).trans rfl
      have hcz32_1 : wc.cell? ⟨gb541, 1, none⟩ = some (.slice A0_1 l0_1.length c0_1) := (zaa BK541.o 1).trans rfl
      have hcz32_2 : wc.cell? ⟨gb541, 2, none⟩ = some (.int .i64 a0_2) := (zaa BK541.o 2).trans rfl
      have hcz32_3 : wc.cell? ⟨gb541, 3, none⟩ = some (.int .i64 a0_3) := (zaa BK541.o 3).trans rfl
      have hcz32_4 : wc.cell? ⟨gb541, 4, none⟩ = some (.slice A0_4 l0_4.length c0_4) := (zaa BK541.o 4).trans rfl
      have hcz32_5 : wc.cell? ⟨gb541, 5, none⟩ = some (.int .i64 a0_5) := (zaa BK541.o 5).trans rfl
      have hcz32_6 : wc.cell? ⟨gb541, 6, none⟩ = some (.string a0_6) := (zaa BK541.o 6).trans rfl
      have hcz32_7 : wc.cell? ⟨gb541, 7, none⟩ = some (.string a0_7) := (zaa BK541.o 7).trans rfl
      have hfz32_0 := zac BK541.o 0
      have hfz32_1 := zac BK541.o 1
      have hfz32_2 := zac BK541.o 2
      have hfz32_3 := zac BK541.o 3
      have hfz32_4 := zac BK541.o 4
      have hfz32_5 := zac BK541.o 5
      have hfz32_6 := zac BK541.o 6
      have hfz32_7 := zac BK541.o 7
      go_wp2_with (first | ((with_reducible refine zap (N := 48) rfl ?_); refine Kd.R_lit (Kd.int .i64) _ 3 ?hg (N := 48) ?hd (xs := ([a0_2] : List Int)) (inner := [.int .i64 a0_2]) (ok := fun _ => True) (okp := fun _ => True) ?hr ?hp (fun _ hk => hk) trivial (Below.refl _ _) (Nat.le_refl _) (by simp) ?_; (case hd => rfl); (case hg => rfl); (case hr => first | (go_simp; done) | (go_simp; rfl)); (case hp => exact (Reps.one (show Kd.M (Kd.int .i64) _ _ _ a0_2 [.int .i64 a0_2] from rfl) (Reps.none _ _))); intro v555 w33 ho34 hb hg_ hnew_; clear hg_ hnew_; (first | rw [← Ny554.out] at ho34 | (simp only [Int.reduceToNat] at ho34; rw [← Ny554.out] at ho34)); have n0_ := zab.mk (Kd.R_lower ho34 (zak (by repeat (first | (with_reducible first | exact HB.o | apply zad | apply zaf | apply zae | refine zag ?_ GE541.o) | exact HB.o)))); have n1_ := zab.mk (zam (g := gb541) (o := .cells #[.int .i64 a0_0, .slice A0_1 l0_1.length c0_1, .int .i64 a0_2, .int .i64 a0_3, .slice A0_4 l0_4.length c0_4, .int .i64 a0_5, .string a0_6, .string a0_7] 27 (0, 0)) (by (with_reducible repeat (first | refine zaj ?_ _ | refine zah ?_ | refine zai ?_ _)); exact BK541.o) hb); have n2_ := zab.mk (zal (by repeat (first | (with_reducible first | exact HB.o | apply zad | apply zaf | apply zae | refine zag ?_ GE541.o) | exact HB.o)) hb); clear BK541; clear HB; have HO556 := n0_; have BK541 := n1_; have HB := n2_; clear n0_ n1_ n2_; clear hb ho34))
      go_ret
      exact ⟨_, by first | rfl | (simp [errW_none, errW_some] <;> rfl) | (simp [*, errW_none, errW_some] <;> rfl), by (with_reducible repeat (first | apply Kd.R_alloc | apply Kd.R_drewN | apply Kd.R_drew)); exact HO556.o, by repeat (first | (with_reducible first | exact HB.o | apply zad | apply zaf | apply zae | refine zag ?_ GE541.o) | exact HB.o)⟩
     ·replace c31 := Bool.eq_false_iff.mpr c31
      subst c31
      have H1 : (if a1 > a0_2 then (some (([wrap64 (a1 - (l0_4.length : Int))] : List Int))) else (some (([a1] : List Int)))) = some r := by rw [if_neg (show ¬ (false = true) by decide)] at H; exact H
      clear H
      have H := H1
      clear H1
      by_cases c35 : a1 > a0_2
      ·rw [if_pos c35] at H
       have c35b0 : decide (a0_2 < a1) = true := decide_eq_true c35
       clear c35
       obtain ⟨y557, hy557⟩ : ∃ y_ : List Int, y_ = (([wrap64 (a1 - (l0_4.length : Int))] : List Int)) := ⟨_, rfl⟩
       replace H : (some y557) = some r := by first | (rw [hy557]; with_reducible exact H) | (have H2_ := (Option.bind_some _ _).symm.trans H; rw [hy557]; with_reducible exact H2_) | (have H2_ := (Option.bind_some _ _).symm.trans H; with_reducible exact H2_) | with_reducible exact H | (rw [hy557]; exact H) | exact H
       have Ny557 := zab.mk hy557
       clear hy557
       obtain rfl := Option.some.inj H
       have hcz36_0 : wc.cell? ⟨gb541, 0, none⟩ = some (.int .i64 a0_0) := (zaa BK541.o 0).trans rfl
       have hcz36_1 : wc.cell? ⟨gb541, 1, none⟩ = some (.slice A0_1 l0_1.length c0_1) := (zaa BK541.o 1).trans rfl
       have hcz36_2 : wc.cell? ⟨gb541, 2, none⟩ = some (.int .i64 a0_2) := (zaa BK541.o 2).trans rfl
       have hcz36_3 : wc.cell? ⟨gb541, 3, none⟩ = some (.int .i64 a0_3) := (zaa BK541.o 3).trans rfl
       have hcz36_4 : wc.cell? ⟨gb541, 4, none⟩ = some (.slice A0_4 l0_4.length c0_4) := (zaa BK541.o 4).trans rfl
       have hcz36_5 : wc.cell? ⟨gb541, 5, none⟩ = some (.int .i64 a0_5) := (zaa BK541.o 5).trans rfl
       have hcz36_6 : wc.cell? ⟨gb541, 6, none⟩ = some (.string a0_6) := (zaa BK541.o 6).trans rfl
       have hcz36_7 : wc.cell? ⟨gb541, 7, none⟩ = some (.string a0_7) := (zaa BK541.o 7).trans rfl
       have hfz36_0 := zac BK541.o 0
       have hfz36_1 := zac BK541.o 1
       have hfz36_2 := zac BK541.o 2
       have hfz36_3 := zac BK541.o 3
       have hfz36_4 := zac BK541.o 4
       have hfz36_5 := zac BK541.o 5
       have hfz36_6 := zac BK541.o 6
       have hfz36_7 := zac BK541.o 7
       go_wp2_with (first | ((with_reducible refine zap (N := 56) rfl ?_); refine Kd.R_lit (Kd.int .i64) _ 3 ?hg (N := 56) ?hd (xs := ([wrap64 (a1 - (l0_4.length : Int))] : List Int)) (inner := [.int .i64 (wrap64 (a1 - (l0_4.length : Int)))]) (ok := fun _ => True) (okp := fun _ => True) ?hr ?hp (fun _ hk => hk) trivial (Below.refl _ _) (Nat.le_refl _) (by simp) ?_; (case hd => rfl); (case hg => rfl); (case hr => first | (go_simp; done) | (go_simp; rfl)); (case hp => exact (Reps.one (show Kd.M (Kd.int .i64) _ _ _ (wrap64 (a1 - (l0_4.length : Int))) [.int .i64 (wrap64 (a1 - (l0_4.length : Int)))] from rfl) (Reps.none _ _))); intro v558 w37 ho38 hb hg_ hnew_; clear hg_ hnew_; (first | rw [← Ny557.out] at ho38 | (simp only [Int.reduceToNat] at ho38; rw [← Ny557.out] at ho38)); have n0_ := zab.mk (Kd.R_lower ho38 (zak (by repeat (first | (with_reducible first | exact HB.o | apply zad | apply zaf | apply zae | refine zag ?_ GE541.o) | exact HB.o)))); have n1_ := zab.mk (zam (g := gb541) (o := .cells #[.int .i64 a0_0, .slice A0_1 l0_1.length c0_1, .int .i64 a0_2, .int .i64 a0_3, .slice A0_4 l0_4.length c0_4, .int .i64 a0_5, .string a0_6, .string a0_7] 27 (0, 0)) (by (with_reducible repeat (first | refine zaj ?_ _ | refine zah ?_ | refine zai ?_ _)); exact BK541.o) hb); have n2_ := zab.mk (zal (by repeat (first | (with_reducible first | exact HB.o | apply zad | apply zaf | apply zae | refine zag ?_ GE541.o) | exact HB.o)) hb); clear BK541; clear HB; have HO559 := n0_; have BK541 := n1_; have HB := n2_; clear n0_ n1_ n2_; clear hb ho38))
       go_ret
       exact ⟨_, by first | rfl | (simp [errW_none, errW_some] <;> rfl) | (simp [*, errW_none, errW_some] <;> rfl), by (with_reducible repeat (first | apply Kd.R_alloc | apply Kd.R_drewN | apply Kd.R_drew)); exact HO559.o, by repeat (first | (with_reducible first | exact HB.o | apply zad | apply zaf | apply zae | refine zag ?_ GE541.o) | exact HB.o)⟩
      ·rw [if_neg c35] at H
       have c35b0 : decide (a0_2 < a1) = false := decide_eq_false c35
       clear c35
       obtain ⟨y560, hy560⟩ : ∃ y_ : List Int, y_ = (([a1] : List Int)) := ⟨_, rfl⟩
       replace H : (some y560) = some r := by first | (rw [hy560]; with_reducible exact H) | (have H2_ := (Option.bind_some _ _).symm.trans H; rw [hy560]; with_reducible exact H2_) | (have H2_ := (Option.bind_some _ _).symm.trans H; with_reducible exact H2_) | with_reducible exact H | (rw [hy560]; exact H) | exact H
       have Ny560 := zab.mk hy560
       clear hy560
       obtain rfl := Option.some.inj H
       have hcz39_0 : wc.cell? ⟨gb541, 0, none⟩ = some (.int .i64 a0_0) := (zaa BK541.o 0).trans rfl
       have hcz39_1 : wc.cell? ⟨gb541, 1, none⟩ = some (.slice A0_1 l0_1.length c0_1) := (zaa BK541.o 1).trans rfl
       have hcz39_2 : wc.cell? ⟨gb541, 2, none⟩ = some (.int .i64 a0_2) := (zaa BK541.o 2).trans rfl
       have hcz39_3 : wc.cell? ⟨gb541, 3, none⟩ = some (.int .i64 a0_3) := (zaa BK541.o 3).trans rfl
       have hcz39_4 : wc.cell? ⟨gb541, 4, none⟩ = some (.slice A0_4 l0_4.length c0_4) := (zaa BK541.o 4).trans rfl
       have hcz39_5 : wc.cell? ⟨gb541, 5, none⟩ = some (.int .i64 a0_5) := (zaa BK541.o 5).trans rfl
       have hcz39_6 : wc.cell? ⟨gb541, 6, none⟩ = some (.string a0_6) := (zaa BK541.o 6).trans rfl
       have hcz39_7 : wc.cell? ⟨gb541, 7, none⟩ = some (.string a0_7) := (zaa BK541.o 7).trans rfl
       have hfz39_0 := zac BK541.o 0
       have hfz39_1 := zac BK541.o 1
       have hfz39_2 := zac BK541.o 2
       have hfz39_3 := zac BK541.o 3
       have hfz39_4 := zac BK541.o 4
       have hfz39_5 := zac BK541.o 5
       have hfz39_6 := zac BK541.o 6
       have hfz39_7 := zac BK541.o 7
       go_wp2_with (first | ((with_reducible refine zap (N := 120) rfl ?_); refine Kd.R_lit (Kd.int .i64) _ 3 ?hg (N := 120) ?hd (xs := ([a1] : List Int)) (inner := [.int .i64 a1]) (ok := fun _ => True) (okp := fun _ => True) ?hr ?hp (fun _ hk => hk) trivial (Below.refl _ _) (Nat.le_refl _) (by simp) ?_; (case hd => rfl); (case hg => rfl); (case hr => first | (go_simp; done) | (go_simp; rfl)); (case hp => exact (Reps.one (show Kd.M (Kd.int .i64) _ _ _ a1 [.int .i64 a1] from rfl) (Reps.none _ _))); intro v561 w40 ho41 hb hg_ hnew_; clear hg_ hnew_; (first | rw [← Ny560.out] at ho41 | (simp only [Int.reduceToNat] at ho41; rw [← Ny560.out] at ho41)); have n0_ := zab.mk (Kd.R_lower ho41 (zak (by repeat (first | (with_reducible first | exact HB.o | apply zad | apply zaf | apply zae | refine zag ?_ GE541.o) | exact HB.o)))); have n1_ := zab.mk (zam (g := gb541) (o := .cells #[.int .i64 a0_0, .slice A0_1 l0_1.length c0_1, .int .i64 a0_2, .int .i64 a0_3, .slice A0_4 l0_4.length c0_4, .int .i64 a0_5, .string a0_6, .string a0_7] 27 (0, 0)) (by (with_reducible repeat (first | refine zaj ?_ _ | refine zah ?_ | refine zai ?_ _)); exact BK541.o) hb); have n2_ := zab.mk (zal (by repeat (first | (with_reducible first | exact HB.o | apply zad | apply zaf | apply zae | refine zag ?_ GE541.o) | exact HB.o)) hb); clear BK541; clear HB; have HO562 := n0_; have BK541 := n1_; have HB := n2_; clear n0_ n1_ n2_; clear hb ho41))
       go_ret
       exact ⟨_, by first | rfl | (simp [errW_none, errW_some] <;> rfl) | (simp [*, errW_none, errW_some] <;> rfl), by (with_reducible repeat (first | apply Kd.R_alloc | apply Kd.R_drewN | apply Kd.R_drew)); exact HO562.o, by repeat (first | (with_reducible first | exact HB.o | apply zad | apply zaf | apply zae | refine zag ?_ GE541.o) | exact HB.o)⟩
  ·rw [if_neg c24] at H
   have c24b0 : (a0_0 == 2) = false := beq_eq_false_iff_ne.mpr c24
   have c24b1 : (a0_0 != 2) = true := bne_iff_ne.mpr c24
   by_cases c42 : a0_0 = 3
   ·rw [if_pos c42] at H
    have c42b0 : (a0_0 == 3) = true := beq_iff_eq.mpr c42
    have c42b1 : (a0_0 != 3) = false := bne_eq_false_iff_eq.mpr c42
    clear c42
    have HC43 := zab.mk H
    clear H
    go_enter Try.func46, Try.ntmps46
    go_upto_region 12 with (first | ((with_reducible refine zap (N := 3) rfl ?_); refine zar ?hg (N := 3) ?hd (cs := #[.int .i64 a0_0, .slice A0_1 l0_1.length c0_1, .int .i64 a0_2, .int .i64 a0_3, .slice A0_4 l0_4.length c0_4, .int .i64 a0_5, .string a0_6, .string a0_7]) (t := 27) ?hr ?_; (case hd => rfl); (case hg => rfl); (case hr => first | (go_simp; done) | (go_simp; rfl)); intro gb541 hg w44 hbox hb; have n0_ := zab.mk (zal (by repeat (first | (with_reducible first | exact HB.o | apply zad | apply zaf | apply zae) | exact HB.o)) hb); have n1_ := zab.mk (hbox); have n2_ := zab.mk ((by rw [hg]; exact (zak (by repeat (first | (with_reducible first | exact HB.o | apply zad | apply zaf | apply zae) | exact HB.o))) : w.heap.size ≤ gb541)); have n3_ := zab.mk ((by rw [hg]; exact (zak (by repeat (first | (with_reducible first | exact HB.o | apply zad | apply zaf | apply zae) | exact HB.o))) : w.heap.size ≤ gb541)); clear HB; have HB := n0_; have BK541 := n1_; have GW541 := n2_; have GE541 := n3_; clear n0_ n1_ n2_ n3_; clear hb hbox hg; have hcz45_0 : w44.cell? ⟨gb541, 0, none⟩ = some (.int .i64 a0_0) := (zaa BK541.o 0).trans rfl; have hcz45_1 : w44.cell? ⟨gb541, 1, none⟩ = some (.slice A0_1 l0_1.length c0_1) := (zaa BK541.o 1).trans rfl; have hcz45_2 : w44.cell? ⟨gb541, 2, none⟩ = some (.int .i64 a0_2) := (zaa BK541.o 2).trans rfl; have hcz45_3 : w44.cell? ⟨gb541, 3, none⟩ = some (.int .i64 a0_3) := (zaa BK541.o 3).trans rfl; have hcz45_4 : w44.cell? ⟨gb541, 4, none⟩ = some (.slice A0_4 l0_4.length c0_4) := (zaa BK541.o 4).trans rfl; have hcz45_5 : w44.cell? ⟨gb541, 5, none⟩ = some (.int .i64 a0_5) := (zaa BK541.o 5).trans rfl; have hcz45_6 : w44.cell? ⟨gb541, 6, none⟩ = some (.string a0_6) := (zaa BK541.o 6).trans rfl; have hcz45_7 : w44.cell? ⟨gb541, 7, none⟩ = some (.string a0_7) := (zaa BK541.o 7).trans rfl; have hfz45_0 := zac BK541.o 0; have hfz45_1 := zac BK541.o 1; have hfz45_2 := zac BK541.o 2; have hfz45_3 := zac BK541.o 3; have hfz45_4 := zac BK541.o 4; have hfz45_5 := zac BK541.o 5; have hfz45_6 := zac BK541.o 6; have hfz45_7 := zac BK541.o 7))
    (try simp only [Act.put, List.setIfInBounds_toArray, List.set_cons_zero, List.set_cons_succ])
    go_cut [71] (fun v71 wc => ∃ (kq : Nat) (x71_42 : Bool), v71 = .bool x71_42 ∧ zab (vinculumref13_offset.j1 kq a1 a2 x71_42 a0_0 l0_1 a0_2 a0_3 l0_4 a0_5 a0_6 a0_7 = some r) ∧ zab (kq ≤ k) ∧ zab (wc.heap[gb541]? = some (.cells #[.int .i64 a0_0, (.slice A0_1 l0_1.length c0_1), .int .i64 a0_2, .int .i64 a0_3, (.slice A0_4 l0_4.length c0_4), .int .i64 a0_5, .string a0_6, .string a0_7] 27 (0, 0))) ∧ zab (Below w.heap.size w wc))
    case first =>
     have H := HC43.out
     clear HC43
     by_cases c46 : a1 > a0_2
     ·rw [if_pos c46] at H
      have c46b0 : decide (a0_2 < a1) = true := decide_eq_true c46
      clear c46
      (first | rw [c46b0] | (simp only [i64_w, i32_w]; rw [c46b0]) | skip)
      have H' := zab.mk H
      clear H
      have hcz47_0 : w44.cell? ⟨gb541, 0, none⟩ = some (.int .i64 a0_0) := (zaa BK541.o 0).trans rfl
      have hcz47_1 : w44.cell? ⟨gb541, 1, none⟩ = some (.slice A0_1 l0_1.length c0_1) := (zaa BK541.o 1).trans rfl
      have hcz47_2 : w44.cell? ⟨gb541, 2, none⟩ = some (.int .i64 a0_2) := (zaa BK541.o 2).trans rfl
      have hcz47_3 : w44.cell? ⟨gb541, 3, none⟩ = some (.int .i64 a0_3) := (zaa BK541.o 3).trans rfl
      have hcz47_4 : w44.cell? ⟨gb541, 4, none⟩ = some (.slice A0_4 l0_4.length c0_4) := (zaa BK541.o 4).trans rfl
      have hcz47_5 : w44.cell? ⟨gb541, 5, none⟩ = some (.int .i64 a0_5) := (zaa BK541.o 5).trans rfl
      have hcz47_6 : w44.cell? ⟨gb541, 6, none⟩ = some (.string a0_6) := (zaa BK541.o 6).trans rfl
      have hcz47_7 : w44.cell? ⟨gb541, 7, none⟩ = some (.string a0_7) := (zaa BK541.o 7).trans rfl
      have hfz47_0 := zac BK541.o 0
      have hfz47_1 := zac BK541.o 1
      have hfz47_2 := zac BK541.o 2
      have hfz47_3 := zac BK541.o 3
      have hfz47_4 := zac BK541.o 4
      have hfz47_5 := zac BK541.o 5
      have hfz47_6 := zac BK541.o 6
      have hfz47_7 := zac BK541.o 7
      go_wp2
      go_meet
      case rel => exact ⟨_, (decide (a1 < (wrap64 (a0_2 + a0_3)))), (by first | rfl | (simp; done) | (simp [*]; done)), H', ⟨by first | omega | exact Nat.le_refl _⟩, ⟨by (with_reducible repeat (first | refine zaj ?_ _ | refine zah ?_ | refine zai ?_ _)); exact BK541.o⟩, ⟨by repeat (first | (with_reducible first | exact HB.o | apply zad | apply zaf | apply zae | refine zag ?_ GE541.o) | exact HB.o)⟩⟩
     ·rw [if_neg c46] at H
      have c46b0 : decide (a0_2 < a1) = false := decide_eq_false c46
      clear c46
      (first | rw [c46b0] | (simp only [i64_w, i32_w]; rw [c46b0]) | skip)
      have H' := zab.mk H
      clear H
      have hcz48_0 : w44.cell? ⟨gb541, 0, none⟩ = some (.int .i64 a0_0) := (zaa BK541.o 0).trans rfl
      have hcz48_1 : w44.cell? ⟨gb541, 1, none⟩ = some (.slice A0_1 l0_1.length c0_1) := (zaa BK541.o 1).trans rfl
      have hcz48_2 : w44.cell? ⟨gb541, 2, none⟩ = some (.int .i64 a0_2) := (zaa BK541.o 2).trans rfl
      have hcz48_3 : w44.cell? ⟨gb541, 3, none⟩ = some (.int .i64 a0_3) := (zaa BK541.o 3).trans rfl
      have hcz48_4 : w44.cell? ⟨gb541, 4, none⟩ = some (.slice A0_4 l0_4.length c0_4) := (zaa BK541.o 4).trans rfl
      have hcz48_5 : w44.cell? ⟨gb541, 5, none⟩ = some (.int .i64 a0_5) := (zaa BK541.o 5).trans rfl
      have hcz48_6 : w44.cell? ⟨gb541, 6, none⟩ = some (.string a0_6) := (zaa BK541.o 6).trans rfl
      have hcz48_7 : w44.cell? ⟨gb541, 7, none⟩ = some (.string a0_7) := (zaa BK541.o 7).trans rfl
      have hfz48_0 := zac BK541.o 0
      have hfz48_1 := zac BK541.o 1
      have hfz48_2 := zac BK541.o 2
      have hfz48_3 := zac BK541.o 3
      have hfz48_4 := zac BK541.o 4
      have hfz48_5 := zac BK541.o 5
      have hfz48_6 := zac BK541.o 6
      have hfz48_7 := zac BK541.o 7
      go_wp2
      go_meet
      case rel => exact ⟨_, (false), (by first | rfl | (simp; done) | (simp [*]; done)), H', ⟨by first | omega | exact Nat.le_refl _⟩, ⟨by (with_reducible repeat (first | refine zaj ?_ _ | refine zah ?_ | refine zai ?_ _)); exact BK541.o⟩, ⟨by repeat (first | (with_reducible first | exact HB.o | apply zad | apply zaf | apply zae | refine zag ?_ GE541.o) | exact HB.o)⟩⟩
    case rest =>
     clear HC43
     try clear c1
     try clear c2
     try clear p2
     try clear c3
     try clear c4
     try clear c4b0
     try clear c4b1
     try clear c5
     try clear c5b0
     try clear p6
     try clear c10
     try clear c10b0
     try clear c10b1
     try clear c11
     try clear c24
     try clear c24b0
     try clear c24b1
     try clear c28
     try clear c28b0
     try clear c31
     try clear c35
     try clear c35b0
     try clear c42
     try clear c42b0
     try clear c42b1
     try clear c46
     try clear c46b0
     try clear hcz13_0
     try clear hcz13_1
     try clear hcz13_2
     try clear hcz13_3
     try clear hcz13_4
     try clear hcz13_5
     try clear hcz13_6
     try clear hcz13_7
     try clear hcz17_0
     try clear hcz17_1
     try clear hcz17_2
     try clear hcz17_3
     try clear hcz17_4
     try clear hcz17_5
     try clear hcz17_6
     try clear hcz17_7
     try clear hcz21_0
     try clear hcz21_1
     try clear hcz21_2
     try clear hcz21_3
     try clear hcz21_4
     try clear hcz21_5
     try clear hcz21_6
     try clear hcz21_7
     try clear hcz27_0
     try clear hcz27_1
     try clear hcz27_2
     try clear hcz27_3
     try clear hcz27_4
     try clear hcz27_5
     try clear hcz27_6
     try clear hcz27_7
     try clear hcz29_0
     try clear hcz29_1
     try clear hcz29_2
     try clear hcz29_3
     try clear hcz29_4
     try clear hcz29_5
     try clear hcz29_6
     try clear hcz29_7
     try clear hcz30_0
     try clear hcz30_1
     try clear hcz30_2
     try clear hcz30_3
     try clear hcz30_4
     try clear hcz30_5
     try clear hcz30_6
     try clear hcz30_7
     try clear hcz32_0
     try clear hcz32_1
     try clear hcz32_2
     try clear hcz32_3
     try clear hcz32_4
     try clear hcz32_5
     try clear hcz32_6
     try clear hcz32_7
     try clear hcz36_0
     try clear hcz36_1
     try clear hcz36_2
     try clear hcz36_3
     try clear hcz36_4
     try clear hcz36_5
     try clear hcz36_6
     try clear hcz36_7
     try clear hcz39_0
     try clear hcz39_1
     try clear hcz39_2
     try clear hcz39_3
     try clear hcz39_4
     try clear hcz39_5
     try clear hcz39_6
     try clear hcz39_7
     try clear hcz45_0
     try clear hcz45_1
     try clear hcz45_2
     try clear hcz45_3
     try clear hcz45_4
     try clear hcz45_5
     try clear hcz45_6
     try clear hcz45_7
     try clear hcz47_0
     try clear hcz47_1
     try clear hcz47_2
     try clear hcz47_3
     try clear hcz47_4
     try clear hcz47_5
     try clear hcz47_6
     try clear hcz47_7
     try clear hcz48_0
     try clear hcz48_1
     try clear hcz48_2
     try clear hcz48_3
     try clear hcz48_4
     try clear hcz48_5
     try clear hcz48_6
     try clear hcz48_7
     try clear hcz7_0
     try clear hcz7_1
     try clear hcz7_2
     try clear hcz7_3
     try clear hcz7_4
     try clear hcz7_5
     try clear hcz7_6
     try clear hcz7_7
     try clear hfz13_0
     try clear hfz13_1
     try clear hfz13_2
     try clear hfz13_3
     try clear hfz13_4
     try clear hfz13_5
     try clear hfz13_6
     try clear hfz13_7
     try clear hfz17_0
     try clear hfz17_1
     try clear hfz17_2
     try clear hfz17_3
     try clear hfz17_4
     try clear hfz17_5
     try clear hfz17_6
     try clear hfz17_7
     try clear hfz21_0
     try clear hfz21_1
     try clear hfz21_2
     try clear hfz21_3
     try clear hfz21_4
     try clear hfz21_5
     try clear hfz21_6
     try clear hfz21_7
     try clear hfz27_0
     try clear hfz27_1
     try clear hfz27_2
     try clear hfz27_3
     try clear hfz27_4
     try clear hfz27_5
     try clear hfz27_6
     try clear hfz27_7
     try clear hfz29_0
     try clear hfz29_1
     try clear hfz29_2
     try clear hfz29_3
     try clear hfz29_4
     try clear hfz29_5
     try clear hfz29_6
     try clear hfz29_7
     try clear hfz30_0
     try clear hfz30_1
     try clear hfz30_2
     try clear hfz30_3
     try clear hfz30_4
     try clear hfz30_5
     try clear hfz30_6
     try clear hfz30_7
     try clear hfz32_0
     try clear hfz32_1
     try clear hfz32_2
     try clear hfz32_3
     try clear hfz32_4
     try clear hfz32_5
     try clear hfz32_6
     try clear hfz32_7
     try clear hfz36_0
     try clear hfz36_1
     try clear hfz36_2
     try clear hfz36_3
     try clear hfz36_4
     try clear hfz36_5
     try clear hfz36_6
     try clear hfz36_7
     try clear hfz39_0
     try clear hfz39_1
     try clear hfz39_2
     try clear hfz39_3
     try clear hfz39_4
     try clear hfz39_5
     try clear hfz39_6
     try clear hfz39_7
     try clear hfz45_0
     try clear hfz45_1
     try clear hfz45_2
     try clear hfz45_3
     try clear hfz45_4
     try clear hfz45_5
     try clear hfz45_6
     try clear hfz45_7
     try clear hfz47_0
     try clear hfz47_1
     try clear hfz47_2
     try clear hfz47_3
     try clear hfz47_4
     try clear hfz47_5
     try clear hfz47_6
     try clear hfz47_7
     try clear hfz48_0
     try clear hfz48_1
     try clear hfz48_2
     try clear hfz48_3
     try clear hfz48_4
     try clear hfz48_5
     try clear hfz48_6
     try clear hfz48_7
     try clear hfz7_0
     try clear hfz7_1
     try clear hfz7_2
     try clear hfz7_3
     try clear hfz7_4
     try clear hfz7_5
     try clear hfz7_6
     try clear hfz7_7
     try clear p2
     try clear p6
     obtain ⟨kq, x71_42, rfl, HA, HJ42, BK541, HB⟩ := hcut
     cases kq with
     | zero => exact absurd HA.o (by simp [vinculumref13_offset.j1])
     | succ kj42 =>
      have H := HA.o
      clear HA
      simp only [vinculumref13_offset.j1] at H
      by_cases c49 : x71_42 = true
      ·subst c49
       have H1 : (some (([a0_2, a0_5, wrap64 (a1 - a0_2)] : List Int))) = some r := by rw [if_pos rfl] at H; exact H
       clear H
       have H := H1
       clear H1
       obtain ⟨y563, hy563⟩ : ∃ y_ : List Int, y_ = (([a0_2, a0_5, wrap64 (a1 - a0_2)] : List Int)) := ⟨_, rfl⟩
       replace H : (some y563) = some r := by first | (rw [hy563]; with_reducible exact H) | (have H2_ := (Option.bind_some _ _).symm.trans H; rw [hy563]; with_reducible exact H2_) | (have H2_ := (Option.bind_some _ _).symm.trans H; with_reducible exact H2_) | with_reducible exact H | (rw [hy563]; exact H) | exact H
       have Ny563 := zab.mk hy563
       clear hy563
       obtain rfl := Option.some.inj H
       have hcz50_0 : wc.cell? ⟨gb541, 0, none⟩ = some (.int .i64 a0_0) := (zaa BK541.o 0).trans rfl
       have hcz50_1 : wc.cell? ⟨gb541, 1, none⟩ = some (.slice A0_1 l0_1.length c0_1) := (zaa BK541.o 1).trans rfl
       have hcz50_2 : wc.cell? ⟨gb541, 2, none⟩ = some (.int .i64 a0_2) := (zaa BK541.o 2).trans rfl
       have hcz50_3 : wc.cell? ⟨gb541, 3, none⟩ = some (.int .i64 a0_3) := (zaa BK541.o 3).trans rfl
       have hcz50_4 : wc.cell? ⟨gb541, 4, none⟩ = some (.slice A0_4 l0_4.length c0_4) := (zaa BK541.o 4).trans rfl
       have hcz50_5 : wc.cell? ⟨gb541, 5, none⟩ = some (.int .i64 a0_5) := (zaa BK541.o 5).trans rfl
       have hcz50_6 : wc.cell? ⟨gb541, 6, none⟩ = some (.string a0_6) := (zaa BK541.o 6).trans rfl
       have hcz50_7 : wc.cell? ⟨gb541, 7, none⟩ = some (.string a0_7) := (zaa BK541.o 7).trans rfl
       have hfz50_0 := zac BK541.o 0
       have hfz50_1 := zac BK541.o 1
       have hfz50_2 := zac BK541.o 2
       have hfz50_3 := zac BK541.o 3
       have hfz50_4 := zac BK541.o 4
       have hfz50_5 := zac BK541.o 5
       have hfz50_6 := zac BK541.o 6
       have hfz50_7 := zac BK541.o 7
       go_wp2_with (first | ((with_reducible refine zap (N := 80) rfl ?_); refine Kd.R_lit (Kd.int .i64) _ 3 ?hg (N := 80) ?hd (xs := ([a0_2, a0_5, wrap64 (a1 - a0_2)] : List Int)) (inner := [.int .i64 a0_2, .int .i64 a0_5, .int .i64 (wrap64 (a1 - a0_2))]) (ok := fun _ => True) (okp := fun _ => True) ?hr ?hp (fun _ hk => hk) trivial (Below.refl _ _) (Nat.le_refl _) (by simp) ?_; (case hd => rfl); (case hg => rfl); (case hr => first | (go_simp; done) | (go_simp; rfl)); (case hp => exact (Reps.one (show Kd.M (Kd.int .i64) _ _ _ a0_2 [.int .i64 a0_2] from rfl) (Reps.one (show Kd.M (Kd.int .i64) _ _ _ a0_5 [.int .i64 a0_5] from rfl) (Reps.one (show Kd.M (Kd.int .i64) _ _ _ (wrap64 (a1 - a0_2)) [.int .i64 (wrap64 (a1 - a0_2))] from rfl) (Reps.none _ _))))); intro v564 w51 ho52 hb hg_ hnew_; clear hg_ hnew_; (first | rw [← Ny563.out] at ho52 | (simp only [Int.reduceToNat] at ho52; rw [← Ny563.out] at ho52)); have n0_ := zab.mk (Kd.R_lower ho52 (zak (by repeat (first | (with_reducible first | exact HB.o | apply zad | apply zaf | apply zae | refine zag ?_ GE541.o) | exact HB.o)))); have n1_ := zab.mk (zam (g := gb541) (o := .cells #[.int .i64 a0_0, .slice A0_1 l0_1.length c0_1, .int .i64 a0_2, .int .i64 a0_3, .slice A0_4 l0_4.length c0_4, .int .i64 a0_5, .string a0_6, .string a0_7] 27 (0, 0)) (by (with_reducible repeat (first | refine zaj ?_ _ | refine zah ?_ | refine zai ?_ _)); exact BK541.o) hb); have n2_ := zab.mk (zal (by repeat (first | (with_reducible first | exact HB.o | apply zad | apply zaf | apply zae | refine zag ?_ GE541.o) | exact HB.o)) hb); clear BK541; clear HB; have HO565 := n0_; have BK541 := n1_; have HB := n2_; clear n0_ n1_ n2_; clear hb ho52))
       go_ret
       exact ⟨_, by first | rfl | (simp [errW_none, errW_some] <;> rfl) | (simp [*, errW_none, errW_some] <;> rfl), by (with_reducible repeat (first | apply Kd.R_alloc | apply Kd.R_drewN | apply Kd.R_drew)); exact HO565.o, by repeat (first | (with_reducible first | exact HB.o | apply zad | apply zaf | apply zae | refine zag ?_ GE541.o) | exact HB.o)⟩
      ·replace c49 := Bool.eq_false_iff.mpr c49
       subst c49
       have H1 : (if a1 > a0_2 then (some (([wrap64 ((wrap64 (a1 - a0_3)) + 1)] : List Int))) else (if a1 = a0_2 then (if a0_3 = 0 then (if a2 = true then (some (([wrap64 (a0_2 + 1)] : List Int))) else (some (([a1] : List Int)))) else (some (([a1] : List Int)))) else (some (([a1] : List Int))))) = some r := by rw [if_neg (show ¬ (false = true) by decide)] at H; exact H
       clear H
       have H := H1
       clear H1
       by_cases c53 : a1 > a0_2
       ·rw [if_pos c53] at H
        have c53b0 : decide (a0_2 < a1) = true := decide_eq_true c53
        clear c53
        obtain ⟨y566, hy566⟩ : ∃ y_ : List Int, y_ = (([wrap64 ((wrap64 (a1 - a0_3)) + 1)] : List Int)) := ⟨_, rfl⟩
        replace H : (some y566) = some r := by first | (rw [hy566]; with_reducible exact H) | (have H2_ := (Option.bind_some _ _).symm.trans H; rw [hy566]; with_reducible exact H2_) | (have H2_ := (Option.bind_some _ _).symm.trans H; with_reducible exact H2_) | with_reducible exact H | (rw [hy566]; exact H) | exact H
        have Ny566 := zab.mk hy566
        clear hy566
        obtain rfl := Option.some.inj H
        have hcz54_0 : wc.cell? ⟨gb541, 0, none⟩ = some (.int .i64 a0_0) := (zaa BK541.o 0).trans rfl
        have hcz54_1 : wc.cell? ⟨gb541, 1, none⟩ = some (.slice A0_1 l0_1.length c0_1) := (zaa BK541.o 1).trans rfl
        have hcz54_2 : wc.cell? ⟨gb541, 2, none⟩ = some (.int .i64 a0_2) := (zaa BK541.o 2).trans rfl
        have hcz54_3 : wc.cell? ⟨gb541, 3, none⟩ = some (.int .i64 a0_3) := (zaa BK541.o 3).trans rfl
        have hcz54_4 : wc.cell? ⟨gb541, 4, none⟩ = some (.slice A0_4 l0_4.length c0_4) := (zaa BK541.o 4).trans rfl
        have hcz54_5 : wc.cell? ⟨gb541, 5, none⟩ = some (.int .i64 a0_5) := (zaa BK541.o 5).trans rfl
        have hcz54_6 : wc.cell? ⟨gb541, 6, none⟩ = some (.string a0_6) := (zaa BK541.o 6).trans rfl
        have hcz54_7 : wc.cell? ⟨gb541, 7, none⟩ = some (.string a0_7) := (zaa BK541.o 7).trans rfl
        have hfz54_0 := zac BK541.o 0
        have hfz54_1 := zac BK541.o 1
        have hfz54_2 := zac BK541.o 2
        have hfz54_3 := zac BK541.o 3
        have hfz54_4 := zac BK541.o 4
        have hfz54_5 := zac BK541.o 5
        have hfz54_6 := zac BK541.o 6
        have hfz54_7 := zac BK541.o 7
        go_wp2_with (first | ((with_reducible refine zap (N := 90) rfl ?_); refine Kd.R_lit (Kd.int .i64) _ 3 ?hg (N := 90) ?hd (xs := ([wrap64 ((wrap64 (a1 - a0_3)) + 1)] : List Int)) (inner := [.int .i64 (wrap64 ((wrap64 (a1 - a0_3)) + 1))]) (ok := fun _ => True) (okp := fun _ => True) ?hr ?hp (fun _ hk => hk) trivial (Below.refl _ _) (Nat.le_refl _) (by simp) ?_; (case hd => rfl); (case hg => rfl); (case hr => first | (go_simp; done) | (go_simp; rfl)); (case hp => exact (Reps.one (show Kd.M (Kd.int .i64) _ _ _ (wrap64 ((wrap64 (a1 - a0_3)) + 1)) [.int .i64 (wrap64 ((wrap64 (a1 - a0_3)) + 1))] from rfl) (Reps.none _ _))); intro v567 w55 ho56 hb hg_ hnew_; clear hg_ hnew_; (first | rw [← Ny566.out] at ho56 | (simp only [Int.reduceToNat] at ho56; rw [← Ny566.out] at ho56)); have n0_ := zab.mk (Kd.R_lower ho56 (zak (by repeat (first | (with_reducible first | exact HB.o | apply zad | apply zaf | apply zae | refine zag ?_ GE541.o) | exact HB.o)))); have n1_ := zab.mk (zam (g := gb541) (o := .cells #[.int .i64 a0_0, .slice A0_1 l0_1.length c0_1, .int .i64 a0_2, .int .i64 a0_3, .slice A0_4 l0_4.length c0_4, .int .i64 a0_5, .string a0_6, .string a0_7] 27 (0, 0)) (by (with_reducible repeat (first | refine zaj ?_ _ | refine zah ?_ | refine zai ?_ _)); exact BK541.o) hb); have n2_ := zab.mk (zal (by repeat (first | (with_reducible first | exact HB.o | apply zad | apply zaf | apply zae | refine zag ?_ GE541.o) | exact HB.o)) hb); clear BK541; clear HB; have HO568 := n0_; have BK541 := n1_; have HB := n2_; clear n0_ n1_ n2_; clear hb ho56))
        go_ret
        exact ⟨_, by first | rfl | (simp [errW_none, errW_some] <;> rfl) | (simp [*, errW_none, errW_some] <;> rfl), by (with_reducible repeat (first | apply Kd.R_alloc | apply Kd.R_drewN | apply Kd.R_drew)); exact HO568.o, by repeat (first | (with_reducible first | exact HB.o | apply zad | apply zaf | apply zae | refine zag ?_ GE541.o) | exact HB.o)⟩
       ·rw [if_neg c53] at H
        have c53b0 : decide (a0_2 < a1) = false := decide_eq_false c53
        clear c53
        by_cases c57 : a1 = a0_2
        ·rw [if_pos c57] at H
         have c57b0 : (a1 == a0_2) = true := beq_iff_eq.mpr c57
         have c57b1 : (a1 != a0_2) = false := bne_eq_false_iff_eq.mpr c57
         clear c57
         by_cases c58 : a0_3 = 0
         ·rw [if_pos c58] at H
          have c58b0 : (a0_3 == 0) = true := beq_iff_eq.mpr c58
          have c58b1 : (a0_3 != 0) = false := bne_eq_false_iff_eq.mpr c58
          clear c58
          by_cases c59 : a2 = true
          ·subst c59
           have H1 : (some (([wrap64 (a0_2 + 1)] : List Int))) = some r := by rw [if_pos rfl] at H; exact H
           clear H
           have H := H1
           clear H1
           obtain ⟨y569, hy569⟩ : ∃ y_ : List Int, y_ = (([wrap64 (a0_2 + 1)] : List Int)) := ⟨_, rfl⟩
           replace H : (some y569) = some r := by first | (rw [hy569]; with_reducible exact H) | (have H2_ := (Option.bind_some _ _).symm.trans H; rw [hy569]; with_reducible exact H2_) | (have H2_ := (Option.bind_some _ _).symm.trans H; with_reducible exact H2_) | with_reducible exact H | (rw [hy569]; exact H) | exact H
           have Ny569 := zab.mk hy569
           clear hy569
           obtain rfl := Option.some.inj H
           have hcz60_0 : wc.cell? ⟨gb541, 0, none⟩ = some (.int .i64 a0_0) := (zaa BK541.o 0).trans rfl
           have hcz60_1 : wc.cell? ⟨gb541, 1, none⟩ = some (.slice A0_1 l0_1.length c0_1) := (zaa BK541.o 1).trans rfl
           have hcz60_2 : wc.cell? ⟨gb541, 2, none⟩ = some (.int .i64 a0_2) := (zaa BK541.o 2).trans rfl
           have hcz60_3 : wc.cell? ⟨gb541, 3, none⟩ = some (.int .i64 a0_3) := (zaa BK541.o 3).trans rfl
           have hcz60_4 : wc.cell? ⟨gb541, 4, none⟩ = some (.slice A0_4 l0_4.length c0_4) := (zaa BK541.o 4).trans rfl
           have hcz60_5 : wc.cell? ⟨gb541, 5, none⟩ = some (.int .i64 a0_5) := (zaa BK541.o 5).trans rfl
           have hcz60_6 : wc.cell? ⟨gb541, 6, none⟩ = some (.string a0_6) := (zaa BK541.o 6).trans rfl
           have hcz60_7 : wc.cell? ⟨gb541, 7, none⟩ = some (.string a0_7) := (zaa BK541.o 7).trans rfl
           have hfz60_0 := zac BK541.o 0
           have hfz60_1 := zac BK541.o 1
           have hfz60_2 := zac BK541.o 2
           have hfz60_3 := zac BK541.o 3
           have hfz60_4 := zac BK541.o 4
           have hfz60_5 := zac BK541.o 5
           have hfz60_6 := zac BK541.o 6
           have hfz60_7 := zac BK541.o 7
           go_wp2_with (first | ((with_reducible refine zap (N := 106) rfl ?_); refine Kd.R_lit (Kd.int .i64) _ 3 ?hg (N := 106) ?hd (xs := ([wrap64 (a0_2 + 1)] : List Int)) (inner := [.int .i64 (wrap64 (a0_2 + 1))]) (ok := fun _ => True) (okp := fun _ => True) ?hr ?hp (fun _ hk => hk) trivial (Below.refl _ _) (Nat.le_refl _) (by simp) ?_; (case hd => rfl); (case hg => rfl); (case hr => first | (go_simp; done) | (go_simp; rfl)); (case hp => exact (Reps.one (show Kd.M (Kd.int .i64) _ _ _ (wrap64 (a0_2 + 1)) [.int .i64 (wrap64 (a0_2 + 1))] from rfl) (Reps.none _ _))); intro v570 w61 ho62 hb hg_ hnew_; clear hg_ hnew_; (first | rw [← Ny569.out] at ho62 | (simp only [Int.reduceToNat] at ho62; rw [← Ny569.out] at ho62)); have n0_ := zab.mk (Kd.R_lower ho62 (zak (by repeat (first | (with_reducible first | exact HB.o | apply zad | apply zaf | apply zae | refine zag ?_ GE541.o) | exact HB.o)))); have n1_ := zab.mk (zam (g := gb541) (o := .cells #[.int .i64 a0_0, .slice A0_1 l0_1.length c0_1, .int .i64 a0_2, .int .i64 a0_3, .slice A0_4 l0_4.length c0_4, .int .i64 a0_5, .string a0_6, .string a0_7] 27 (0, 0)) (by (with_reducible repeat (first | refine zaj ?_ _ | refine zah ?_ | refine zai ?_ _)); exact BK541.o) hb); have n2_ := zab.mk (zal (by repeat (first | (with_reducible first | exact HB.o | apply zad | apply zaf | apply zae | refine zag ?_ GE541.o) | exact HB.o)) hb); clear BK541; clear HB; have HO571 := n0_; have BK541 := n1_; have HB := n2_; clear n0_ n1_ n2_; clear hb ho62))
           go_ret
           exact ⟨_, by first | rfl | (simp [errW_none, errW_some] <;> rfl) | (simp [*, errW_none, errW_some] <;> rfl), by (with_reducible repeat (first | apply Kd.R_alloc | apply Kd.R_drewN | apply Kd.R_drew)); exact HO571.o, by repeat (first | (with_reducible first | exact HB.o | apply zad | apply zaf | apply zae | refine zag ?_ GE541.o) | exact HB.o)⟩
          ·replace c59 := Bool.eq_false_iff.mpr c59
           subst c59
           have H1 : (some (([a1] : List Int))) = some r := by rw [if_neg (show ¬ (false = true) by decide)] at H; exact H
           clear H
           have H := H1
           clear H1
           obtain ⟨y572, hy572⟩ : ∃ y_ : List Int, y_ = (([a1] : List Int)) := ⟨_, rfl⟩
           replace H : (some y572) = some r := by first | (rw [hy572]; with_reducible exact H) | (have H2_ := (Option.bind_some _ _).symm.trans H; rw [hy572]; with_reducible exact H2_) | (have H2_ := (Option.bind_some _ _).symm.trans H; with_reducible exact H2_) | with_reducible exact H | (rw [hy572]; exact H) | exact H
           have Ny572 := zab.mk hy572
           clear hy572
           obtain rfl := Option.some.inj H
           have hcz63_0 : wc.cell? ⟨gb541, 0, none⟩ = some (.int .i64 a0_0) := (zaa BK541.o 0).trans rfl
           have hcz63_1 : wc.cell? ⟨gb541, 1, none⟩ = some (.slice A0_1 l0_1.length c0_1) := (zaa BK541.o 1).trans rfl
           have hcz63_2 : wc.cell? ⟨gb541, 2, none⟩ = some (.int .i64 a0_2) := (zaa BK541.o 2).trans rfl
           have hcz63_3 : wc.cell? ⟨gb541, 3, none⟩ = some (.int .i64 a0_3) := (zaa BK541.o 3).trans rfl
           have hcz63_4 : wc.cell? ⟨gb541, 4, none⟩ = some (.slice A0_4 l0_4.length c0_4) := (zaa BK541.o 4).trans rfl
           have hcz63_5 : wc.cell? ⟨gb541, 5, none⟩ = some (.int .i64 a0_5) := (zaa BK541.o 5).trans rfl
           have hcz63_6 : wc.cell? ⟨gb541, 6, none⟩ = some (.string a0_6) := (zaa BK541.o 6).trans rfl
           have hcz63_7 : wc.cell? ⟨gb541, 7, none⟩ = some (.string a0_7) := (zaa BK541.o 7).trans rfl
           have hfz63_0 := zac BK541.o 0
           have hfz63_1 := zac BK541.o 1
           have hfz63_2 := zac BK541.o 2
           have hfz63_3 := zac BK541.o 3
           have hfz63_4 := zac BK541.o 4
           have hfz63_5 := zac BK541.o 5
           have hfz63_6 := zac BK541.o 6
           have hfz63_7 := zac BK541.o 7
           go_wp2_with (first | ((with_reducible refine zap (N := 120) rfl ?_); refine Kd.R_lit (Kd.int .i64) _ 3 ?hg (N := 120) ?hd (xs := ([a1] : List Int)) (inner := [.int .i64 a1]) (ok := fun _ => True) (okp := fun _ => True) ?hr ?hp (fun _ hk => hk) trivial (Below.refl _ _) (Nat.le_refl _) (by simp) ?_; (case hd => rfl); (case hg => rfl); (case hr => first | (go_simp; done) | (go_simp; rfl)); (case hp => exact (Reps.one (show Kd.M (Kd.int .i64) _ _ _ a1 [.int .i64 a1] from rfl) (Reps.none _ _))); intro v573 w64 ho65 hb hg_ hnew_; clear hg_ hnew_; (first | rw [← Ny572.out] at ho65 | (simp only [Int.reduceToNat] at ho65; rw [← Ny572.out] at ho65)); have n0_ := zab.mk (Kd.R_lower ho65 (zak (by repeat (first | (with_reducible first | exact HB.o | apply zad | apply zaf | apply zae | refine zag ?_ GE541.o) | exact HB.o)))); have n1_ := zab.mk (zam (g := gb541) (o := .cells #[.int .i64 a0_0, .slice A0_1 l0_1.length c0_1, .int .i64 a0_2, .int .i64 a0_3, .slice A0_4 l0_4.length c0_4, .int .i64 a0_5, .string a0_6, .string a0_7] 27 (0, 0)) (by (with_reducible repeat (first | refine zaj ?_ _ | refine zah ?_ | refine zai ?_ _)); exact BK541.o) hb); have n2_ := zab.mk (zal (by repeat (first | (with_reducible first | exact HB.o | apply zad | apply zaf | apply zae | refine zag ?_ GE541.o) | exact HB.o)) hb); clear BK541; clear HB; have HO574 := n0_; have BK541 := n1_; have HB := n2_; clear n0_ n1_ n2_; clear hb ho65))
           go_ret
           exact ⟨_, by first | rfl | (simp [errW_none, errW_some] <;> rfl) | (simp [*, errW_none, errW_some] <;> rfl), by (with_reducible repeat (first | apply Kd.R_alloc | apply Kd.R_drewN | apply Kd.R_drew)); exact HO574.o, by repeat (first | (with_reducible first | exact HB.o | apply zad | apply zaf | apply zae | refine zag ?_ GE541.o) | exact HB.o)⟩
         ·rw [if_neg c58] at H
          have c58b0 : (a0_3 == 0) = false := beq_eq_false_iff_ne.mpr c58
          have c58b1 : (a0_3 != 0) = true := bne_iff_ne.mpr c58
          obtain ⟨y575, hy575⟩ : ∃ y_ : List Int, y_ = (([a1] : List Int)) := ⟨_, rfl⟩
          replace H : (some y575) = some r := by first | (rw [hy575]; with_reducible exact H) | (have H2_ := (Option.bind_some _ _).symm.trans H; rw [hy575]; with_reducible exact H2_) | (have H2_ := (Option.bind_some _ _).symm.trans H; with_reducible exact H2_) | with_reducible exact H | (rw [hy575]; exact H) | exact H
          have Ny575 := zab.mk hy575
          clear hy575
          obtain rfl := Option.some.inj H
          have hcz66_0 : wc.cell? ⟨gb541, 0, none⟩ = some (.int .i64 a0_0) := (zaa BK541.o 0).trans rfl
          have hcz66_1 : wc.cell? ⟨gb541, 1, none⟩ = some (.slice A0_1 l0_1.length c0_1) := (zaa BK541.o 1).trans rfl
          have hcz66_2 : wc.cell? ⟨gb541, 2, none⟩ = some (.int .i64 a0_2) := (zaa BK541.o 2).trans rfl
          have hcz66_3 : wc.cell? ⟨gb541, 3, none⟩ = some (.int .i64 a0_3) := (zaa BK541.o 3).trans rfl
          have hcz66_4 : wc.cell? ⟨gb541, 4, none⟩ = some (.slice A0_4 l0_4.length c0_4) := (zaa BK541.o 4).trans rfl
          have hcz66_5 : wc.cell? ⟨gb541, 5, none⟩ = some (.int .i64 a0_5) := (zaa BK541.o 5).trans rfl
          have hcz66_6 : wc.cell? ⟨gb541, 6, none⟩ = some (.string a0_6) := (zaa BK541.o 6).trans rfl
          have hcz66_7 : wc.cell? ⟨gb541, 7, none⟩ = some (.string a0_7) := (zaa BK541.o 7).trans rfl
          have hfz66_0 := zac BK541.o 0
          have hfz66_1 := zac BK541.o 1
          have hfz66_2 := zac BK541.o 2
          have hfz66_3 := zac BK541.o 3
          have hfz66_4 := zac BK541.o 4
          have hfz66_5 := zac BK541.o 5
          have hfz66_6 := zac BK541.o 6
          have hfz66_7 := zac BK541.o 7
          go_wp2_with (first | ((with_reducible refine zap (N := 120) rfl ?_); refine Kd.R_lit (Kd.int .i64) _ 3 ?hg (N := 120) ?hd (xs := ([a1] : List Int)) (inner := [.int .i64 a1]) (ok := fun _ => True) (okp := fun _ => True) ?hr ?hp (fun _ hk => hk) trivial (Below.refl _ _) (Nat.le_refl _) (by simp) ?_; (case hd => rfl); (case hg => rfl); (case hr => first | (go_simp; done) | (go_simp; rfl)); (case hp => exact (Reps.one (show Kd.M (Kd.int .i64) _ _ _ a1 [.int .i64 a1] from rfl) (Reps.none _ _))); intro v576 w67 ho68 hb hg_ hnew_; clear hg_ hnew_; (first | rw [← Ny575.out] at ho68 | (simp only [Int.reduceToNat] at ho68; rw [← Ny575.out] at ho68)); have n0_ := zab.mk (Kd.R_lower ho68 (zak (by repeat (first | (with_reducible first | exact HB.o | apply zad | apply zaf | apply zae | refine zag ?_ GE541.o) | exact HB.o)))); have n1_ := zab.mk (zam (g := gb541) (o := .cells #[.int .i64 a0_0, .slice A0_1 l0_1.length c0_1, .int .i64 a0_2, .int .i64 a0_3, .slice A0_4 l0_4.length c0_4, .int .i64 a0_5, .string a0_6, .string a0_7] 27 (0, 0)) (by (with_reducible repeat (first | refine zaj ?_ _ | refine zah ?_ | refine zai ?_ _)); exact BK541.o) hb); have n2_ := zab.mk (zal (by repeat (first | (with_reducible first | exact HB.o | apply zad | apply zaf | apply zae | refine zag ?_ GE541.o) | exact HB.o)) hb); clear BK541; clear HB; have HO577 := n0_; have BK541 := n1_; have HB := n2_; clear n0_ n1_ n2_; clear hb ho68))
          go_ret
          exact ⟨_, by first | rfl | (simp [errW_none, errW_some] <;> rfl) | (simp [*, errW_none, errW_some] <;> rfl), by (with_reducible repeat (first | apply Kd.R_alloc | apply Kd.R_drewN | apply Kd.R_drew)); exact HO577.o, by repeat (first | (with_reducible first | exact HB.o | apply zad | apply zaf | apply zae | refine zag ?_ GE541.o) | exact HB.o)⟩
        ·rw [if_neg c57] at H
         have c57b0 : (a1 == a0_2) = false := beq_eq_false_iff_ne.mpr c57
         have c57b1 : (a1 != a0_2) = true := bne_iff_ne.mpr c57
         obtain ⟨y578, hy578⟩ : ∃ y_ : List Int, y_ = (([a1] : List Int)) := ⟨_, rfl⟩
         replace H : (some y578) = some r := by first | (rw [hy578]; with_reducible exact H) | (have H2_ := (Option.bind_some _ _).symm.trans H; rw [hy578]; with_reducible exact H2_) | (have H2_ := (Option.bind_some _ _).symm.trans H; with_reducible exact H2_) | with_reducible exact H | (rw [hy578]; exact H) | exact H
         have Ny578 := zab.mk hy578
         clear hy578
         obtain rfl := Option.some.inj H
         have hcz69_0 : wc.cell? ⟨gb541, 0, none⟩ = some (.int .i64 a0_0) := (zaa BK541.o 0).trans rfl
         have hcz69_1 : wc.cell? ⟨gb541, 1, none⟩ = some (.slice A0_1 l0_1.length c0_1) := (zaa BK541.o 1).trans rfl
         have hcz69_2 : wc.cell? ⟨gb541, 2, none⟩ = some (.int .i64 a0_2) := (zaa BK541.o 2).trans rfl
         have hcz69_3 : wc.cell? ⟨gb541, 3, none⟩ = some (.int .i64 a0_3) := (zaa BK541.o 3).trans rfl
         have hcz69_4 : wc.cell? ⟨gb541, 4, none⟩ = some (.slice A0_4 l0_4.length c0_4) := (zaa BK541.o 4).trans rfl
         have hcz69_5 : wc.cell? ⟨gb541, 5, none⟩ = some (.int .i64 a0_5) := (zaa BK541.o 5).trans rfl
         have hcz69_6 : wc.cell? ⟨gb541, 6, none⟩ = some (.string a0_6) := (zaa BK541.o 6).trans rfl
         have hcz69_7 : wc.cell? ⟨gb541, 7, none⟩ = some (.string a0_7) := (zaa BK541.o 7).trans rfl
         have hfz69_0 := zac BK541.o 0
         have hfz69_1 := zac BK541.o 1
         have hfz69_2 := zac BK541.o 2
         have hfz69_3 := zac BK541.o 3
         have hfz69_4 := zac BK541.o 4
         have hfz69_5 := zac BK541.o 5
         have hfz69_6 := zac BK541.o 6
         have hfz69_7 := zac BK541.o 7
         go_wp2_with (first | ((with_reducible refine zap (N := 120) rfl ?_); refine Kd.R_lit (Kd.int .i64) _ 3 ?hg (N := 120) ?hd (xs := ([a1] : List Int)) (inner := [.int .i64 a1]) (ok := fun _ => True) (okp := fun _ => True) ?hr ?hp (fun _ hk => hk) trivial (Below.refl _ _) (Nat.le_refl _) (by simp) ?_; (case hd => rfl); (case hg => rfl); (case hr => first | (go_simp; done) | (go_simp; rfl)); (case hp => exact (Reps.one (show Kd.M (Kd.int .i64) _ _ _ a1 [.int .i64 a1] from rfl) (Reps.none _ _))); intro v579 w70 ho71 hb hg_ hnew_; clear hg_ hnew_; (first | rw [← Ny578.out] at ho71 | (simp only [Int.reduceToNat] at ho71; rw [← Ny578.out] at ho71)); have n0_ := zab.mk (Kd.R_lower ho71 (zak (by repeat (first | (with_reducible first | exact HB.o | apply zad | apply zaf | apply zae | refine zag ?_ GE541.o) | exact HB.o)))); have n1_ := zab.mk (zam (g := gb541) (o := .cells #[.int .i64 a0_0, .slice A0_1 l0_1.length c0_1, .int .i64 a0_2, .int .i64 a0_3, .slice A0_4 l0_4.length c0_4, .int .i64 a0_5, .string a0_6, .string a0_7] 27 (0, 0)) (by (with_reducible repeat (first | refine zaj ?_ _ | refine zah ?_ | refine zai ?_ _)); exact BK541.o) hb); have n2_ := zab.mk (zal (by repeat (first | (with_reducible first | exact HB.o | apply zad | apply zaf | apply zae | refine zag ?_ GE541.o) | exact HB.o)) hb); clear BK541; clear HB; have HO580 := n0_; have BK541 := n1_; have HB := n2_; clear n0_ n1_ n2_; clear hb ho71))
         go_ret
         exact ⟨_, by first | rfl | (simp [errW_none, errW_some] <;> rfl) | (simp [*, errW_none, errW_some] <;> rfl), by (with_reducible repeat (first | apply Kd.R_alloc | apply Kd.R_drewN | apply Kd.R_drew)); exact HO580.o, by repeat (first | (with_reducible first | exact HB.o | apply zad | apply zaf | apply zae | refine zag ?_ GE541.o) | exact HB.o)⟩
   ·rw [if_neg c42] at H
    have c42b0 : (a0_0 == 3) = false := beq_eq_false_iff_ne.mpr c42
    have c42b1 : (a0_0 != 3) = true := bne_iff_ne.mpr c42
    by_cases c72 : a0_0 = 4
    ·rw [if_pos c72] at H
     have c72b0 : (a0_0 == 4) = true := beq_iff_eq.mpr c72
     have c72b1 : (a0_0 != 4) = false := bne_eq_false_iff_eq.mpr c72
     clear c72
     by_cases c73 : a1 > a0_2
     ·rw [if_pos c73] at H
      have c73b0 : decide (a0_2 < a1) = true := decide_eq_true c73
      clear c73
      obtain ⟨y581, hy581⟩ : ∃ y_ : List Int, y_ = (([wrap64 ((wrap64 (a1 - 1)) + a0_3)] : List Int)) := ⟨_, rfl⟩
      replace H : (some y581) = some r := by first | (rw [hy581]; with_reducible exact H) | (have H2_ := (Option.bind_some _ _).symm.trans H; rw [hy581]; with_reducible exact H2_) | (have H2_ := (Option.bind_some _ _).symm.trans H; with_reducible exact H2_) | with_reducible exact H | (rw [hy581]; exact H) | exact H
      have Ny581 := zab.mk hy581
      clear hy581
      obtain rfl := Option.some.inj H
      go_enter Try.func46, Try.ntmps46
      go_wp2_with (first | ((with_reducible refine zap (N := 3) rfl ?_); refine zar ?hg (N := 3) ?hd (cs := #[.int .i64 a0_0, .slice A0_1 l0_1.length c0_1, .int .i64 a0_2, .int .i64 a0_3, .slice A0_4 l0_4.length c0_4, .int .i64 a0_5, .string a0_6, .string a0_7]) (t := 27) ?hr ?_; (case hd => rfl); (case hg => rfl); (case hr => first | (go_simp; done) | (go_simp; rfl)); intro gb541 hg w74 hbox hb; have n0_ := zab.mk (zal (by repeat (first | (with_reducible first | exact HB.o | apply zad | apply zaf | apply zae) | exact HB.o)) hb); have n1_ := zab.mk (hbox); have n2_ := zab.mk ((by rw [hg]; exact (zak (by repeat (first | (with_reducible first | exact HB.o | apply zad | apply zaf | apply zae) | exact HB.o))) : w.heap.size ≤ gb541)); have n3_ := zab.mk ((by rw [hg]; exact (zak (by repeat (first | (with_reducible first | exact HB.o | apply zad | apply zaf | apply zae) | exact HB.o))) : w.heap.size ≤ gb541)); clear HB; have HB := n0_; have BK541 := n1_; have GW541 := n2_; have GE541 := n3_; clear n0_ n1_ n2_ n3_; clear hb hbox hg; have hcz75_0 : w74.cell? ⟨gb541, 0, none⟩ = some (.int .i64 a0_0) := (zaa BK541.o 0).trans rfl; have hcz75_1 : w74.cell? ⟨gb541, 1, none⟩ = some (.slice A0_1 l0_1.length c0_1) := (zaa BK541.o 1).trans rfl; have hcz75_2 : w74.cell? ⟨gb541, 2, none⟩ = some (.int .i64 a0_2) := (zaa BK541.o 2).trans rfl; have hcz75_3 : w74.cell? ⟨gb541, 3, none⟩ = some (.int .i64 a0_3) := (zaa BK541.o 3).trans rfl; have hcz75_4 : w74.cell? ⟨gb541, 4, none⟩ = some (.slice A0_4 l0_4.length c0_4) := (zaa BK541.o 4).trans rfl; have hcz75_5 : w74.cell? ⟨gb541, 5, none⟩ = some (.int .i64 a0_5) := (zaa BK541.o 5).trans rfl; have hcz75_6 : w74.cell? ⟨gb541, 6, none⟩ = some (.string a0_6) := (zaa BK541.o 6).trans rfl; have hcz75_7 : w74.cell? ⟨gb541, 7, none⟩ = some (.string a0_7) := (zaa BK541.o 7).trans rfl; have hfz75_0 := zac BK541.o 0; have hfz75_1 := zac BK541.o 1; have hfz75_2 := zac BK541.o 2; have hfz75_3 := zac BK541.o 3; have hfz75_4 := zac BK541.o 4; have hfz75_5 := zac BK541.o 5; have hfz75_6 := zac BK541.o 6; have hfz75_7 := zac BK541.o 7) | ((with_reducible refine zap (N := 118) rfl ?_); refine Kd.R_lit (Kd.int .i64) _ 3 ?hg (N := 118) ?hd (xs := ([wrap64 ((wrap64 (a1 - 1)) + a0_3)] : List Int)) (inner := [.int .i64 (wrap64 ((wrap64 (a1 - 1)) + a0_3))]) (ok := fun _ => True) (okp := fun _ => True) ?hr ?hp (fun _ hk => hk) trivial (Below.refl _ _) (Nat.le_refl _) (by simp) ?_; (case hd => rfl); (case hg => rfl); (case hr => first | (go_simp; done) | (go_simp; rfl)); (case hp => exact (Reps.one (show Kd.M (Kd.int .i64) _ _ _ (wrap64 ((wrap64 (a1 - 1)) + a0_3)) [.int .i64 (wrap64 ((wrap64 (a1 - 1)) + a0_3))] from rfl) (Reps.none _ _))); intro v582 w76 ho77 hb hg_ hnew_; clear hg_ hnew_; (first | rw [← Ny581.out] at ho77 | (simp only [Int.reduceToNat] at ho77; rw [← Ny581.out] at ho77)); have n0_ := zab.mk (Kd.R_lower ho77 (zak (by repeat (first | (with_reducible first | exact HB.o | apply zad | apply zaf | apply zae | refine zag ?_ GE541.o) | exact HB.o)))); have n1_ := zab.mk (zam (g := gb541) (o := .cells #[.int .i64 a0_0, .slice A0_1 l0_1.length c0_1, .int .i64 a0_2, .int .i64 a0_3, .slice A0_4 l0_4.length c0_4, .int .i64 a0_5, .string a0_6, .string a0_7] 27 (0, 0)) (by (with_reducible repeat (first | refine zaj ?_ _ | refine zah ?_ | refine zai ?_ _)); exact BK541.o) hb); have n2_ := zab.mk (zal (by repeat (first | (with_reducible first | exact HB.o | apply zad | apply zaf | apply zae | refine zag ?_ GE541.o) | exact HB.o)) hb); clear BK541; clear HB; have HO583 := n0_; have BK541 := n1_; have HB := n2_; clear n0_ n1_ n2_; clear hb ho77))
      go_ret
      exact ⟨_, by first | rfl | (simp [errW_none, errW_some] <;> rfl) | (simp [*, errW_none, errW_some] <;> rfl), by (with_reducible repeat (first | apply Kd.R_alloc | apply Kd.R_drewN | apply Kd.R_drew)); exact HO583.o, by repeat (first | (with_reducible first | exact HB.o | apply zad | apply zaf | apply zae | refine zag ?_ GE541.o) | exact HB.o)⟩
     ·rw [if_neg c73] at H
      have c73b0 : decide (a0_2 < a1) = false := decide_eq_false c73
      clear c73
      obtain ⟨y584, hy584⟩ : ∃ y_ : List Int, y_ = (([a1] : List Int)) := ⟨_, rfl⟩
      replace H : (some y584) = some r := by first | (rw [hy584]; with_reducible exact H) | (have H2_ := (Option.bind_some _ _).symm.trans H; rw [hy584]; with_reducible exact H2_) | (have H2_ := (Option.bind_some _ _).symm.trans H; with_reducible exact H2_) | with_reducible exact H | (rw [hy584]; exact H) | exact H
      have Ny584 := zab.mk hy584
      clear hy584
      obtain rfl := Option.some.inj H
      go_enter Try.func46, Try.ntmps46
      go_wp2_with (first | ((with_reducible refine zap (N := 3) rfl ?_); refine zar ?hg (N := 3) ?hd (cs := #[.int .i64 a0_0, .slice A0_1 l0_1.length c0_1, .int .i64 a0_2, .int .i64 a0_3, .slice A0_4 l0_4.length c0_4, .int .i64 a0_5, .string a0_6, .string a0_7]) (t := 27) ?hr ?_; (case hd => rfl); (case hg => rfl); (case hr => first | (go_simp; done) | (go_simp; rfl)); intro gb541 hg w78 hbox hb; have n0_ := zab.mk (zal (by repeat (first | (with_reducible first | exact HB.o | apply zad | apply zaf | apply zae) | exact HB.o)) hb); have n1_ := zab.mk (hbox); have n2_ := zab.mk ((by rw [hg]; exact (zak (by repeat (first | (with_reducible first | exact HB.o | apply zad | apply zaf | apply zae) | exact HB.o))) : w.heap.size ≤ gb541)); have n3_ := zab.mk ((by rw [hg]; exact (zak (by repeat (first | (with_reducible first | exact HB.o | apply zad | apply zaf | apply zae) | exact HB.o))) : w.heap.size ≤ gb541)); clear HB; have HB := n0_; have BK541 := n1_; have GW541 := n2_; have GE541 := n3_; clear n0_ n1_ n2_ n3_; clear hb hbox hg; have hcz79_0 : w78.cell? ⟨gb541, 0, none⟩ = some (.int .i64 a0_0) := (zaa BK541.o 0).trans rfl; have hcz79_1 : w78.cell? ⟨gb541, 1, none⟩ = some (.slice A0_1 l0_1.length c0_1) := (zaa BK541.o 1).trans rfl; have hcz79_2 : w78.cell? ⟨gb541, 2, none⟩ = some (.int .i64 a0_2) := (zaa BK541.o 2).trans rfl; have hcz79_3 : w78.cell? ⟨gb541, 3, none⟩ = some (.int .i64 a0_3) := (zaa BK541.o 3).trans rfl; have hcz79_4 : w78.cell? ⟨gb541, 4, none⟩ = some (.slice A0_4 l0_4.length c0_4) := (zaa BK541.o 4).trans rfl; have hcz79_5 : w78.cell? ⟨gb541, 5, none⟩ = some (.int .i64 a0_5) := (zaa BK541.o 5).trans rfl; have hcz79_6 : w78.cell? ⟨gb541, 6, none⟩ = some (.string a0_6) := (zaa BK541.o 6).trans rfl; have hcz79_7 : w78.cell? ⟨gb541, 7, none⟩ = some (.string a0_7) := (zaa BK541.o 7).trans rfl; have hfz79_0 := zac BK541.o 0; have hfz79_1 := zac BK541.o 1; have hfz79_2 := zac BK541.o 2; have hfz79_3 := zac BK541.o 3; have hfz79_4 := zac BK541.o 4; have hfz79_5 := zac BK541.o 5; have hfz79_6 := zac BK541.o 6; have hfz79_7 := zac BK541.o 7) | ((with_reducible refine zap (N := 120) rfl ?_); refine Kd.R_lit (Kd.int .i64) _ 3 ?hg (N := 120) ?hd (xs := ([a1] : List Int)) (inner := [.int .i64 a1]) (ok := fun _ => True) (okp := fun _ => True) ?hr ?hp (fun _ hk => hk) trivial (Below.refl _ _) (Nat.le_refl _) (by simp) ?_; (case hd => rfl); (case hg => rfl); (case hr => first | (go_simp; done) | (go_simp; rfl)); (case hp => exact (Reps.one (show Kd.M (Kd.int .i64) _ _ _ a1 [.int .i64 a1] from rfl) (Reps.none _ _))); intro v585 w80 ho81 hb hg_ hnew_; clear hg_ hnew_; (first | rw [← Ny584.out] at ho81 | (simp only [Int.reduceToNat] at ho81; rw [← Ny584.out] at ho81)); have n0_ := zab.mk (Kd.R_lower ho81 (zak (by repeat (first | (with_reducible first | exact HB.o | apply zad | apply zaf | apply zae | refine zag ?_ GE541.o) | exact HB.o)))); have n1_ := zab.mk (zam (g := gb541) (o := .cells #[.int .i64 a0_0, .slice A0_1 l0_1.length c0_1, .int .i64 a0_2, .int .i64 a0_3, .slice A0_4 l0_4.length c0_4, .int .i64 a0_5, .string a0_6, .string a0_7] 27 (0, 0)) (by (with_reducible repeat (first | refine zaj ?_ _ | refine zah ?_ | refine zai ?_ _)); exact BK541.o) hb); have n2_ := zab.mk (zal (by repeat (first | (with_reducible first | exact HB.o | apply zad | apply zaf | apply zae | refine zag ?_ GE541.o) | exact HB.o)) hb); clear BK541; clear HB; have HO586 := n0_; have BK541 := n1_; have HB := n2_; clear n0_ n1_ n2_; clear hb ho81))
      go_ret
      exact ⟨_, by first | rfl | (simp [errW_none, errW_some] <;> rfl) | (simp [*, errW_none, errW_some] <;> rfl), by (with_reducible repeat (first | apply Kd.R_alloc | apply Kd.R_drewN | apply Kd.R_drew)); exact HO586.o, by repeat (first | (with_reducible first | exact HB.o | apply zad | apply zaf | apply zae | refine zag ?_ GE541.o) | exact HB.o)⟩
    ·rw [if_neg c72] at H
     have c72b0 : (a0_0 == 4) = false := beq_eq_false_iff_ne.mpr c72
     have c72b1 : (a0_0 != 4) = true := bne_iff_ne.mpr c72
     obtain ⟨y587, hy587⟩ : ∃ y_ : List Int, y_ = (([a1] : List Int)) := ⟨_, rfl⟩
     replace H : (some y587) = some r := by first | (rw [hy587]; with_reducible exact H) | (have H2_ := (Option.bind_some _ _).symm.trans H; rw [hy587]; with_reducible exact H2_) | (have H2_ := (Option.bind_some _ _).symm.trans H; with_reducible exact H2_) | with_reducible exact H | (rw [hy587]; exact H) | exact H
     have Ny587 := zab.mk hy587
     clear hy587
     obtain rfl := Option.some.inj H
     go_enter Try.func46, Try.ntmps46
     go_wp2_with (first | ((with_reducible refine zap (N := 3) rfl ?_); refine zar ?hg (N := 3) ?hd (cs := #[.int .i64 a0_0, .slice A0_1 l0_1.length c0_1, .int .i64 a0_2, .int .i64 a0_3, .slice A0_4 l0_4.length c0_4, .int .i64 a0_5, .string a0_6, .string a0_7]) (t := 27) ?hr ?_; (case hd => rfl); (case hg => rfl); (case hr => first | (go_simp; done) | (go_simp; rfl)); intro gb541 hg w82 hbox hb; have n0_ := zab.mk (zal (by repeat (first | (with_reducible first | exact HB.o | apply zad | apply zaf | apply zae) | exact HB.o)) hb); have n1_ := zab.mk (hbox); have n2_ := zab.mk ((by rw [hg]; exact (zak (by repeat (first | (with_reducible first | exact HB.o | apply zad | apply zaf | apply zae) | exact HB.o))) : w.heap.size ≤ gb541)); have n3_ := zab.mk ((by rw [hg]; exact (zak (by repeat (first | (with_reducible first | exact HB.o | apply zad | apply zaf | apply zae) | exact HB.o))) : w.heap.size ≤ gb541)); clear HB; have HB := n0_; have BK541 := n1_; have GW541 := n2_; have GE541 := n3_; clear n0_ n1_ n2_ n3_; clear hb hbox hg; have hcz83_0 : w82.cell? ⟨gb541, 0, none⟩ = some (.int .i64 a0_0) := (zaa BK541.o 0).trans rfl; have hcz83_1 : w82.cell? ⟨gb541, 1, none⟩ = some (.slice A0_1 l0_1.length c0_1) := (zaa BK541.o 1).trans rfl; have hcz83_2 : w82.cell? ⟨gb541, 2, none⟩ = some (.int .i64 a0_2) := (zaa BK541.o 2).trans rfl; have hcz83_3 : w82.cell? ⟨gb541, 3, none⟩ = some (.int .i64 a0_3) := (zaa BK541.o 3).trans rfl; have hcz83_4 : w82.cell? ⟨gb541, 4, none⟩ = some (.slice A0_4 l0_4.length c0_4) := (zaa BK541.o 4).trans rfl; have hcz83_5 : w82.cell? ⟨gb541, 5, none⟩ = some (.int .i64 a0_5) := (zaa BK541.o 5).trans rfl; have hcz83_6 : w82.cell? ⟨gb541, 6, none⟩ = some (.string a0_6) := (zaa BK541.o 6).trans rfl; have hcz83_7 : w82.cell? ⟨gb541, 7, none⟩ = some (.string a0_7) := (zaa BK541.o 7).trans rfl; have hfz83_0 := zac BK541.o 0; have hfz83_1 := zac BK541.o 1; have hfz83_2 := zac BK541.o 2; have hfz83_3 := zac BK541.o 3; have hfz83_4 := zac BK541.o 4; have hfz83_5 := zac BK541.o 5; have hfz83_6 := zac BK541.o 6; have hfz83_7 := zac BK541.o 7) | ((with_reducible refine zap (N := 120) rfl ?_); refine Kd.R_lit (Kd.int .i64) _ 3 ?hg (N := 120) ?hd (xs := ([a1] : List Int)) (inner := [.int .i64 a1]) (ok := fun _ => True) (okp := fun _ => True) ?hr ?hp (fun _ hk => hk) trivial (Below.refl _ _) (Nat.le_refl _) (by simp) ?_; (case hd => rfl); (case hg => rfl); (case hr => first | (go_simp; done) | (go_simp; rfl)); (case hp => exact (Reps.one (show Kd.M (Kd.int .i64) _ _ _ a1 [.int .i64 a1] from rfl) (Reps.none _ _))); intro v588 w84 ho85 hb hg_ hnew_; clear hg_ hnew_; (first | rw [← Ny587.out] at ho85 | (simp only [Int.reduceToNat] at ho85; rw [← Ny587.out] at ho85)); have n0_ := zab.mk (Kd.R_lower ho85 (zak (by repeat (first | (with_reducible first | exact HB.o | apply zad | apply zaf | apply zae | refine zag ?_ GE541.o) | exact HB.o)))); have n1_ := zab.mk (zam (g := gb541) (o := .cells #[.int .i64 a0_0, .slice A0_1 l0_1.length c0_1, .int .i64 a0_2, .int .i64 a0_3, .slice A0_4 l0_4.length c0_4, .int .i64 a0_5, .string a0_6, .string a0_7] 27 (0, 0)) (by (with_reducible repeat (first | refine zaj ?_ _ | refine zah ?_ | refine zai ?_ _)); exact BK541.o) hb); have n2_ := zab.mk (zal (by repeat (first | (with_reducible first | exact HB.o | apply zad | apply zaf | apply zae | refine zag ?_ GE541.o) | exact HB.o)) hb); clear BK541; clear HB; have HO589 := n0_; have BK541 := n1_; have HB := n2_; clear n0_ n1_ n2_; clear hb ho85))
     go_ret
     exact ⟨_, by first | rfl | (simp [errW_none, errW_some] <;> rfl) | (simp [*, errW_none, errW_some] <;> rfl), by (with_reducible repeat (first | apply Kd.R_alloc | apply Kd.R_drewN | apply Kd.R_drew)); exact HO589.o, by repeat (first | (with_reducible first | exact HB.o | apply zad | apply zaf | apply zae | refine zag ?_ GE541.o) | exact HB.o)⟩

end Go.Proofs.Ytikgflpobacndaa.P
