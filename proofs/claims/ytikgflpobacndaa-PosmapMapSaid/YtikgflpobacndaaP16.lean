--m
/- Written by wip/tool/hprint.py (the kit's print.py with hand-proved contracts set in): contracts of the functions that the statements of this seat reach, without conditions beyond those named in each theorem. -/
import Derived.Test.YtikgflpobacndaaP0
namespace Go.Proofs.Ytikgflpobacndaa.P
open Go.RowKit Go.Proofs.YtikgflpobacndaaW.PrintWords Go.Proofs.YtikgflpobacndaaW.PrintLast Go.Proofs.YtikgflpobacndaaW.PrintMore
attribute [local go_sem] zaz zaA zaB zaC zaD zaE zaF zaG   -- for this text's walks alone
set_option linter.unusedVariables false
set_option linter.unusedSimpArgs false

/-! ### vinculumref09_left: function 31 -/
mutual
def vinculumref09_left.l0 : Nat → Int → Int → Int → ByteArray → Int → List (S24) → Option (Int)
 | 0, _, _, _, _, _, _ => none
 | k + 1, x1, x5, x235000, x235001, x235002, x235003 => if x5 < (x235003.length : Int) then (if x1 ≥ 0 then (if 0 ≤ x5 then ((vinculumref09_left.f k ((rd_T24 x235003 x5).f0) ((rd_T24 x235003 x5).f1) ((rd_T24 x235003 x5).f2) ((rd_T24 x235003 x5).f3) x1).bind fun t236 => (vinculumref09_left.l0 k t236 (wrap64 (x5 + 1)) x235000 x235001 x235002 x235003)) else (none)) else (some x1)) else (some x1)
def vinculumref09_left.f : Nat → Int → ByteArray → Int → List (S24) → Int → Option (Int)
 | 0, _, _, _, _, _ => none
 | k + 1, a0_0, a0_1, a0_2, l0_3, a1 => vinculumref09_left.l0 k (wrap64 (a1 - 1)) 0 a0_0 a0_1 a0_2 l0_3
end
theorem vinculumref09_left.mono_l : ∀ k, (∀ y0 y1 y2 y3 y4, LeO (vinculumref09_left.f k y0 y1 y2 y3 y4) (vinculumref09_left.f (k + 1) y0 y1 y2 y3 y4)) ∧ (∀ y0 y1 y2 y3 y4 y5, LeO (vinculumref09_left.l0 k y0 y1 y2 y3 y4 y5) (vinculumref09_left.l0 (k + 1) y0 y1 y2 y3 y4 y5))
 | 0 => ⟨fun _ _ _ _ _ r h => by simp [vinculumref09_left.f] at h, fun _ _ _ _ _ _ r h => by simp [vinculumref09_left.l0] at h⟩
 | k + 1 => by
  obtain ⟨ih0, ih1⟩ := vinculumref09_left.mono_l k
  refine ⟨?_, ?_⟩
  ·intro y0 y1 y2 y3 y4
   unfold vinculumref09_left.f
   repeat' first
   | (with_reducible exact ih0 _ _ _ _ _)
   | (with_reducible exact ih1 _ _ _ _ _ _)
   | (with_reducible exact LeO.refl _)
   | (with_reducible exact LeO.none _)
   | (with_reducible refine LeO.ite ?_ ?_)
   | (with_reducible refine LeO.bind ?_ (fun _ => ?_))
   | exact ih0 _ _ _ _ _
   | exact ih1 _ _ _ _ _ _
   | exact LeO.none _
   | refine LeO.ite ?_ ?_
   | refine LeO.bind ?_ (fun _ => ?_)
  ·intro y0 y1 y2 y3 y4 y5
   unfold vinculumref09_left.l0
   repeat' first
   | (with_reducible exact ih0 _ _ _ _ _)
   | (with_reducible exact ih1 _ _ _ _ _ _)
   | (with_reducible exact LeO.refl _)
   | (with_reducible exact LeO.none _)
   | (with_reducible refine LeO.ite ?_ ?_)
   | (with_reducible refine LeO.bind ?_ (fun _ => ?_))
   | exact ih0 _ _ _ _ _
   | exact ih1 _ _ _ _ _ _
   | exact LeO.none _
   | refine LeO.ite ?_ ?_
   | refine LeO.bind ?_ (fun _ => ?_)
theorem vinculumref09_left.mono : ∀ a0 a1 a2 a3 a4 k, LeO (vinculumref09_left.f k a0 a1 a2 a3 a4) (vinculumref09_left.f (k + 1) a0 a1 a2 a3 a4) := by
 intro a0 a1 a2 a3 a4 k
 obtain ⟨ih0, ih1⟩ := vinculumref09_left.mono_l k
 exact ih0 a0 a1 a2 a3 a4
set_option maxHeartbeats 8000000 in
set_option maxRecDepth 100000 in
theorem vinculumref09_left.calls (k : Nat) : ∀ (a0_0 : Int) (a0_1 : ByteArray) (a0_2 : Int) (A0_3 : Option Addr) (c0_3 : Nat) (l0_3 : List (S24)) (a1 : Int) (r : Int) (w : World) (hr0_3 : Kd.C k24 w A0_3 l0_3.length l0_3) (hc0_3 : l0_3.length ≤ c0_3) (h : vinculumref09_left.f k a0_0 a0_1 a0_2 l0_3 a1 = some r),
  Calls Try.prog 31 #[.agg #[.int .i64 a0_0, .string a0_1, .int .i64 a0_2, .slice A0_3 l0_3.length c0_3], .int .i64 a1] w fun e w' => e = .returned (.int .i64 r) ∧ Below w.heap.size w w' := by
 induction k using Nat.strongRecOn with
 | _ k ih =>
 intro a0_0 a0_1 a0_2 A0_3 c0_3 l0_3 a1 r w hr0_3 hc0_3 h
 cases k with
 | zero => exact absurd h (by simp [vinculumref09_left.f])
 | succ k =>
 simp only [vinculumref09_left.f] at h
 have hu24 := Try.underlying24
 have HR0_3 := zab.mk hr0_3
 have HC0_3 := zab.mk hc0_3
 clear hr0_3 hc0_3
 have HB := zab.mk (Below.refl w.heap.size w)
 have H : (vinculumref09_left.l0 k (wrap64 (a1 - 1)) 0 a0_0 a0_1 a0_2 l0_3) = some r := h
 clear h
 have H' := zab.mk H
 clear H
 go_enter Try.func31, Try.ntmps31
 go_wp2_with (first | ((with_reducible refine zaq (N := 2) rfl ?_); refine zas ?hg (N := 2) ?hd (cs := #[.int .i64 a0_0, .string a0_1, .int .i64 a0_2, .slice A0_3 l0_3.length c0_3]) (t := 24) ?hr ?_; (case hd => rfl); (case hg => rfl); (case hr => first | (go_simp; done) | (go_simp; rfl)); intro gb234 hg w3 hbox hb; have n0_ := zab.mk (zal (by repeat (first | (with_reducible first | exact HB.o | apply zad | apply zaf | apply zae) | exact HB.o)) hb); have n1_ := zab.mk (hbox); have n2_ := zab.mk ((by rw [hg]; exact (zak (by repeat (first | (with_reducible first | exact HB.o | apply zad | apply zaf | apply zae) | exact HB.o))) : w.heap.size ≤ gb234)); have n3_ := zab.mk ((by rw [hg]; exact (zak (by repeat (first | (with_reducible first | exact HB.o | apply zad | apply zaf | apply zae) | exact HB.o))) : w.heap.size ≤ gb234)); clear HB; have HB := n0_; have BK234 := n1_; have GW234 := n2_; have GE234 := n3_; clear n0_ n1_ n2_ n3_; clear hb hbox hg))
 go_loopg [1, 5] k (fun kq v1 v5 w' => ∃ (x1_1 : Int) (x5_1 : Int), v1 = .int .i64 x1_1 ∧ v5 = .int .i64 x5_1 ∧ zab (vinculumref09_left.l0 kq x1_1 x5_1 a0_0 a0_1 a0_2 l0_3 = some r) ∧ zab (kq ≤ k) ∧ zab (w'.heap[gb234]? = some (.cells #[.int .i64 a0_0, .string a0_1, .int .i64 a0_2, (.slice A0_3 l0_3.length c0_3)] 24 (0, 0))) ∧ zab (Below w.heap.size w w'))
 case atStart => exact ⟨(wrap64 (a1 - 1)), (0), (by first | rfl | (simp; done) | (simp [*]; done)), (by first | rfl | (simp; done) | (simp [*]; done)), H', ⟨Nat.le_refl _⟩, ⟨by (with_reducible repeat (first | refine zaj ?_ _ | refine zah ?_ | refine zai ?_ _)); exact BK234.o⟩, ⟨by repeat (first | (with_reducible first | exact HB.o | apply zad | apply zaf | apply zae | refine zag ?_ GE234.o) | exact HB.o)⟩⟩
 case round =>
  clear H'
  try clear p2
  try clear c3
  obtain ⟨x1_1, x5_1, rfl, rfl, HA, HK1, BK234, HB⟩ := hrel
  cases gk with
  | zero => exact absurd HA.o (by simp [vinculumref09_left.l0])
  | succ k1 =>
   have H := HA.o
   clear HA
   simp only [vinculumref09_left.l0] at H
   by_cases c4 : x5_1 < (l0_3.length : Int)
   ·rw [if_pos c4] at H
    have c4b0 : decide (x5_1 < (l0_3.length : Int)) = true := decide_eq_true c4
    clear c4
    by_cases c5 : x1_1 ≥ 0
    ·rw [if_pos c5] at H
     have c5b0 : decide (0 ≤ x1_1) = true := decide_eq_true c5
     clear c5
     by_cases c6 : 0 ≤ x5_1
     ·rw [if_pos c6] at H
      have c6b0 : decide (0 ≤ x5_1) = true := decide_eq_true c6
      clear c6
      replace H := Option.bind_eq_some_iff.mp H
      obtain ⟨t236, A70, H⟩ := H
      replace H : (vinculumref09_left.l0 k1 t236 (wrap64 (x5_1 + 1)) a0_0 a0_1 a0_2 l0_3) = some r := H
      have A7 := zab.mk A70
      clear A70
      have H' := zab.mk H
      clear H
      have hcz8_0 : wr.cell? ⟨gb234, 0, none⟩ = some (.int .i64 a0_0) := (zaa BK234.o 0).trans rfl
      have hcz8_1 : wr.cell? ⟨gb234, 1, none⟩ = some (.string a0_1) := (zaa BK234.o 1).trans rfl
      have hcz8_2 : wr.cell? ⟨gb234, 2, none⟩ = some (.int .i64 a0_2) := (zaa BK234.o 2).trans rfl
      have hcz8_3 : wr.cell? ⟨gb234, 3, none⟩ = some (.slice A0_3 l0_3.length c0_3) := (zaa BK234.o 3).trans rfl
      have hfz8_0 := zac BK234.o 0
      have hfz8_1 := zac BK234.o 1
      have hfz8_2 := zac BK234.o 2
      have hfz8_3 := zac BK234.o 3
      have p235 : 0 ≤ (x5_1 : Int) := of_decide_eq_true (by first | (with_reducible assumption) | assumption)
      have q235 : x5_1 < (l0_3.length : Int) := of_decide_eq_true (by first | (with_reducible assumption) | assumption)
      obtain ⟨ad235, A235_3, c235_3, e235, hx235_0, hx235_1, hx235_2, hx235_3, hl235_3, hi235_3⟩ := at_T24 HR0_3.o x5_1 p235 q235
      cases e235
      replace hx235_0 := (HB.o.cell (World.block_lt_of_cell? w _ hx235_0)).trans hx235_0
      replace hx235_1 := (HB.o.cell (World.block_lt_of_cell? w _ hx235_1)).trans hx235_1
      replace hx235_2 := (HB.o.cell (World.block_lt_of_cell? w _ hx235_2)).trans hx235_2
      replace hx235_3 := (HB.o.cell (World.block_lt_of_cell? w _ hx235_3)).trans hx235_3
      have HR235_3 := zab.mk hi235_3
      have HC235_3 := zab.mk hl235_3
      clear hi235_3 hl235_3
      replace p235 := eq_true p235
      replace q235 := eq_true q235
      go_wp2_with (first | ((with_reducible refine zax (f := 31) rfl ?_); refine zay (some 25) rfl rfl Try.func31 (by kernel_rfl) rfl #[.agg #[.int .i64 ((rd_T24 l0_3 x5_1).f0), .string ((rd_T24 l0_3 x5_1).f1), .int .i64 ((rd_T24 l0_3 x5_1).f2), .slice A235_3 ((rd_T24 l0_3 x5_1).f3).length c235_3], .int .i64 x1_1] rfl (by (try simp only [List.map_toArray, List.map_cons, List.map_nil]); first | done | rfl | (simp only [List.length_drop, List.length_take]; rfl)) ?_; (with_reducible refine (ih k1 (by have := HK1.o; omega) ((rd_T24 l0_3 x5_1).f0) ((rd_T24 l0_3 x5_1).f1) ((rd_T24 l0_3 x5_1).f2) _ _ ((rd_T24 l0_3 x5_1).f3) x1_1 t236 _ ?side1 ?side2 A7.o).mono ?_); (case side1 => repeat (first | exact (Kd.C_below HR235_3.o HB.o) | (with_reducible first | refine Kd.C_alloc ?_ _ | refine Kd.C_drewN ?_ _ | refine Kd.C_drew ?_))); (case side2 => exact HC235_3.out); rintro e w9 ⟨rfl, hb⟩; refine ⟨_, rfl, ?_⟩; have n0_ := zab.mk (zam (by (with_reducible repeat (first | refine zaj ?_ _ | refine zah ?_ | refine zai ?_ _)); exact BK234.o) hb); have n1_ := zab.mk (zal (by repeat (first | (with_reducible first | exact HB.o | apply zad | apply zaf | apply zae | refine zag ?_ GE234.o) | exact HB.o)) hb); clear BK234; clear HB; have BK234 := n0_; have HB := n1_; clear n0_ n1_; (try clear hb); (try clear hb2); (try clear hk); (try clear hi)))
      go_roundg k1
      case measure => have := HK1.o; omega
      case rel => exact ⟨(t236), (wrap64 (x5_1 + 1)), (by first | rfl | (simp; done) | (simp [*]; done)), (by first | rfl | (simp; done) | (simp [*]; done)), H', ⟨by have := HK1.o; omega⟩, ⟨by (with_reducible repeat (first | refine zaj ?_ _ | refine zah ?_ | refine zai ?_ _)); exact BK234.o⟩, ⟨by repeat (first | (with_reducible first | exact HB.o | apply zad | apply zaf | apply zae | refine zag ?_ GE234.o) | exact HB.o)⟩⟩
     ·rw [if_neg c6] at H
      exact absurd H (by simp)
    ·rw [if_neg c5] at H
     have c5b0 : decide (0 ≤ x1_1) = false := decide_eq_false c5
     clear c5
     obtain rfl := Option.some.inj H
     have hcz10_0 : wr.cell? ⟨gb234, 0, none⟩ = some (.int .i64 a0_0) := (zaa BK234.o 0).trans rfl
     have hcz10_1 : wr.cell? ⟨gb234, 1, none⟩ = some (.string a0_1) := (zaa BK234.o 1).trans rfl
     have hcz10_2 : wr.cell? ⟨gb234, 2, none⟩ = some (.int .i64 a0_2) := (zaa BK234.o 2).trans rfl
     have hcz10_3 : wr.cell? ⟨gb234, 3, none⟩ = some (.slice A0_3 l0_3.length c0_3) := (zaa BK234.o 3).trans rfl
     have hfz10_0 := zac BK234.o 0
     have hfz10_1 := zac BK234.o 1
     have hfz10_2 := zac BK234.o 2
     have hfz10_3 := zac BK234.o 3
     go_wp2
     go_ret
     exact ⟨by first | rfl | (simp [errW_none, errW_some] <;> rfl) | (simp [*, errW_none, errW_some] <;> rfl), by repeat (first | (with_reducible first | exact HB.o | apply zad | apply zaf | apply zae | refine zag ?_ GE234.o) | exact HB.o)⟩
   ·rw [if_neg c4] at H
    have c4b0 : decide (x5_1 < (l0_3.length : Int)) = false := decide_eq_false c4
    clear c4
    obtain rfl := Option.some.inj H
    have hcz11_0 : wr.cell? ⟨gb234, 0, none⟩ = some (.int .i64 a0_0) := (zaa BK234.o 0).trans rfl
    have hcz11_1 : wr.cell? ⟨gb234, 1, none⟩ = some (.string a0_1) := (zaa BK234.o 1).trans rfl
    have hcz11_2 : wr.cell? ⟨gb234, 2, none⟩ = some (.int .i64 a0_2) := (zaa BK234.o 2).trans rfl
    have hcz11_3 : wr.cell? ⟨gb234, 3, none⟩ = some (.slice A0_3 l0_3.length c0_3) := (zaa BK234.o 3).trans rfl
    have hfz11_0 := zac BK234.o 0
    have hfz11_1 := zac BK234.o 1
    have hfz11_2 := zac BK234.o 2
    have hfz11_3 := zac BK234.o 3
    go_wp2
    go_ret
    exact ⟨by first | rfl | (simp [errW_none, errW_some] <;> rfl) | (simp [*, errW_none, errW_some] <;> rfl), by repeat (first | (with_reducible first | exact HB.o | apply zad | apply zaf | apply zae | refine zag ?_ GE234.o) | exact HB.o)⟩

end Go.Proofs.Ytikgflpobacndaa.P
