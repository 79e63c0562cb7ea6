--m
/- Written by wip/tool/hprint.py (the kit's print.py with hand-proved contracts set in): contracts of the functions that the statements of this seat reach, without conditions beyond those named in each theorem. -/
import Derived.Test.YtoieknocpphjoaaDoorP0
import Derived.Test.YtoieknocpphjoaaDoorP21
import Derived.Test.YtoieknocpphjoaaDoorP22
import Derived.Test.YtoieknocpphjoaaDoorP23
import Derived.Test.YtoieknocpphjoaaDoorP24
namespace Go.Proofs.YtoieknocpphjoaaDoor.P
open Go.RowKit Go.Proofs.YtoieknocpphjoaaDoorW.PrintWords Go.Proofs.YtoieknocpphjoaaDoorW.PrintLast Go.Proofs.YtoieknocpphjoaaDoorW.PrintMore
attribute [local go_sem] zay zaz zaA zaB zaC zaD zaE zaF   -- for this text's walks alone
set_option linter.unusedVariables false
set_option linter.unusedSimpArgs false

/-! ### vinculumlaw02_op: function 21 -/
def vinculumlaw02_op.j0 : Nat → Int → Bool → Int → Int → Int → Int → Option (Int × Int × Int)
 | 0, _, _, _, _, _, _ => none
 | k + 1, x0, x17, x192000, x192001, x193000, x193001 => if x17 = true then (some (0, 0, 2)) else (if x0 = 0 then ((rational_Add.f k x192000 x192001 x193000 x193001).bind fun bt194 => (some (bt194.1, bt194.2.1, bt194.2.2))) else (if x0 = 1 then ((rational_Sub.f k x192000 x192001 x193000 x193001).bind fun bt197 => (some (bt197.1, bt197.2.1, bt197.2.2))) else (if x0 = 2 then ((rational_Mul.f k x192000 x192001 x193000 x193001).bind fun bt200 => (some (bt200.1, bt200.2.1, bt200.2.2))) else ((rational_Div.f k x192000 x192001 x193000 x193001).bind fun bt203 => (some (bt203.1, bt203.2.1, bt203.2.2))))))
def vinculumlaw02_op.f (k : Nat) (a0 : Int) (a1_0 : Int) (a1_1 : Int) (a2 : Int) (a3_0 : Int) (a3_1 : Int) (a4 : Int) : Option (Int × Int × Int) := if a2 = 0 then (vinculumlaw02_op.j0 k a0 (a4 != 0) a1_0 a1_1 a3_0 a3_1) else (vinculumlaw02_op.j0 k a0 true a1_0 a1_1 a3_0 a3_1)
theorem vinculumlaw02_op.mono_l : ∀ k, (∀ y0 y1 y2 y3 y4 y5, LeO (vinculumlaw02_op.j0 k y0 y1 y2 y3 y4 y5) (vinculumlaw02_op.j0 (k + 1) y0 y1 y2 y3 y4 y5))
 | 0 => fun _ _ _ _ _ _ r h => by simp [vinculumlaw02_op.j0] at h
 | k + 1 => by
  have ih0 := vinculumlaw02_op.mono_l k
  ·intro y0 y1 y2 y3 y4 y5
   unfold vinculumlaw02_op.j0
   repeat' first
   | (with_reducible exact ih0 _ _ _ _ _ _)
   | (with_reducible exact rational_Add.mono _ _ _ _ _)
   | (with_reducible exact rational_Div.mono _ _ _ _ _)
   | (with_reducible exact rational_Mul.mono _ _ _ _ _)
   | (with_reducible exact rational_Sub.mono _ _ _ _ _)
   | (with_reducible exact LeO.refl _)
   | (with_reducible exact LeO.none _)
   | (with_reducible refine LeO.ite ?_ ?_)
   | (with_reducible refine LeO.bind ?_ (fun _ => ?_))
   | exact ih0 _ _ _ _ _ _
   | exact rational_Add.mono _ _ _ _ _
   | exact rational_Div.mono _ _ _ _ _
   | exact rational_Mul.mono _ _ _ _ _
   | exact rational_Sub.mono _ _ _ _ _
   | exact LeO.none _
   | refine LeO.ite ?_ ?_
   | refine LeO.bind ?_ (fun _ => ?_)
theorem vinculumlaw02_op.mono : ∀ a0 a1 a2 a3 a4 a5 a6 k, LeO (vinculumlaw02_op.f k a0 a1 a2 a3 a4 a5 a6) (vinculumlaw02_op.f (k + 1) a0 a1 a2 a3 a4 a5 a6) := by
 intro a0 a1 a2 a3 a4 a5 a6 k
 have ih0 := vinculumlaw02_op.mono_l k
 unfold vinculumlaw02_op.f
 repeat' first
   | (with_reducible exact ih0 _ _ _ _ _ _)
   | (with_reducible exact rational_Add.mono _ _ _ _ _)
   | (with_reducible exact rational_Div.mono _ _ _ _ _)
   | (with_reducible exact rational_Mul.mono _ _ _ _ _)
   | (with_reducible exact rational_Sub.mono _ _ _ _ _)
   | (with_reducible exact LeO.refl _)
   | (with_reducible exact LeO.none _)
   | (with_reducible refine LeO.ite ?_ ?_)
   | (with_reducible refine LeO.bind ?_ (fun _ => ?_))
   | exact ih0 _ _ _ _ _ _
   | exact rational_Add.mono _ _ _ _ _
   | exact rational_Div.mono _ _ _ _ _
   | exact rational_Mul.mono _ _ _ _ _
   | exact rational_Sub.mono _ _ _ _ _
   | exact LeO.none _
   | refine LeO.ite ?_ ?_
   | refine LeO.bind ?_ (fun _ => ?_)
set_option maxHeartbeats 8000000 in
set_option maxRecDepth 100000 in
theorem vinculumlaw02_op.calls (k : Nat) (a0 : Int) (a1_0 : Int) (a1_1 : Int) (a2 : Int) (a3_0 : Int) (a3_1 : Int) (a4 : Int) (r1 : Int) (r2 : Int) (r3 : Int) (w : World) (h : vinculumlaw02_op.f k a0 a1_0 a1_1 a2 a3_0 a3_1 a4 = some (r1, r2, r3)) :
  Calls Tryd.prog 21 #[.int .i64 a0, .agg #[.int .i64 a1_0, .int .i64 a1_1], .int .i64 a2, .agg #[.int .i64 a3_0, .int .i64 a3_1], .int .i64 a4] w fun e w' => e = .returned (.tuple #[.agg #[.int .i64 r1, .int .i64 r2], .int .i64 r3]) ∧ Below w.heap.size w w' := by
 have hu24 := Tryd.underlying24
 have HB := zaa.mk (Below.refl w.heap.size w)
 have H : (if a2 = 0 then (vinculumlaw02_op.j0 k a0 (a4 != 0) a1_0 a1_1 a3_0 a3_1) else (vinculumlaw02_op.j0 k a0 true a1_0 a1_1 a3_0 a3_1)) = some (r1, r2, r3) := h
 clear h
 have HC6 := zaa.mk H
 clear H
 go_enter Tryd.func21, Tryd.ntmps21
 go_upto_region 1 with (first | ((with_reducible refine zaq (N := 6) rfl ?_); refine zar ?hg (N := 6) ?hd (cs := #[.int .i64 a1_0, .int .i64 a1_1]) (t := 24) ?hr ?_; (case hd => rfl); (case hg => rfl); (case hr => first | (go_simp; done) | (go_simp; rfl)); intro gb191 hg w7 hbox hb; have n0_ := zaa.mk (zao (by repeat (first | (with_reducible first | exact HB.o | apply zaf | apply zah | apply zag) | exact HB.o)) hb); have n1_ := zaa.mk (hbox); have n2_ := zaa.mk ((by rw [hg]; exact (zan (by repeat (first | (with_reducible first | exact HB.o | apply zaf | apply zah | apply zag) | exact HB.o))) : w.heap.size ≤ gb191)); have n3_ := zaa.mk ((by rw [hg]; exact (zan (by repeat (first | (with_reducible first | exact HB.o | apply zaf | apply zah | apply zag) | exact HB.o))) : w.heap.size ≤ gb191)); clear HB; have HB := n0_; have BK191 := n1_; have GW191 := n2_; have GE191 := n3_; clear n0_ n1_ n2_ n3_; clear hb hbox hg) | ((with_reducible refine zaq (N := 8) rfl ?_); refine zar ?hg (N := 8) ?hd (cs := #[.int .i64 a3_0, .int .i64 a3_1]) (t := 24) ?hr ?_; (case hd => rfl); (case hg => rfl); (case hr => first | (go_simp; done) | (go_simp; rfl)); intro gb192 hg w8 hbox hb; have n0_ := zaa.mk (zaj (by (with_reducible repeat (first | refine zad ?_ _ | refine zab ?_ | refine zac ?_ _)); exact BK191.o) hb); have n1_ := zaa.mk (zao (by repeat (first | (with_reducible first | exact HB.o | apply zaf | apply zah | apply zag | refine zae ?_ GE191.o) | exact HB.o)) hb); have n2_ := zaa.mk (hbox); have n3_ := zaa.mk ((by rw [hg]; exact (zan (by repeat (first | (with_reducible first | exact HB.o | apply zaf | apply zah | apply zag | refine zae ?_ GE191.o) | exact HB.o))) : w.heap.size ≤ gb192)); have n4_ := zaa.mk ((by rw [hg]; exact (zan (by repeat (first | (with_reducible first | exact HB.o | apply zaf | apply zah | apply zag | refine zae ?_ GE191.o) | exact HB.o))) : w.heap.size ≤ gb192)); have n5_ := zaa.mk ((by rw [hg]; exact Nat.ne_of_lt (zal (g := gb191) (o := .cells #[.int .i64 a1_0, .int .i64 a1_1] 24 (0, 0)) (by (with_reducible repeat (first | refine zad ?_ _ | refine zab ?_ | refine zac ?_ _)); exact BK191.o)) : gb191 ≠ gb192)); have n6_ := zaa.mk ((by rw [hg]; exact Nat.ne_of_gt (zal (g := gb191) (o := .cells #[.int .i64 a1_0, .int .i64 a1_1] 24 (0, 0)) (by (with_reducible repeat (first | refine zad ?_ _ | refine zab ?_ | refine zac ?_ _)); exact BK191.o)) : gb192 ≠ gb191)); clear BK191; clear HB; have BK191 := n0_; have HB := n1_; have BK192 := n2_; have GW192 := n3_; have GE192 := n4_; have NB191_192 := n5_; have NB192_191 := n6_; clear n0_ n1_ n2_ n3_ n4_ n5_ n6_; clear hb hbox hg) | ((with_reducible refine zaq (N := 10) rfl ?_); refine zar ?hg (N := 10) ?hd (cs := #[.int .i64 0, .int .i64 0]) (t := 24) ?hr ?_; (case hd => rfl); (case hg => rfl); (case hr => first | (go_simp; done) | (go_simp; rfl)); intro gb193 hg w9 hbox hb; have n0_ := zaa.mk (zaj (by (with_reducible repeat (first | refine zad ?_ _ | refine zab ?_ | refine zac ?_ _)); exact BK191.o) hb); have n1_ := zaa.mk (zaj (by (with_reducible repeat (first | refine zad ?_ _ | refine zab ?_ | refine zac ?_ _)); exact BK192.o) hb); have n2_ := zaa.mk (zao (by repeat (first | (with_reducible first | exact HB.o | apply zaf | apply zah | apply zag | refine zae ?_ GE191.o | refine zae ?_ GE192.o) | exact HB.o)) hb); have n3_ := zaa.mk (hbox); have n4_ := zaa.mk ((by rw [hg]; exact (zan (by repeat (first | (with_reducible first | exact HB.o | apply zaf | apply zah | apply zag | refine zae ?_ GE191.o | refine zae ?_ GE192.o) | exact HB.o))) : w.heap.size ≤ gb193)); have n5_ := zaa.mk ((by rw [hg]; exact (zan (by repeat (first | (with_reducible first | exact HB.o | apply zaf | apply zah | apply zag | refine zae ?_ GE191.o | refine zae ?_ GE192.o) | exact HB.o))) : w.heap.size ≤ gb193)); have n6_ := zaa.mk ((by rw [hg]; exact Nat.ne_of_lt (zal (g := gb191) (o := .cells #[.int .i64 a1_0, .int .i64 a1_1] 24 (0, 0)) (by (with_reducible repeat (first | refine zad ?_ _ | refine zab ?_ | refine zac ?_ _)); exact BK191.o)) : gb191 ≠ gb193)); have n7_ := zaa.mk ((by rw [hg]; exact Nat.ne_of_gt (zal (g := gb191) (o := .cells #[.int .i64 a1_0, .int .i64 a1_1] 24 (0, 0)) (by (with_reducible repeat (first | refine zad ?_ _ | refine zab ?_ | refine zac ?_ _)); exact BK191.o)) : gb193 ≠ gb191)); have n8_ := zaa.mk ((by rw [hg]; exact Nat.ne_of_lt (zal (g := gb192) (o := .cells #[.int .i64 a3_0, .int .i64 a3_1] 24 (0, 0)) (by (with_reducible repeat (first | refine zad ?_ _ | refine zab ?_ | refine zac ?_ _)); exact BK192.o)) : gb192 ≠ gb193)); have n9_ := zaa.mk ((by rw [hg]; exact Nat.ne_of_gt (zal (g := gb192) (o := .cells #[.int .i64 a3_0, .int .i64 a3_1] 24 (0, 0)) (by (with_reducible repeat (first | refine zad ?_ _ | refine zab ?_ | refine zac ?_ _)); exact BK192.o)) : gb193 ≠ gb192)); clear BK191; clear BK192; clear HB; have BK191 := n0_; have BK192 := n1_; have HB := n2_; have BK193 := n3_; have GW193 := n4_; have GE193 := n5_; have NB191_193 := n6_; have NB193_191 := n7_; have NB192_193 := n8_; have NB193_192 := n9_; clear n0_ n1_ n2_ n3_ n4_ n5_ n6_ n7_ n8_ n9_; clear hb hbox hg))
 (try simp only [Act.put, List.setIfInBounds_toArray, List.set_cons_zero, List.set_cons_succ])
 go_cut [17] (fun v17 wc => ∃ (kq : Nat) (x17_5 : Bool), v17 = .bool x17_5 ∧ zaa (vinculumlaw02_op.j0 kq a0 x17_5 a1_0 a1_1 a3_0 a3_1 = some (r1, r2, r3)) ∧ zaa (kq ≤ k) ∧ zaa (wc.heap[gb191]? = some (.cells #[.int .i64 a1_0, .int .i64 a1_1] 24 (0, 0))) ∧ zaa (wc.heap[gb192]? = some (.cells #[.int .i64 a3_0, .int .i64 a3_1] 24 (0, 0))) ∧ zaa (wc.heap[gb193]? = some (.cells #[.int .i64 0, .int .i64 0] 24 (0, 0))) ∧ zaa (Below w.heap.size w wc))
 case first =>
  have H := HC6.out
  clear HC6
  by_cases c10 : a2 = 0
  ·rw [if_pos c10] at H
   have c10b0 : (a2 == 0) = true := beq_iff_eq.mpr c10
   have c10b1 : (a2 != 0) = false := bne_eq_false_iff_eq.mpr c10
   clear c10
   (first | rw [c10b0] | (simp only [i64_w, i32_w]; rw [c10b0]) | skip)
   have H' := zaa.mk H
   clear H
   go_wp2
   go_meet
   case rel => exact ⟨_, ((a4 != 0)), (by first | rfl | (simp; done) | (simp [*]; done)), H', ⟨by first | omega | exact Nat.le_refl _⟩, ⟨by (with_reducible repeat (first | refine zad ?_ _ | refine zab ?_ | refine zac ?_ _)); exact BK191.o⟩, ⟨by (with_reducible repeat (first | refine zad ?_ _ | refine zab ?_ | refine zac ?_ _)); exact BK192.o⟩, ⟨by (with_reducible repeat (first | refine zad ?_ _ | refine zab ?_ | refine zac ?_ _)); exact BK193.o⟩, ⟨by repeat (first | (with_reducible first | exact HB.o | apply zaf | apply zah | apply zag | refine zae ?_ GE191.o | refine zae ?_ GE192.o | refine zae ?_ GE193.o) | exact HB.o)⟩⟩
  ·rw [if_neg c10] at H
   have c10b0 : (a2 == 0) = false := beq_eq_false_iff_ne.mpr c10
   have c10b1 : (a2 != 0) = true := bne_iff_ne.mpr c10
   (first | rw [c10b0] | (simp only [i64_w, i32_w]; rw [c10b0]) | skip)
   have H' := zaa.mk H
   clear H
   go_wp2
   go_meet
   case rel => exact ⟨_, (true), (by first | rfl | (simp; done) | (simp [*]; done)), H', ⟨by first | omega | exact Nat.le_refl _⟩, ⟨by (with_reducible repeat (first | refine zad ?_ _ | refine zab ?_ | refine zac ?_ _)); exact BK191.o⟩, ⟨by (with_reducible repeat (first | refine zad ?_ _ | refine zab ?_ | refine zac ?_ _)); exact BK192.o⟩, ⟨by (with_reducible repeat (first | refine zad ?_ _ | refine zab ?_ | refine zac ?_ _)); exact BK193.o⟩, ⟨by repeat (first | (with_reducible first | exact HB.o | apply zaf | apply zah | apply zag | refine zae ?_ GE191.o | refine zae ?_ GE192.o | refine zae ?_ GE193.o) | exact HB.o)⟩⟩
 case rest =>
  clear HC6
  try clear c1
  try clear c2
  try clear p2
  try clear c10
  try clear c10b0
  try clear c10b1
  obtain ⟨kq, x17_5, rfl, HA, HJ5, BK191, BK192, BK193, HB⟩ := hcut
  cases kq with
  | zero => exact absurd HA.o (by simp [vinculumlaw02_op.j0])
  | succ kj5 =>
   have H := HA.o
   clear HA
   simp only [vinculumlaw02_op.j0] at H
   by_cases c11 : x17_5 = true
   ·subst c11
    have H1 : (some (0, 0, 2)) = some (r1, r2, r3) := by rw [if_pos rfl] at H; exact H
    clear H
    have H := H1
    clear H1
    simp only [Option.some.injEq, Prod.mk.injEq] at H
    obtain ⟨rfl, rfl, rfl⟩ := H
    have hnb12 := NB193_191.o
    have hnc12 := NB191_193.o
    have hnb13 := NB193_192.o
    have hnc13 := NB192_193.o
    have hcz14_0 : wc.cell? ⟨gb193, 0, none⟩ = some (.int .i64 0) := (zai BK193.o 0).trans rfl
    have hcz14_1 : wc.cell? ⟨gb193, 1, none⟩ = some (.int .i64 0) := (zai BK193.o 1).trans rfl
    have hfz14_0 := zak BK193.o 0
    have hfz14_1 := zak BK193.o 1
    go_wp2
    refine bodyPost_ret (zav rfl _ _ gb193 24 #[.int .i64 0, .int .i64 0] (0, 0) _ rfl (by (with_reducible repeat (first | refine zad ?_ _ | refine zab ?_ | refine zac ?_ _)); refine zap (cs := #[.int .i64 0, .int .i64 0]) ?_ 1 _ rfl; (with_reducible repeat (first | refine zad ?_ _ | refine zab ?_ | refine zac ?_ _)); refine zap (cs := #[.int .i64 0, .int .i64 0]) ?_ 0 _ rfl; (with_reducible repeat (first | refine zad ?_ _ | refine zab ?_ | refine zac ?_ _)); exact BK193.o) Tryd.underlying24 rfl (by kernel_rfl)) rfl ?_
    exact ⟨by first | rfl | (simp [errW_none, errW_some] <;> rfl) | (simp [*, errW_none, errW_some] <;> rfl), by repeat (first | (with_reducible first | exact HB.o | apply zaf | apply zah | apply zag | refine zae ?_ GE191.o | refine zae ?_ GE192.o | refine zae ?_ GE193.o) | exact HB.o)⟩
   ·replace c11 := Bool.eq_false_iff.mpr c11
    subst c11
    have H1 : (if a0 = 0 then ((rational_Add.f kj5 a1_0 a1_1 a3_0 a3_1).bind fun bt194 => (some (bt194.1, bt194.2.1, bt194.2.2))) else (if a0 = 1 then ((rational_Sub.f kj5 a1_0 a1_1 a3_0 a3_1).bind fun bt197 => (some (bt197.1, bt197.2.1, bt197.2.2))) else (if a0 = 2 then ((rational_Mul.f kj5 a1_0 a1_1 a3_0 a3_1).bind fun bt200 => (some (bt200.1, bt200.2.1, bt200.2.2))) else ((rational_Div.f kj5 a1_0 a1_1 a3_0 a3_1).bind fun bt203 => (some (bt203.1, bt203.2.1, bt203.2.2)))))) = some (r1, r2, r3) := by rw [if_neg (show ¬ (false = true) by decide)] at H; exact H
    clear H
    have H := H1
    clear H1
    by_cases c15 : a0 = 0
    ·rw [if_pos c15] at H
     have c15b0 : (a0 == 0) = true := beq_iff_eq.mpr c15
     have c15b1 : (a0 != 0) = false := bne_eq_false_iff_eq.mpr c15
     clear c15
     replace H := Option.bind_eq_some_iff.mp H
     obtain ⟨⟨t194, t195, t196⟩, A160, H⟩ := H
     replace H : (some (t194, t195, t196)) = some (r1, r2, r3) := H
     have A16 := zaa.mk A160
     clear A160
     simp only [Option.some.injEq, Prod.mk.injEq] at H
     obtain ⟨rfl, rfl, rfl⟩ := H
     have hnb17 := NB191_192.o
     have hnc17 := NB192_191.o
     have hnb18 := NB191_193.o
     have hnc18 := NB193_191.o
     have hcz19_0 : wc.cell? ⟨gb191, 0, none⟩ = some (.int .i64 a1_0) := (zai BK191.o 0).trans rfl
     have hcz19_1 : wc.cell? ⟨gb191, 1, none⟩ = some (.int .i64 a1_1) := (zai BK191.o 1).trans rfl
     have hfz19_0 := zak BK191.o 0
     have hfz19_1 := zak BK191.o 1
     have hnb20 := NB192_193.o
     have hnc20 := NB193_192.o
     have hcz21_0 : wc.cell? ⟨gb192, 0, none⟩ = some (.int .i64 a3_0) := (zai BK192.o 0).trans rfl
     have hcz21_1 : wc.cell? ⟨gb192, 1, none⟩ = some (.int .i64 a3_1) := (zai BK192.o 1).trans rfl
     have hfz21_0 := zak BK192.o 0
     have hfz21_1 := zak BK192.o 1
     go_wp2_with (first | ((with_reducible refine zas (f := 23) rfl ?_); refine zat (some 24) rfl rfl Tryd.func23 (by kernel_rfl) rfl #[.agg #[.int .i64 a1_0, .int .i64 a1_1], .agg #[.int .i64 a3_0, .int .i64 a3_1]] rfl (by (try simp only [List.map_toArray, List.map_cons, List.map_nil]); first | done | rfl | (simp only [List.length_drop, List.length_take]; rfl)) ?_; (with_reducible refine (rational_Add.calls kj5 a1_0 a1_1 a3_0 a3_1 t194 t195 t196 _ A16.o).mono ?_); rintro e w22 ⟨rfl, hb⟩; refine ⟨_, rfl, ?_⟩; have n0_ := zaa.mk (zaj (by (with_reducible repeat (first | refine zad ?_ _ | refine zab ?_ | refine zac ?_ _)); exact BK191.o) hb); have n1_ := zaa.mk (zaj (by (with_reducible repeat (first | refine zad ?_ _ | refine zab ?_ | refine zac ?_ _)); exact BK192.o) hb); have n2_ := zaa.mk (zaj (by (with_reducible repeat (first | refine zad ?_ _ | refine zab ?_ | refine zac ?_ _)); exact BK193.o) hb); have n3_ := zaa.mk (zao (by repeat (first | (with_reducible first | exact HB.o | apply zaf | apply zah | apply zag | refine zae ?_ GE191.o | refine zae ?_ GE192.o | refine zae ?_ GE193.o) | exact HB.o)) hb); clear BK191; clear BK192; clear BK193; clear HB; have BK191 := n0_; have BK192 := n1_; have BK193 := n2_; have HB := n3_; clear n0_ n1_ n2_ n3_; (try clear hb); (try clear hb2); (try clear hk); (try clear hi); obtain ⟨hcz23_0, hcz23_1⟩ := cz2 BK193.o; obtain ⟨hfz23_0, hfz23_1⟩ := fz2 BK193.o))
     refine bodyPost_ret (zav rfl _ _ gb193 24 #[.int .i64 t194, .int .i64 t195] (0, 0) _ rfl (by (with_reducible repeat (first | refine zad ?_ _ | refine zab ?_ | refine zac ?_ _)); refine zap (cs := #[.int .i64 t194, .int .i64 0]) ?_ 1 _ rfl; (with_reducible repeat (first | refine zad ?_ _ | refine zab ?_ | refine zac ?_ _)); refine zap (cs := #[.int .i64 0, .int .i64 0]) ?_ 0 _ rfl; (with_reducible repeat (first | refine zad ?_ _ | refine zab ?_ | refine zac ?_ _)); exact BK193.o) Tryd.underlying24 rfl (by kernel_rfl)) rfl ?_
     exact ⟨by first | rfl | (simp [errW_none, errW_some] <;> rfl) | (simp [*, errW_none, errW_some] <;> rfl), by repeat (first | (with_reducible first | exact HB.o | apply zaf | apply zah | apply zag | refine zae ?_ GE191.o | refine zae ?_ GE192.o | refine zae ?_ GE193.o) | exact HB.o)⟩
    ·rw [if_neg c15] at H
     have c15b0 : (a0 == 0) = false := beq_eq_false_iff_ne.mpr c15
     have c15b1 : (a0 != 0) = true := bne_iff_ne.mpr c15
     by_cases c24 : a0 = 1
     ·rw [if_pos c24] at H
      have c24b0 : (a0 == 1) = true := beq_iff_eq.mpr c24
      have c24b1 : (a0 != 1) = false := bne_eq_false_iff_eq.mpr c24
      clear c24
      replace H := Option.bind_eq_some_iff.mp H
      obtain ⟨⟨t197, t198, t199⟩, A250, H⟩ := H
      replace H : (some (t197, t198, t199)) = some (r1, r2, r3) := H
      have A25 := zaa.mk A250
      clear A250
      simp only [Option.some.injEq, Prod.mk.injEq] at H
      obtain ⟨rfl, rfl, rfl⟩ := H
      have hnb26 := NB191_192.o
      have hnc26 := NB192_191.o
      have hnb27 := NB191_193.o
      have hnc27 := NB193_191.o
      have hcz28_0 : wc.cell? ⟨gb191, 0, none⟩ = some (.int .i64 a1_0) := (zai BK191.o 0).trans rfl
      have hcz28_1 : wc.cell? ⟨gb191, 1, none⟩ = some (.int .i64 a1_1) := (zai BK191.o 1).trans rfl
      have hfz28_0 := zak BK191.o 0
      have hfz28_1 := zak BK191.o 1
      have hnb29 := NB192_193.o
      have hnc29 := NB193_192.o
      have hcz30_0 : wc.cell? ⟨gb192, 0, none⟩ = some (.int .i64 a3_0) := (zai BK192.o 0).trans rfl
      have hcz30_1 : wc.cell? ⟨gb192, 1, none⟩ = some (.int .i64 a3_1) := (zai BK192.o 1).trans rfl
      have hfz30_0 := zak BK192.o 0
      have hfz30_1 := zak BK192.o 1
      go_wp2_with (first | ((with_reducible refine zas (f := 25) rfl ?_); refine zat (some 31) rfl rfl Tryd.func25 (by kernel_rfl) rfl #[.agg #[.int .i64 a1_0, .int .i64 a1_1], .agg #[.int .i64 a3_0, .int .i64 a3_1]] rfl (by (try simp only [List.map_toArray, List.map_cons, List.map_nil]); first | done | rfl | (simp only [List.length_drop, List.length_take]; rfl)) ?_; (with_reducible refine (rational_Sub.calls kj5 a1_0 a1_1 a3_0 a3_1 t197 t198 t199 _ A25.o).mono ?_); rintro e w31 ⟨rfl, hb⟩; refine ⟨_, rfl, ?_⟩; have n0_ := zaa.mk (zaj (by (with_reducible repeat (first | refine zad ?_ _ | refine zab ?_ | refine zac ?_ _)); exact BK191.o) hb); have n1_ := zaa.mk (zaj (by (with_reducible repeat (first | refine zad ?_ _ | refine zab ?_ | refine zac ?_ _)); exact BK192.o) hb); have n2_ := zaa.mk (zaj (by (with_reducible repeat (first | refine zad ?_ _ | refine zab ?_ | refine zac ?_ _)); exact BK193.o) hb); have n3_ := zaa.mk (zao (by repeat (first | (with_reducible first | exact HB.o | apply zaf | apply zah | apply zag | refine zae ?_ GE191.o | refine zae ?_ GE192.o | refine zae ?_ GE193.o) | exact HB.o)) hb); clear BK191; clear BK192; clear BK193; clear HB; have BK191 := n0_; have BK192 := n1_; have BK193 := n2_; have HB := n3_; clear n0_ n1_ n2_ n3_; (try clear hb); (try clear hb2); (try clear hk); (try clear hi); obtain ⟨hcz32_0, hcz32_1⟩ := cz2 BK193.o; obtain ⟨hfz32_0, hfz32_1⟩ := fz2 BK193.o))
      refine bodyPost_ret (zav rfl _ _ gb193 24 #[.int .i64 t197, .int .i64 t198] (0, 0) _ rfl (by (with_reducible repeat (first | refine zad ?_ _ | refine zab ?_ | refine zac ?_ _)); refine zap (cs := #[.int .i64 t197, .int .i64 0]) ?_ 1 _ rfl; (with_reducible repeat (first | refine zad ?_ _ | refine zab ?_ | refine zac ?_ _)); refine zap (cs := #[.int .i64 0, .int .i64 0]) ?_ 0 _ rfl; (with_reducible repeat (first | refine zad ?_ _ | refine zab ?_ | refine zac ?_ _)); exact BK193.o) Tryd.underlying24 rfl (by kernel_rfl)) rfl ?_
      exact ⟨by first | rfl | (simp [errW_none, errW_some] <;> rfl) | (simp [*, errW_none, errW_some] <;> rfl), by repeat (first | (with_reducible first | exact HB.o | apply zaf | apply zah | apply zag | refine zae ?_ GE191.o | refine zae ?_ GE192.o | refine zae ?_ GE193.o) | exact HB.o)⟩
     ·rw [if_neg c24] at H
      have c24b0 : (a0 == 1) = false := beq_eq_false_iff_ne.mpr c24
      have c24b1 : (a0 != 1) = true := bne_iff_ne.mpr c24
      by_cases c33 : a0 = 2
      ·rw [if_pos c33] at H
       have c33b0 : (a0 == 2) = true := beq_iff_eq.mpr c33
       have c33b1 : (a0 != 2) = false := bne_eq_false_iff_eq.mpr c33
       clear c33
       replace H := Option.bind_eq_some_iff.mp H
       obtain ⟨⟨t200, t201, t202⟩, A340, H⟩ := H
       replace H : (some (t200, t201, t202)) = some (r1, r2, r3) := H
       have A34 := zaa.mk A340
       clear A340
       simp only [Option.some.injEq, Prod.mk.injEq] at H
       obtain ⟨rfl, rfl, rfl⟩ := H
       have hnb35 := NB191_192.o
       have hnc35 := NB192_191.o
       have hnb36 := NB191_193.o
       have hnc36 := NB193_191.o
       have hcz37_0 : wc.cell? ⟨gb191, 0, none⟩ = some (.int .i64 a1_0) := (zai BK191.o 0).trans rfl
       have hcz37_1 : wc.cell? ⟨gb191, 1, none⟩ = some (.int .i64 a1_1) := (zai BK191.o 1).trans rfl
       have hfz37_0 := zak BK191.o 0
       have hfz37_1 := zak BK191.o 1
       have hnb38 := NB192_193.o
       have hnc38 := NB193_192.o
       have hcz39_0 : wc.cell? ⟨gb192, 0, none⟩ = some (.int .i64 a3_0) := (zai BK192.o 0).trans rfl
       have hcz39_1 : wc.cell? ⟨gb192, 1, none⟩ = some (.int .i64 a3_1) := (zai BK192.o 1).trans rfl
       have hfz39_0 := zak BK192.o 0
       have hfz39_1 := zak BK192.o 1
       go_wp2_with (first | ((with_reducible refine zas (f := 24) rfl ?_); refine zat (some 38) rfl rfl Tryd.func24 (by kernel_rfl) rfl #[.agg #[.int .i64 a1_0, .int .i64 a1_1], .agg #[.int .i64 a3_0, .int .i64 a3_1]] rfl (by (try simp only [List.map_toArray, List.map_cons, List.map_nil]); first | done | rfl | (simp only [List.length_drop, List.length_take]; rfl)) ?_; (with_reducible refine (rational_Mul.calls kj5 a1_0 a1_1 a3_0 a3_1 t200 t201 t202 _ A34.o).mono ?_); rintro e w40 ⟨rfl, hb⟩; refine ⟨_, rfl, ?_⟩; have n0_ := zaa.mk (zaj (by (with_reducible repeat (first | refine zad ?_ _ | refine zab ?_ | refine zac ?_ _)); exact BK191.o) hb); have n1_ := zaa.mk (zaj (by (with_reducible repeat (first | refine zad ?_ _ | refine zab ?_ | refine zac ?_ _)); exact BK192.o) hb); have n2_ := zaa.mk (zaj (by (with_reducible repeat (first | refine zad ?_ _ | refine zab ?_ | refine zac ?_ _)); exact BK193.o) hb); have n3_ := zaa.mk (zao (by repeat (first | (with_reducible first | exact HB.o | apply zaf | apply zah | apply zag | refine zae ?_ GE191.o | refine zae ?_ GE192.o | refine zae ?_ GE193.o) | exact HB.o)) hb); clear BK191; clear BK192; clear BK193; clear HB; have BK191 := n0_; have BK192 := n1_; have BK193 := n2_; have HB := n3_; clear n0_ n1_ n2_ n3_; (try clear hb); (try clear hb2); (try clear hk); (try clear hi); obtain ⟨hcz41_0, hcz41_1⟩ := cz2 BK193.o; obtain ⟨hfz41_0, hfz41_1⟩ := fz2 BK193.o))
       refine bodyPost_ret (zav rfl _ _ gb193 24 #[.int .i64 t200, .int .i64 t201] (0, 0) _ rfl (by (with_reducible repeat (first | refine zad ?_ _ | refine zab ?_ | refine zac ?_ _)); refine zap (cs := #[.int .i64 t200, .int .i64 0]) ?_ 1 _ rfl; (with_reducible repeat (first | refine zad ?_ _ | refine zab ?_ | refine zac ?_ _)); refine zap (cs := #[.int .i64 0, .int .i64 0]) ?_ 0 _ rfl; (with_reducible repeat (first | refine zad ?_ _ | refine zab ?_ | refine zac ?_ _)); exact BK193.o) Tryd.underlying24 rfl (by kernel_rfl)) rfl ?_
       exact ⟨by first | rfl | (simp [errW_none, errW_some] <;> rfl) | (simp [*, errW_none, errW_some] <;> rfl), by repeat (first | (with_reducible first | exact HB.o | apply zaf | apply zah | apply zag | refine zae ?_ GE191.o | refine zae ?_ GE192.o | refine zae ?_ GE193.o) | exact HB.o)⟩
      ·rw [if_neg c33] at H
       have c33b0 : (a0 == 2) = false := beq_eq_false_iff_ne.mpr c33
       have c33b1 : (a0 != 2) = true := bne_iff_ne.mpr c33
       replace H := Option.bind_eq_some_iff.mp H
       obtain ⟨⟨t203, t204, t205⟩, A420, H⟩ := H
       replace H : (some (t203, t204, t205)) = some (r1, r2, r3) := H
       have A42 := zaa.mk A420
       clear A420
       simp only [Option.some.injEq, Prod.mk.injEq] at H
       obtain ⟨rfl, rfl, rfl⟩ := H
       have hnb43 := NB191_192.o
       have hnc43 := NB192_191.o
       have hnb44 := NB191_193.o
       have hnc44 := NB193_191.o
       have hcz45_0 : wc.cell? ⟨gb191, 0, none⟩ = some (.int .i64 a1_0) := (zai BK191.o 0).trans rfl
       have hcz45_1 : wc.cell? ⟨gb191, 1, none⟩ = some (.int .i64 a1_1) := (zai BK191.o 1).trans rfl
       have hfz45_0 := zak BK191.o 0
       have hfz45_1 := zak BK191.o 1
       have hnb46 := NB192_193.o
       have hnc46 := NB193_192.o
       have hcz47_0 : wc.cell? ⟨gb192, 0, none⟩ = some (.int .i64 a3_0) := (zai BK192.o 0).trans rfl
       have hcz47_1 : wc.cell? ⟨gb192, 1, none⟩ = some (.int .i64 a3_1) := (zai BK192.o 1).trans rfl
       have hfz47_0 := zak BK192.o 0
       have hfz47_1 := zak BK192.o 1
       go_wp2_with (first | ((with_reducible refine zas (f := 26) rfl ?_); refine zat (some 43) rfl rfl Tryd.func26 (by kernel_rfl) rfl #[.agg #[.int .i64 a1_0, .int .i64 a1_1], .agg #[.int .i64 a3_0, .int .i64 a3_1]] rfl (by (try simp only [List.map_toArray, List.map_cons, List.map_nil]); first | done | rfl | (simp only [List.length_drop, List.length_take]; rfl)) ?_; (with_reducible refine (rational_Div.calls kj5 a1_0 a1_1 a3_0 a3_1 t203 t204 t205 _ A42.o).mono ?_); rintro e w48 ⟨rfl, hb⟩; refine ⟨_, rfl, ?_⟩; have n0_ := zaa.mk (zaj (by (with_reducible repeat (first | refine zad ?_ _ | refine zab ?_ | refine zac ?_ _)); exact BK191.o) hb); have n1_ := zaa.mk (zaj (by (with_reducible repeat (first | refine zad ?_ _ | refine zab ?_ | refine zac ?_ _)); exact BK192.o) hb); have n2_ := zaa.mk (zaj (by (with_reducible repeat (first | refine zad ?_ _ | refine zab ?_ | refine zac ?_ _)); exact BK193.o) hb); have n3_ := zaa.mk (zao (by repeat (first | (with_reducible first | exact HB.o | apply zaf | apply zah | apply zag | refine zae ?_ GE191.o | refine zae ?_ GE192.o | refine zae ?_ GE193.o) | exact HB.o)) hb); clear BK191; clear BK192; clear BK193; clear HB; have BK191 := n0_; have BK192 := n1_; have BK193 := n2_; have HB := n3_; clear n0_ n1_ n2_ n3_; (try clear hb); (try clear hb2); (try clear hk); (try clear hi); obtain ⟨hcz49_0, hcz49_1⟩ := cz2 BK193.o; obtain ⟨hfz49_0, hfz49_1⟩ := fz2 BK193.o))
       refine bodyPost_ret (zav rfl _ _ gb193 24 #[.int .i64 t203, .int .i64 t204] (0, 0) _ rfl (by (with_reducible repeat (first | refine zad ?_ _ | refine zab ?_ | refine zac ?_ _)); refine zap (cs := #[.int .i64 t203, .int .i64 0]) ?_ 1 _ rfl; (with_reducible repeat (first | refine zad ?_ _ | refine zab ?_ | refine zac ?_ _)); refine zap (cs := #[.int .i64 0, .int .i64 0]) ?_ 0 _ rfl; (with_reducible repeat (first | refine zad ?_ _ | refine zab ?_ | refine zac ?_ _)); exact BK193.o) Tryd.underlying24 rfl (by kernel_rfl)) rfl ?_
       exact ⟨by first | rfl | (simp [errW_none, errW_some] <;> rfl) | (simp [*, errW_none, errW_some] <;> rfl), by repeat (first | (with_reducible first | exact HB.o | apply zaf | apply zah | apply zag | refine zae ?_ GE191.o | refine zae ?_ GE192.o | refine zae ?_ GE193.o) | exact HB.o)⟩

end Go.Proofs.YtoieknocpphjoaaDoor.P
