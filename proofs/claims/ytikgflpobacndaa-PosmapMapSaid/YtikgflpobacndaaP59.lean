--m
/- Written by wip/tool/hprint.py (the kit's print.py with hand-proved contracts set in): contracts of the functions that the statements of this seat reach, without conditions beyond those named in each theorem. -/
import Derived.Test.YtikgflpobacndaaP0
import Derived.Test.YtikgflpobacndaaP12
import Derived.Test.YtikgflpobacndaaP14
import Derived.Test.YtikgflpobacndaaP15
import Derived.Test.YtikgflpobacndaaP19
import Derived.Test.YtikgflpobacndaaP49
import Derived.Test.YtikgflpobacndaaP54
import Derived.Test.YtikgflpobacndaaP58
namespace Go.Proofs.Ytikgflpobacndaa.P
open Go.RowKit Go.Proofs.YtikgflpobacndaaW.PrintWords Go.Proofs.YtikgflpobacndaaW.PrintLast Go.Proofs.YtikgflpobacndaaW.PrintMore
attribute [local go_sem] zaz zaA zaB zaC zaD zaE zaF zaG   -- for this text's walks alone
set_option linter.unusedVariables false
set_option linter.unusedSimpArgs false

/-! ### vinculumlaw13_PosmapMap: function 7 -/
def vinculumlaw13_PosmapMap.j0 : Nat → List Int → Bool → Bool → Int → List Int → Int → Int → List (S24) → Int → ByteArray → ByteArray → Option (Bool)
 | 0, _, _, _, _, _, _, _, _, _, _, _ => none
 | k + 1, x1, x2, x16, x728000, x728001, x728002, x728003, x728004, x728005, x728006, x728007 => if x16 = true then ((vinculumlaw13_awake.f k).bind fun t733 => (some t733)) else ((posmap_Map.f k x728000 x728001 x728002 x728003 x728004 x728005 x728006 x728007 x1 x2).bind fun t734 => ((vinculumref13_Map.f k x728000 x728001 x728002 x728003 x728004 x728005 x728006 x728007 x1 x2).bind fun t737 => ((vinculumref10_Same.f k t734 t737).bind fun t740 => (if t740 = true then ((posmap_Lost.f x728000 x728001 x728002 x728003 x728004 x728005 x728006 x728007 x1).bind fun t741 => ((vinculumref13_Lost.f k x728000 x728001 x728002 x728003 x728004 x728005 x728006 x728007 x1).bind fun t742 => (some (t741 == t742)))) else (none)))))
def vinculumlaw13_PosmapMap.f (k : Nat) (a0_0 : Int) (l0_1 : List Int) (a0_2 : Int) (a0_3 : Int) (l0_4 : List (S24)) (a0_5 : Int) (a0_6 : ByteArray) (a0_7 : ByteArray) (l1 : List Int) (a2 : Bool) : Option (Bool) := (vinculumlaw13_awake.f k).bind fun t728 => (if t728 = true then ((vinculumlaw13_few.f k 0 (⟨#[]⟩ : ByteArray) 0 ([] : List (S24)) l1 (([(⟨a0_0, l0_1, a0_2, a0_3, l0_4, a0_5, a0_6, a0_7⟩ : S27)] : List (S27)))).bind fun t732 => (vinculumlaw13_PosmapMap.j0 k l1 a2 (!t732) a0_0 l0_1 a0_2 a0_3 l0_4 a0_5 a0_6 a0_7)) else (vinculumlaw13_PosmapMap.j0 k l1 a2 true a0_0 l0_1 a0_2 a0_3 l0_4 a0_5 a0_6 a0_7))
theorem vinculumlaw13_PosmapMap.mono_l : ∀ k, (∀ y0 y1 y2 y3 y4 y5 y6 y7 y8 y9 y10, LeO (vinculumlaw13_PosmapMap.j0 k y0 y1 y2 y3 y4 y5 y6 y7 y8 y9 y10) (vinculumlaw13_PosmapMap.j0 (k + 1) y0 y1 y2 y3 y4 y5 y6 y7 y8 y9 y10))
 | 0 => fun _ _ _ _ _ _ _ _ _ _ _ r h => by simp [vinculumlaw13_PosmapMap.j0] at h
 | k + 1 => by
  have ih0 := vinculumlaw13_PosmapMap.mono_l k
  ·intro y0 y1 y2 y3 y4 y5 y6 y7 y8 y9 y10
   unfold vinculumlaw13_PosmapMap.j0
   repeat' first
   | (with_reducible exact ih0 _ _ _ _ _ _ _ _ _ _ _)
   | (with_reducible exact posmap_Map.mono _ _ _ _ _ _ _ _ _ _ _)
   | (with_reducible exact vinculumlaw13_awake.mono _)
   | (with_reducible exact vinculumlaw13_few.mono _ _ _ _ _ _ _)
   | (with_reducible exact vinculumref10_Same.mono _ _ _)
   | (with_reducible exact vinculumref13_Lost.mono _ _ _ _ _ _ _ _ _ _)
   | (with_reducible exact vinculumref13_Map.mono _ _ _ _ _ _ _ _ _ _ _)
   | (with_reducible exact LeO.refl _)
   | (with_reducible exact LeO.none _)
   | (with_reducible refine LeO.ite ?_ ?_)
   | (with_reducible refine LeO.bind ?_ (fun _ => ?_))
   | exact ih0 _ _ _ _ _ _ _ _ _ _ _
   | exact posmap_Map.mono _ _ _ _ _ _ _ _ _ _ _
   | exact vinculumlaw13_awake.mono _
   | exact vinculumlaw13_few.mono _ _ _ _ _ _ _
   | exact vinculumref10_Same.mono _ _ _
   | exact vinculumref13_Lost.mono _ _ _ _ _ _ _ _ _ _
   | exact vinculumref13_Map.mono _ _ _ _ _ _ _ _ _ _ _
   | exact LeO.none _
   | refine LeO.ite ?_ ?_
   | refine LeO.bind ?_ (fun _ => ?_)
theorem vinculumlaw13_PosmapMap.mono : ∀ a0 a1 a2 a3 a4 a5 a6 a7 a8 a9 k, LeO (vinculumlaw13_PosmapMap.f k a0 a1 a2 a3 a4 a5 a6 a7 a8 a9) (vinculumlaw13_PosmapMap.f (k + 1) a0 a1 a2 a3 a4 a5 a6 a7 a8 a9) := by
 intro a0 a1 a2 a3 a4 a5 a6 a7 a8 a9 k
 have ih0 := vinculumlaw13_PosmapMap.mono_l k
 unfold vinculumlaw13_PosmapMap.f
 repeat' first
   | (with_reducible exact ih0 _ _ _ _ _ _ _ _ _ _ _)
   | (with_reducible exact posmap_Map.mono _ _ _ _ _ _ _ _ _ _ _)
   | (with_reducible exact vinculumlaw13_awake.mono _)
   | (with_reducible exact vinculumlaw13_few.mono _ _ _ _ _ _ _)
   | (with_reducible exact vinculumref10_Same.mono _ _ _)
   | (with_reducible exact vinculumref13_Lost.mono _ _ _ _ _ _ _ _ _ _)
   | (with_reducible exact vinculumref13_Map.mono _ _ _ _ _ _ _ _ _ _ _)
   | (with_reducible exact LeO.refl _)
   | (with_reducible exact LeO.none _)
   | (with_reducible refine LeO.ite ?_ ?_)
   | (with_reducible refine LeO.bind ?_ (fun _ => ?_))
   | exact ih0 _ _ _ _ _ _ _ _ _ _ _
   | exact posmap_Map.mono _ _ _ _ _ _ _ _ _ _ _
   | exact vinculumlaw13_awake.mono _
   | exact vinculumlaw13_few.mono _ _ _ _ _ _ _
   | exact vinculumref10_Same.mono _ _ _
   | exact vinculumref13_Lost.mono _ _ _ _ _ _ _ _ _ _
   | exact vinculumref13_Map.mono _ _ _ _ _ _ _ _ _ _ _
   | exact LeO.none _
   | refine LeO.ite ?_ ?_
   | refine LeO.bind ?_ (fun _ => ?_)
def vinculumlaw13_PosmapMap.T3 : Bool × List (List Nat × List Nat) := (true, [([], []), ([], []), ([], []), ([0, 1, 2], [0, 1, 2]), ([], []), ([], []), ([], []), ([4, 5, 6, 3], [4, 5, 6]), ([3, 7, 7], [3, 7]), ([8, 8], [8]), ([9], [9]), ([9], [9]), ([10, 11, 9, 9], [9, 10, 11]), ([9], [9]), ([9], [9]), ([13, 14, 12, 9], [9, 13, 14]), ([12, 15, 9], [9, 12, 15]), ([9, 16], [9, 16]), ([17, 15, 0, 1, 2, 3, 4, 5, 6, 7, 8, 9, 10, 11, 12, 13, 14, 15, 16, 17], [17])])
def vinculumlaw13_PosmapMap.B3 : List Nat := [0, 0, 0, 7, 0, 0, 0, 127, 255, 511, 1023, 1023, 4095, 1023, 1023, 32767, 65535, 131071, 262143]
theorem vinculumlaw13_PosmapMap.tab3 : rtab .any (opsOf Try.f7 3) = vinculumlaw13_PosmapMap.T3 := by kernel_rfl
theorem vinculumlaw13_PosmapMap.bits3 : zaS vinculumlaw13_PosmapMap.T3.2 vinculumlaw13_PosmapMap.B3 = true := by kernel_rfl
set_option maxHeartbeats 8000000 in
set_option maxRecDepth 100000 in
theorem vinculumlaw13_PosmapMap.calls (k : Nat) (a0_0 : Int) (P0_1_ : Nat → Prop) (A0_1 : Option Addr) (c0_1 : Nat) (l0_1 : List Int) (a0_2 : Int) (a0_3 : Int) (P0_4_ : Nat → Prop) (A0_4 : Option Addr) (c0_4 : Nat) (l0_4 : List (S24)) (a0_5 : Int) (a0_6 : ByteArray) (a0_7 : ByteArray) (A1 : Option Addr) (c1 : Nat) (l1 : List Int) (a2 : Bool) (r : Bool) (w : World) (hs0_1 : Kd.V (Kd.int .i64) 3 w w.heap.size (fun k_ => P0_1_ k_) (.slice A0_1 l0_1.length c0_1) l0_1) (hs0_4 : Kd.V k24 24 w w.heap.size (fun k_ => P0_4_ k_) (.slice A0_4 l0_4.length c0_4) l0_4) (hr1 : Kd.C (Kd.int .i64) w A1 l1.length l1) (hc1 : l1.length ≤ c1) (h : vinculumlaw13_PosmapMap.f k a0_0 l0_1 a0_2 a0_3 l0_4 a0_5 a0_6 a0_7 l1 a2 = some r) :
  Calls Try.prog 7 #[.agg #[.int .i64 a0_0, .slice A0_1 l0_1.length c0_1, .int .i64 a0_2, .int .i64 a0_3, .slice A0_4 l0_4.length c0_4, .int .i64 a0_5, .string a0_6, .string a0_7], .slice A1 l1.length c1, .bool a2] w fun e w' => e = .returned (.bool r) ∧ Below w.heap.size w w' := by
 have hu27 := Try.underlying27
 have hu24 := Try.underlying24
 have HO0_1 := zab.mk (show Kd.V (Kd.int .i64) 3 w w.heap.size (fun k_ => ((P0_1_ k_ ∨ P0_4_ k_) ∨ w.heap.size ≤ k_)) (.slice A0_1 l0_1.length c0_1) l0_1 from Kd.V_mono hs0_1 (fun k_ hk => .inl (.inl hk)))
 have HO0_4 := zab.mk (show Kd.V k24 24 w w.heap.size (fun k_ => ((P0_1_ k_ ∨ P0_4_ k_) ∨ w.heap.size ≤ k_)) (.slice A0_4 l0_4.length c0_4) l0_4 from Kd.V_mono hs0_4 (fun k_ hk => .inl (.inr hk)))
 have HR1 := zab.mk hr1
 have HC1 := zab.mk hc1
 clear hr1 hc1
 have HB := zab.mk (Below.refl w.heap.size w)
 have H : ((vinculumlaw13_awake.f k).bind fun t728 => (if t728 = true then ((vinculumlaw13_few.f k 0 (⟨#[]⟩ : ByteArray) 0 ([] : List (S24)) l1 (([(⟨a0_0, l0_1, a0_2, a0_3, l0_4, a0_5, a0_6, a0_7⟩ : S27)] : List (S27)))).bind fun t732 => (vinculumlaw13_PosmapMap.j0 k l1 a2 (!t732) a0_0 l0_1 a0_2 a0_3 l0_4 a0_5 a0_6 a0_7)) else (vinculumlaw13_PosmapMap.j0 k l1 a2 true a0_0 l0_1 a0_2 a0_3 l0_4 a0_5 a0_6 a0_7))) = some r := h
 clear h
 have HC4 := zab.mk H
 clear H
 go_enter Try.func7, Try.ntmps7
 go_upto_region 1 with (first | ((with_reducible refine zaq (N := 3) rfl ?_); (try (refine zaI (by rfl) ?_; dsimp only)); refine zas ?hg (N := 3) ?hd (cs := #[.int .i64 a0_0, .slice A0_1 l0_1.length c0_1, .int .i64 a0_2, .int .i64 a0_3, .slice A0_4 l0_4.length c0_4, .int .i64 a0_5, .string a0_6, .string a0_7]) (t := 27) ?hr ?_; (case hd => rfl); (case hg => rfl); (case hr => first | (go_simp; done) | (go_simp; rfl)); intro gb727 hg w5 hbox hb; have n0_ := zab.mk (Kd.V_below (Kd.V_elderB (by (with_reducible repeat (first | apply Kd.V_alloc | apply Kd.V_drewN | apply Kd.V_drew)); exact HO0_1.o) gb727 (Nat.le_of_eq hg.symm)) hb); have n1_ := zab.mk (Kd.V_below (Kd.V_elderB (by (with_reducible repeat (first | apply Kd.V_alloc | apply Kd.V_drewN | apply Kd.V_drew)); exact HO0_4.o) gb727 (Nat.le_of_eq hg.symm)) hb); have n2_ := zab.mk (zal (by repeat (first | (with_reducible first | exact HB.o | apply zad | apply zaf | apply zae) | exact HB.o)) hb); have n3_ := zab.mk (hbox); have n4_ := zab.mk ((by rw [hg]; exact (zak (by repeat (first | (with_reducible first | exact HB.o | apply zad | apply zaf | apply zae) | exact HB.o))) : w.heap.size ≤ gb727)); have n5_ := zab.mk ((by rw [hg]; exact (zak (by repeat (first | (with_reducible first | exact HB.o | apply zad | apply zaf | apply zae) | exact HB.o))) : w.heap.size ≤ gb727)); clear HO0_1; clear HO0_4; clear HB; have HO0_1 := n0_; have HO0_4 := n1_; have HB := n2_; have BK727 := n3_; have GW727 := n4_; have GE727 := n5_; clear n0_ n1_ n2_ n3_ n4_ n5_; clear hb hbox hg))
 (try simp only [Act.put, List.setIfInBounds_toArray, List.set_cons_zero, List.set_cons_succ])
 go_cut [16] (fun v16 wc => ∃ (kq : Nat) (x16_3 : Bool), v16 = .bool x16_3 ∧ zab (vinculumlaw13_PosmapMap.j0 kq l1 a2 x16_3 a0_0 l0_1 a0_2 a0_3 l0_4 a0_5 a0_6 a0_7 = some r) ∧ zab (kq ≤ k) ∧ zab (Kd.V (Kd.int .i64) 3 wc w.heap.size (fun k_ => ((P0_1_ k_ ∨ P0_4_ k_) ∨ w.heap.size ≤ k_) ∧ k_ ≠ gb727) (.slice A0_1 l0_1.length c0_1) l0_1) ∧ zab (Kd.V k24 24 wc w.heap.size (fun k_ => ((P0_1_ k_ ∨ P0_4_ k_) ∨ w.heap.size ≤ k_) ∧ k_ ≠ gb727) (.slice A0_4 l0_4.length c0_4) l0_4) ∧ zab (wc.heap[gb727]? = some (.cells #[.int .i64 a0_0, (.slice A0_1 l0_1.length c0_1), .int .i64 a0_2, .int .i64 a0_3, (.slice A0_4 l0_4.length c0_4), .int .i64 a0_5, .string a0_6, .string a0_7] 27 (0, 0))) ∧ zab (Below w.heap.size w wc))
 case first =>
  have H := HC4.out
  clear HC4
  replace H := Option.bind_eq_some_iff.mp H
  obtain ⟨t728, A60, H⟩ := H
  replace H : (if t728 = true then ((vinculumlaw13_few.f k 0 (⟨#[]⟩ : ByteArray) 0 ([] : List (S24)) l1 (([(⟨a0_0, l0_1, a0_2, a0_3, l0_4, a0_5, a0_6, a0_7⟩ : S27)] : List (S27)))).bind fun t732 => (vinculumlaw13_PosmapMap.j0 k l1 a2 (!t732) a0_0 l0_1 a0_2 a0_3 l0_4 a0_5 a0_6 a0_7)) else (vinculumlaw13_PosmapMap.j0 k l1 a2 true a0_0 l0_1 a0_2 a0_3 l0_4 a0_5 a0_6 a0_7)) = some r := H
  have A6 := zab.mk A60
  clear A60
  by_cases c7 : t728 = true
  ·subst c7
   have H1 : ((vinculumlaw13_few.f k 0 (⟨#[]⟩ : ByteArray) 0 ([] : List (S24)) l1 (([(⟨a0_0, l0_1, a0_2, a0_3, l0_4, a0_5, a0_6, a0_7⟩ : S27)] : List (S27)))).bind fun t732 => (vinculumlaw13_PosmapMap.j0 k l1 a2 (!t732) a0_0 l0_1 a0_2 a0_3 l0_4 a0_5 a0_6 a0_7)) = some r := by rw [if_pos rfl] at H; exact H
   clear H
   have H := H1
   clear H1
   obtain ⟨y729, hy729⟩ : ∃ y_ : List (S27), y_ = (([(⟨a0_0, l0_1, a0_2, a0_3, l0_4, a0_5, a0_6, a0_7⟩ : S27)] : List (S27))) := ⟨_, rfl⟩
   replace H : ((vinculumlaw13_few.f k 0 (⟨#[]⟩ : ByteArray) 0 ([] : List (S24)) l1 y729).bind fun t732 => (vinculumlaw13_PosmapMap.j0 k l1 a2 (!t732) a0_0 l0_1 a0_2 a0_3 l0_4 a0_5 a0_6 a0_7)) = some r := by first | (rw [hy729]; with_reducible exact H) | (have H2_ := (Option.bind_some _ _).symm.trans H; rw [hy729]; with_reducible exact H2_) | (have H2_ := (Option.bind_some _ _).symm.trans H; with_reducible exact H2_) | with_reducible exact H | (rw [hy729]; exact H) | exact H
   have Ny729 := zab.mk hy729
   clear hy729
   replace H := Option.bind_eq_some_iff.mp H
   obtain ⟨t732, A80, H⟩ := H
   replace H : (vinculumlaw13_PosmapMap.j0 k l1 a2 (!t732) a0_0 l0_1 a0_2 a0_3 l0_4 a0_5 a0_6 a0_7) = some r := H
   have A8 := zab.mk A80
   clear A80
   have H' := zab.mk H
   clear H
   go_wp2_with (first | ((with_reducible refine zax (f := 9) rfl ?_); refine zay (some 7) rfl rfl Try.func9 (by kernel_rfl) rfl #[] rfl (by (try simp only [List.map_toArray, List.map_cons, List.map_nil]); first | done | rfl | (simp only [List.length_drop, List.length_take]; rfl)) ?_; (with_reducible refine (vinculumlaw13_awake.calls k  true _ A6.o).mono ?_); rintro e w9 ⟨rfl, hb⟩; refine ⟨_, rfl, ?_⟩; have n0_ := zab.mk (Kd.V_below (by (with_reducible repeat (first | apply Kd.V_alloc | apply Kd.V_drewN | apply Kd.V_drew)); exact HO0_1.o) hb); have n1_ := zab.mk (Kd.V_below (by (with_reducible repeat (first | apply Kd.V_alloc | apply Kd.V_drewN | apply Kd.V_drew)); exact HO0_4.o) hb); have n2_ := zab.mk (zam (by (with_reducible repeat (first | refine zaj ?_ _ | refine zah ?_ | refine zai ?_ _)); exact BK727.o) hb); have n3_ := zab.mk (zal (by repeat (first | (with_reducible first | exact HB.o | apply zad | apply zaf | apply zae | refine zag ?_ GE727.o) | exact HB.o)) hb); clear HO0_1; clear HO0_4; clear BK727; clear HB; have HO0_1 := n0_; have HO0_4 := n1_; have BK727 := n2_; have HB := n3_; clear n0_ n1_ n2_ n3_; (try clear hb); (try clear hb2); (try clear hk); (try clear hi); obtain ⟨hcz10_0, hcz10_1, hcz10_2, hcz10_3, hcz10_4, hcz10_5, hcz10_6, hcz10_7⟩ := cz8 BK727.o; obtain ⟨hfz10_0, hfz10_1, hfz10_2, hfz10_3, hfz10_4, hfz10_5, hfz10_6, hfz10_7⟩ := fz8 BK727.o) | ((with_reducible refine zaq (N := 13) rfl ?_); (try (refine zaI (by rfl) ?_; dsimp only)); refine Kd.N_lit k27 _ 27 ?hg (N' := 13) ?hd (xs := ([(⟨a0_0, l0_1, a0_2, a0_3, l0_4, a0_5, a0_6, a0_7⟩ : S27)] : List (S27))) (inner := [.int .i64 a0_0, .slice A0_1 l0_1.length c0_1, .int .i64 a0_2, .int .i64 a0_3, .slice A0_4 l0_4.length c0_4, .int .i64 a0_5, .string a0_6, .string a0_7]) (ok := (fun k_ => ((P0_1_ k_ ∨ P0_4_ k_) ∨ w.heap.size ≤ k_) ∧ k_ ≠ gb727)) (okp := (fun k_ => ((P0_1_ k_ ∨ P0_4_ k_) ∨ w.heap.size ≤ k_) ∧ k_ ≠ gb727)) ?hr ?hp (fun _ hk => hk) ((show ∀ k_, w9.heap.size ≤ k_ → (fun k_ => ((P0_1_ k_ ∨ P0_4_ k_) ∨ w.heap.size ≤ k_) ∧ k_ ≠ gb727) k_ from fun k_ hk => ⟨(.inr (Nat.le_trans (zak (by repeat (first | (with_reducible first | exact HB.o | apply zad | apply zaf | apply zae | refine zag ?_ GE727.o) | exact HB.o))) hk)), Kd.freshB (g := gb727) (o := .cells #[.int .i64 a0_0, .slice A0_1 l0_1.length c0_1, .int .i64 a0_2, .int .i64 a0_3, .slice A0_4 l0_4.length c0_4, .int .i64 a0_5, .string a0_6, .string a0_7] 27 (0, 0)) (by (with_reducible repeat (first | refine zaj ?_ _ | refine zah ?_ | refine zai ?_ _)); exact BK727.o) k_ hk⟩) _ (Nat.le_refl _)) (Below.refl _ _) (Nat.le_refl _) (by simp) ?_; (case hd => rfl); (case hg => rfl); (case hr => first | (go_simp; done) | (go_simp; rfl)); (case hp => exact (Reps.c8 (show Kd.FK k27 _ _ (⟨a0_0, l0_1, a0_2, a0_3, l0_4, a0_5, a0_6, a0_7⟩ : S27) [.int .i64 a0_0, .slice A0_1 l0_1.length c0_1, .int .i64 a0_2, .int .i64 a0_3, .slice A0_4 l0_4.length c0_4, .int .i64 a0_5, .string a0_6, .string a0_7] from (k27_mkF _ _ (⟨a0_0, l0_1, a0_2, a0_3, l0_4, a0_5, a0_6, a0_7⟩ : S27) (Kd.V_reads' (Kd.V_mono (ok' := (fun k_ => ((P0_1_ k_ ∨ P0_4_ k_) ∨ w.heap.size ≤ k_) ∧ k_ ≠ gb727)) (HO0_1.o) (fun k_ hk => ⟨hk.1, hk.2⟩))).2.1 (Kd.V_F (Kd.V_mono (ok' := (fun k_ => ((P0_1_ k_ ∨ P0_4_ k_) ∨ w.heap.size ≤ k_) ∧ k_ ≠ gb727)) (HO0_1.o) (fun k_ hk => ⟨hk.1, hk.2⟩))) (Kd.V_reads' (Kd.V_mono (ok' := (fun k_ => ((P0_1_ k_ ∨ P0_4_ k_) ∨ w.heap.size ≤ k_) ∧ k_ ≠ gb727)) (HO0_4.o) (fun k_ hk => ⟨hk.1, hk.2⟩))).2.1 (Kd.V_F (Kd.V_mono (ok' := (fun k_ => ((P0_1_ k_ ∨ P0_4_ k_) ∨ w.heap.size ≤ k_) ∧ k_ ≠ gb727)) (HO0_4.o) (fun k_ hk => ⟨hk.1, hk.2⟩))))) (Reps.none _ _))); intro v730 w11 ho12 hb hg_ hnew_; clear hg_ hnew_; (first | rw [← Ny729.out] at ho12 | (simp only [Int.reduceToNat] at ho12; rw [← Ny729.out] at ho12)); have n0_ := zab.mk (Kd.V_elder' (by (with_reducible repeat (first | apply Kd.V_alloc | apply Kd.V_drewN | apply Kd.V_drew)); exact HO0_1.o) (Kd.N_base ho12) hb); have n1_ := zab.mk (Kd.V_elder' (by (with_reducible repeat (first | apply Kd.V_alloc | apply Kd.V_drewN | apply Kd.V_drew)); exact HO0_4.o) (Kd.N_base ho12) hb); have n2_ := zab.mk (Kd.N_lower ho12 (zak (by repeat (first | (with_reducible first | exact HB.o | apply zad | apply zaf | apply zae | refine zag ?_ GE727.o) | exact HB.o)))); have n3_ := zab.mk (zam (by (with_reducible repeat (first | refine zaj ?_ _ | refine zah ?_ | refine zai ?_ _)); exact BK727.o) hb); have n4_ := zab.mk (zal (by repeat (first | (with_reducible first | exact HB.o | apply zad | apply zaf | apply zae | refine zag ?_ GE727.o) | exact HB.o)) hb); clear HO0_1; clear HO0_4; clear BK727; clear HB; have HO0_1 := n0_; have HO0_4 := n1_; have HO731 := n2_; have BK727 := n3_; have HB := n4_; clear n0_ n1_ n2_ n3_ n4_; clear hb ho12; obtain ⟨Ao13, co13, eo13⟩ := Kd.N_slice HO731.o; subst eo13) | (go_at_call 10; (refine (vinculumlaw13_few.calls k 0 (⟨#[]⟩ : ByteArray) 0 _ _ ([] : List (S24)) _ _ l1 _ _ y729 t732 _ ?side1 ?side2 ?side3 ?side4 ?side5 ?side6 A8.o).mono ?_); (case side1 => exact Kd.C_nil _ _); (case side2 => exact Nat.le_refl _); (case side3 => repeat (first | exact (Kd.C_below HR1.o HB.o) | (with_reducible first | refine Kd.C_alloc ?_ _ | refine Kd.C_drewN ?_ _ | refine Kd.C_drew ?_))); (case side4 => exact HC1.out); (case side5 => repeat (first | exact (Kd.N_reads' HO731.o).2.2 | (with_reducible first | refine Kd.C_alloc ?_ _ | refine Kd.C_drewN ?_ _ | refine Kd.C_drew ?_))); (case side6 => exact (Kd.N_reads' HO731.o).2.1); rintro e w14 ⟨rfl, hb⟩; have n0_ := zab.mk (Kd.V_below (by (with_reducible repeat (first | apply Kd.V_alloc | apply Kd.V_drewN | apply Kd.V_drew)); exact HO0_1.o) hb); have n1_ := zab.mk (Kd.V_below (by (with_reducible repeat (first | apply Kd.V_alloc | apply Kd.V_drewN | apply Kd.V_drew)); exact HO0_4.o) hb); have n2_ := zab.mk (Kd.N_below (by (with_reducible repeat (first | apply Kd.N_alloc | apply Kd.N_drewN | apply Kd.N_drew)); exact HO731.o) hb); have n3_ := zab.mk (zam (by (with_reducible repeat (first | refine zaj ?_ _ | refine zah ?_ | refine zai ?_ _)); exact BK727.o) hb); have n4_ := zab.mk (zal (by repeat (first | (with_reducible first | exact HB.o | apply zad | apply zaf | apply zae | refine zag ?_ GE727.o) | exact HB.o)) hb); clear HO0_1; clear HO0_4; clear HO731; clear BK727; clear HB; have HO0_1 := n0_; have HO0_4 := n1_; have HO731 := n2_; have BK727 := n3_; have HB := n4_; clear n0_ n1_ n2_ n3_ n4_; (try clear hb); (try clear hb2); (try clear hk); (try clear hi)))
   go_meet
   case rel => exact ⟨_, (!t732), (by first | rfl | (simp; done) | (simp [*]; done)), H', ⟨by first | omega | exact Nat.le_refl _⟩, ⟨by (with_reducible repeat (first | apply Kd.V_alloc | apply Kd.V_drewN | apply Kd.V_drew)); exact Kd.V_mono HO0_1.o (fun _ hk => ⟨hk.1.1, hk.1.2⟩)⟩, ⟨by (with_reducible repeat (first | apply Kd.V_alloc | apply Kd.V_drewN | apply Kd.V_drew)); exact Kd.V_mono HO0_4.o (fun _ hk => ⟨hk.1.1, hk.1.2⟩)⟩, ⟨by (with_reducible repeat (first | refine zaj ?_ _ | refine zah ?_ | refine zai ?_ _)); exact BK727.o⟩, ⟨by repeat (first | (with_reducible first | exact HB.o | apply zad | apply zaf | apply zae | refine zag ?_ GE727.o) | exact HB.o)⟩⟩
  ·replace c7 := Bool.eq_false_iff.mpr c7
   subst c7
   have H1 : (vinculumlaw13_PosmapMap.j0 k l1 a2 true a0_0 l0_1 a0_2 a0_3 l0_4 a0_5 a0_6 a0_7) = some r := by rw [if_neg (show ¬ (false = true) by decide)] at H; exact H
   clear H
   have H := H1
   clear H1
   have H' := zab.mk H
   clear H
   go_wp2_with (first | ((with_reducible refine zax (f := 9) rfl ?_); refine zay (some 7) rfl rfl Try.func9 (by kernel_rfl) rfl #[] rfl (by (try simp only [List.map_toArray, List.map_cons, List.map_nil]); first | done | rfl | (simp only [List.length_drop, List.length_take]; rfl)) ?_; (with_reducible refine (vinculumlaw13_awake.calls k  false _ A6.o).mono ?_); rintro e w15 ⟨rfl, hb⟩; refine ⟨_, rfl, ?_⟩; have n0_ := zab.mk (Kd.V_below (by (with_reducible repeat (first | apply Kd.V_alloc | apply Kd.V_drewN | apply Kd.V_drew)); exact HO0_1.o) hb); have n1_ := zab.mk (Kd.V_below (by (with_reducible repeat (first | apply Kd.V_alloc | apply Kd.V_drewN | apply Kd.V_drew)); exact HO0_4.o) hb); have n2_ := zab.mk (zam (by (with_reducible repeat (first | refine zaj ?_ _ | refine zah ?_ | refine zai ?_ _)); exact BK727.o) hb); have n3_ := zab.mk (zal (by repeat (first | (with_reducible first | exact HB.o | apply zad | apply zaf | apply zae | refine zag ?_ GE727.o) | exact HB.o)) hb); clear HO0_1; clear HO0_4; clear BK727; clear HB; have HO0_1 := n0_; have HO0_4 := n1_; have BK727 := n2_; have HB := n3_; clear n0_ n1_ n2_ n3_; (try clear hb); (try clear hb2); (try clear hk); (try clear hi)))
   go_meet
   case rel => exact ⟨_, (true), (by first | rfl | (simp; done) | (simp [*]; done)), H', ⟨by first | omega | exact Nat.le_refl _⟩, ⟨by (with_reducible repeat (first | apply Kd.V_alloc | apply Kd.V_drewN | apply Kd.V_drew)); exact HO0_1.o⟩, ⟨by (with_reducible repeat (first | apply Kd.V_alloc | apply Kd.V_drewN | apply Kd.V_drew)); exact HO0_4.o⟩, ⟨by (with_reducible repeat (first | refine zaj ?_ _ | refine zah ?_ | refine zai ?_ _)); exact BK727.o⟩, ⟨by repeat (first | (with_reducible first | exact HB.o | apply zad | apply zaf | apply zae | refine zag ?_ GE727.o) | exact HB.o)⟩⟩
 case rest =>
  clear HC4
  try clear c1
  try clear p2
  try clear c7
  try clear c8
  try clear c9
  try clear hcz10_0
  try clear hcz10_1
  try clear hcz10_2
  try clear hcz10_3
  try clear hcz10_4
  try clear hcz10_5
  try clear hcz10_6
  try clear hcz10_7
  try clear hfz10_0
  try clear hfz10_1
  try clear hfz10_2
  try clear hfz10_3
  try clear hfz10_4
  try clear hfz10_5
  try clear hfz10_6
  try clear hfz10_7
  obtain ⟨kq, x16_3, rfl, HA, HJ3, HO_728001, HO_728004, BK727, HB⟩ := hcut
  cases kq with
  | zero => exact absurd HA.o (by simp [vinculumlaw13_PosmapMap.j0])
  | succ kj3 =>
   have H := HA.o
   clear HA
   simp only [vinculumlaw13_PosmapMap.j0] at H
   by_cases c16 : x16_3 = true
   ·subst c16
    have H1 : ((vinculumlaw13_awake.f kj3).bind fun t733 => (some t733)) = some r := by rw [if_pos rfl] at H; exact H
    clear H
    have H := H1
    clear H1
    replace H := Option.bind_eq_some_iff.mp H
    obtain ⟨t733, A170, H⟩ := H
    replace H : (some t733) = some r := H
    have A17 := zab.mk A170
    clear A170
    obtain rfl := Option.some.inj H
    go_wp2_with (first | ((with_reducible refine zax (f := 9) rfl ?_); refine zay (some 17) rfl rfl Try.func9 (by kernel_rfl) rfl #[] rfl (by (try simp only [List.map_toArray, List.map_cons, List.map_nil]); first | done | rfl | (simp only [List.length_drop, List.length_take]; rfl)) ?_; (with_reducible refine (vinculumlaw13_awake.calls kj3  t733 _ A17.o).mono ?_); rintro e w18 ⟨rfl, hb⟩; refine ⟨_, rfl, ?_⟩; have n0_ := zab.mk (Kd.V_below (by (with_reducible repeat (first | apply Kd.V_alloc | apply Kd.V_drewN | apply Kd.V_drew)); exact HO_728001.o) hb); have n1_ := zab.mk (Kd.V_below (by (with_reducible repeat (first | apply Kd.V_alloc | apply Kd.V_drewN | apply Kd.V_drew)); exact HO_728004.o) hb); have n2_ := zab.mk (zam (by (with_reducible repeat (first | refine zaj ?_ _ | refine zah ?_ | refine zai ?_ _)); exact BK727.o) hb); have n3_ := zab.mk (zal (by repeat (first | (with_reducible first | exact HB.o | apply zad | apply zaf | apply zae | refine zag ?_ GE727.o) | exact HB.o)) hb); clear HO_728001; clear HO_728004; clear BK727; clear HB; have HO_728001 := n0_; have HO_728004 := n1_; have BK727 := n2_; have HB := n3_; clear n0_ n1_ n2_ n3_; (try clear hb); (try clear hb2); (try clear hk); (try clear hi)))
    go_ret
    exact ⟨by first | rfl | (simp [errW_none, errW_some] <;> rfl) | (simp [*, errW_none, errW_some] <;> rfl), by repeat (first | (with_reducible first | exact HB.o | apply zad | apply zaf | apply zae | refine zag ?_ GE727.o) | exact HB.o)⟩
   ·replace c16 := Bool.eq_false_iff.mpr c16
    subst c16
    have H1 : ((posmap_Map.f kj3 a0_0 l0_1 a0_2 a0_3 l0_4 a0_5 a0_6 a0_7 l1 a2).bind fun t734 => ((vinculumref13_Map.f kj3 a0_0 l0_1 a0_2 a0_3 l0_4 a0_5 a0_6 a0_7 l1 a2).bind fun t737 => ((vinculumref10_Same.f kj3 t734 t737).bind fun t740 => (if t740 = true then ((posmap_Lost.f a0_0 l0_1 a0_2 a0_3 l0_4 a0_5 a0_6 a0_7 l1).bind fun t741 => ((vinculumref13_Lost.f kj3 a0_0 l0_1 a0_2 a0_3 l0_4 a0_5 a0_6 a0_7 l1).bind fun t742 => (some (t741 == t742)))) else (none))))) = some r := by rw [if_neg (show ¬ (false = true) by decide)] at H; exact H
    clear H
    have H := H1
    clear H1
    replace H := Option.bind_eq_some_iff.mp H
    obtain ⟨t734, A190, H⟩ := H
    replace H : ((vinculumref13_Map.f kj3 a0_0 l0_1 a0_2 a0_3 l0_4 a0_5 a0_6 a0_7 l1 a2).bind fun t737 => ((vinculumref10_Same.f kj3 t734 t737).bind fun t740 => (if t740 = true then ((posmap_Lost.f a0_0 l0_1 a0_2 a0_3 l0_4 a0_5 a0_6 a0_7 l1).bind fun t741 => ((vinculumref13_Lost.f kj3 a0_0 l0_1 a0_2 a0_3 l0_4 a0_5 a0_6 a0_7 l1).bind fun t742 => (some (t741 == t742)))) else (none)))) = some r := H
    have A19 := zab.mk A190
    clear A190
    replace H := Option.bind_eq_some_iff.mp H
    obtain ⟨t737, A200, H⟩ := H
    replace H : ((vinculumref10_Same.f kj3 t734 t737).bind fun t740 => (if t740 = true then ((posmap_Lost.f a0_0 l0_1 a0_2 a0_3 l0_4 a0_5 a0_6 a0_7 l1).bind fun t741 => ((vinculumref13_Lost.f kj3 a0_0 l0_1 a0_2 a0_3 l0_4 a0_5 a0_6 a0_7 l1).bind fun t742 => (some (t741 == t742)))) else (none))) = some r := H
    have A20 := zab.mk A200
    clear A200
    replace H := Option.bind_eq_some_iff.mp H
    obtain ⟨t740, A210, H⟩ := H
    replace H : (if t740 = true then ((posmap_Lost.f a0_0 l0_1 a0_2 a0_3 l0_4 a0_5 a0_6 a0_7 l1).bind fun t741 => ((vinculumref13_Lost.f kj3 a0_0 l0_1 a0_2 a0_3 l0_4 a0_5 a0_6 a0_7 l1).bind fun t742 => (some (t741 == t742)))) else (none)) = some r := H
    have A21 := zab.mk A210
    clear A210
    by_cases c22 : t740 = true
    ·subst c22
     have H1 : ((posmap_Lost.f a0_0 l0_1 a0_2 a0_3 l0_4 a0_5 a0_6 a0_7 l1).bind fun t741 => ((vinculumref13_Lost.f kj3 a0_0 l0_1 a0_2 a0_3 l0_4 a0_5 a0_6 a0_7 l1).bind fun t742 => (some (t741 == t742)))) = some r := by rw [if_pos rfl] at H; exact H
     clear H
     have H := H1
     clear H1
     replace H := Option.bind_eq_some_iff.mp H
     obtain ⟨t741, A230, H⟩ := H
     replace H : ((vinculumref13_Lost.f kj3 a0_0 l0_1 a0_2 a0_3 l0_4 a0_5 a0_6 a0_7 l1).bind fun t742 => (some (t741 == t742))) = some r := H
     have A23 := zab.mk A230
     clear A230
     replace H := Option.bind_eq_some_iff.mp H
     obtain ⟨t742, A240, H⟩ := H
     replace H : (some (t741 == t742)) = some r := H
     have A24 := zab.mk A240
     clear A240
     obtain rfl := Option.some.inj H
     try go_wp2
     have n0_ := zab.mk (Kd.V_drew HO_728001.o)
     have n1_ := zab.mk (Kd.V_drew HO_728004.o)
     have n2_ := zab.mk (zah BK727.o)
     have n3_ := zab.mk (zae HB.o)
     clear HO_728001
     clear HO_728004
     clear BK727
     clear HB
     have HO_728001 := n0_
     have HO_728004 := n1_
     have BK727 := n2_
     have HB := n3_
     clear n0_ n1_ n2_ n3_
     refine zaN (n := 19) (S := fun w' => w'.cell? ⟨gb727, 0, none⟩ = some (.int .i64 a0_0) ∧ w'.cell? ⟨gb727, 1, none⟩ = some (.slice A0_1 l0_1.length c0_1) ∧ w'.cell? ⟨gb727, 2, none⟩ = some (.int .i64 a0_2) ∧ w'.cell? ⟨gb727, 3, none⟩ = some (.int .i64 a0_3) ∧ w'.cell? ⟨gb727, 4, none⟩ = some (.slice A0_4 l0_4.length c0_4) ∧ w'.cell? ⟨gb727, 5, none⟩ = some (.int .i64 a0_5) ∧ w'.cell? ⟨gb727, 6, none⟩ = some (.string a0_6) ∧ w'.cell? ⟨gb727, 7, none⟩ = some (.string a0_7)) (ds := []) #[false, false, false, false, false, false, false, false, false, false, false, false, false, false, false, false, false, false, false] (by kernel_rfl) rfl rfl (cz8 BK727.o) (fun hHeld => ?_); refine zaP vinculumlaw13_PosmapMap.tab3 vinculumlaw13_PosmapMap.bits3 (fun HT_ HW_ => ?_)
     generalize wc.drew = w25 at HO_728001 HO_728004 BK727 HB hHeld ⊢
     refine pure_ (i := 1) (N := some 19) (v := ?_) (a' := ?_) #[false, true, false, false, false, false, false, false, false, false, false, false, false, false, false, false, false, false, false] rfl rfl (zan HT_.out (by kernel_rfl)) (fun _ _ _ h => h) (Or.inl ⟨by rfl, ?_⟩) ?_ ?_
     rotate_left
     ·intro w'
      go_simp
      with_reducible rfl
     rotate_left
     ·simp only [Act.put, List.setIfInBounds_toArray, List.set_cons_zero, List.set_cons_succ, i64_w, i32_w]
      rfl
     refine pure_ (i := 2) (N := some 20) (v := ?_) (a' := ?_) #[false, true, true, false, false, false, false, false, false, false, false, false, false, false, false, false, false, false, false] rfl rfl (zan HT_.out (by kernel_rfl)) (fun _ _ _ h => h) (Or.inl ⟨by rfl, ?_⟩) ?_ ?_
     rotate_left
     ·intro w'
      go_simp
      with_reducible rfl
     rotate_left
     ·simp only [Act.put, List.setIfInBounds_toArray, List.set_cons_zero, List.set_cons_succ, i64_w, i32_w]
      rfl
     refine pure_ (i := 5) (N := some 23) (v := ?_) (a' := ?_) #[false, true, true, false, false, true, false, false, false, false, false, false, false, false, false, false, false, false, false] rfl rfl (zan HT_.out (by kernel_rfl)) (fun _ _ _ h => h) (Or.inl ⟨by rfl, ?_⟩) ?_ ?_
     rotate_left
     ·intro w'
      go_simp
      with_reducible rfl
     rotate_left
     ·simp only [Act.put, List.setIfInBounds_toArray, List.set_cons_zero, List.set_cons_succ, i64_w, i32_w]
      rfl
     refine pure_ (i := 6) (N := some 24) (v := ?_) (a' := ?_) #[false, true, true, false, false, true, true, false, false, false, false, false, false, false, false, false, false, false, false] rfl rfl (zan HT_.out (by kernel_rfl)) (fun _ _ _ h => h) (Or.inl ⟨by rfl, ?_⟩) ?_ ?_
     rotate_left
     ·intro w'
      go_simp
      with_reducible rfl
     rotate_left
     ·simp only [Act.put, List.setIfInBounds_toArray, List.set_cons_zero, List.set_cons_succ, i64_w, i32_w]
      rfl
     refine take_ (i := 0) (N := some 18) (v := ?_) (a' := ?_) #[true, true, true, false, false, true, true, false, false, false, false, false, false, false, false, false, false, false, false] rfl rfl (zav HT_.out HW_.out (by kernel_rfl)) (fun _ _ _ h => h) (Or.inl ⟨by rfl, ?_⟩) hHeld ?_ ?_
     rotate_left
     ·rintro w' ⟨s0, s1, s2, s3, s4, s5, s6, s7⟩
      go_simp
      with_reducible rfl
     rotate_left
     ·simp only [Act.put, List.setIfInBounds_toArray, List.set_cons_zero, List.set_cons_succ, i64_w, i32_w]
      rfl
     refine take_ (i := 4) (N := some 22) (v := ?_) (a' := ?_) #[true, true, true, false, true, true, true, false, false, false, false, false, false, false, false, false, false, false, false] rfl rfl (zav HT_.out HW_.out (by kernel_rfl)) (fun _ _ _ h => h) (Or.inl ⟨by rfl, ?_⟩) hHeld ?_ ?_
     rotate_left
     ·rintro w' ⟨s0, s1, s2, s3, s4, s5, s6, s7⟩
      go_simp
      with_reducible rfl
     rotate_left
     ·simp only [Act.put, List.setIfInBounds_toArray, List.set_cons_zero, List.set_cons_succ, i64_w, i32_w]
      rfl
     refine one_ (i := 3) (N := some 21) #[true, true, true, true, true, true, true, false, false, false, false, false, false, false, false, false, false, false, false] rfl rfl (zaJ HT_.out (by kernel_rfl)) (by decide) (fun K hK => ?_)
     refine goes_ Try.func14 (by kernel_rfl) rfl #[.agg #[.int .i64 a0_0, .slice A0_1 l0_1.length c0_1, .int .i64 a0_2, .int .i64 a0_3, .slice A0_4 l0_4.length c0_4, .int .i64 a0_5, .string a0_6, .string a0_7], .slice A1 l1.length c1, .bool a2] (by rfl) rfl rfl (by (try simp only [List.map_toArray, List.map_cons, List.map_nil]); first | done | rfl | (simp only [List.length_drop, List.length_take]; rfl)) ?_
     with_reducible refine (posmap_Map.calls kj3 a0_0 _ _ l0_1 a0_2 a0_3 _ _ l0_4 a0_5 a0_6 a0_7 _ _ l1 a2 t734 _ ?side1 ?side2 ?side3 ?side4 ?side5 ?side6 A19.o).mono ?_
     (case side1 => repeat (first | exact (Kd.V_reads' HO_728001.o).2.2 | (with_reducible first | refine Kd.C_alloc ?_ _ | refine Kd.C_drewN ?_ _ | refine Kd.C_drew ?_)))
     (case side2 => exact (Kd.V_reads' HO_728001.o).2.1)
     (case side3 => repeat (first | exact (Kd.V_reads' HO_728004.o).2.2 | (with_reducible first | refine Kd.C_alloc ?_ _ | refine Kd.C_drewN ?_ _ | refine Kd.C_drew ?_)))
     (case side4 => exact (Kd.V_reads' HO_728004.o).2.1)
     (case side5 => repeat (first | exact (Kd.C_below HR1.o HB.o) | (with_reducible first | refine Kd.C_alloc ?_ _ | refine Kd.C_drewN ?_ _ | refine Kd.C_drew ?_)))
     (case side6 => exact HC1.out)
     rintro e w26 ⟨v735, rfl, ho0, hb⟩
     refine ⟨_, rfl, ?_⟩
     have n0_ := zab.mk (Kd.V_elder' (by (with_reducible repeat (first | apply Kd.V_alloc | apply Kd.V_drewN | apply Kd.V_drew)); exact HO_728001.o) (Kd.R_base ho0) hb)
     have n1_ := zab.mk (Kd.V_elder' (by (with_reducible repeat (first | apply Kd.V_alloc | apply Kd.V_drewN | apply Kd.V_drew)); exact HO_728004.o) (Kd.R_base ho0) hb)
     have n2_ := zab.mk (Kd.R_lower (Kd.R_newM (M := fun k_ => (w.heap.size ≤ k_)) ho0 (zak (by repeat (first | (with_reducible first | exact HB.o | apply zad | apply zaf | apply zae | refine zag ?_ GE727.o) | exact HB.o))) (fun k_ h_ => h_)) (zak (by repeat (first | (with_reducible first | exact HB.o | apply zad | apply zaf | apply zae | refine zag ?_ GE727.o) | exact HB.o))))
     have n3_ := zab.mk (zam (by (with_reducible repeat (first | refine zaj ?_ _ | refine zah ?_ | refine zai ?_ _)); exact BK727.o) hb)
     have n4_ := zab.mk (zal (by repeat (first | (with_reducible first | exact HB.o | apply zad | apply zaf | apply zae | refine zag ?_ GE727.o) | exact HB.o)) hb)
     clear HO_728001
     clear HO_728004
     clear BK727
     clear HB
     have HO_728001 := n0_
     have HO_728004 := n1_
     have HO736 := n2_
     have BK727 := n3_
     have HB := n4_
     clear n0_ n1_ n2_ n3_ n4_
     (try clear hb)
     (try clear hb2)
     (try clear hk)
     (try clear hi)
     (try clear ho0)
     refine hK.out _ _ (cz8 BK727.o) (fun hHeld => ?_)
     clear hK K
     refine norm_ (a' := ?_) ?_ ?_
     rotate_left
     ·show Act.put _ (some 21) _ = _
      simp only [Act.put, List.setIfInBounds_toArray, List.set_cons_zero, List.set_cons_succ, i64_w, i32_w]
      rfl
     refine one_ (i := 7) (N := some 25) #[true, true, true, true, true, true, true, true, false, false, false, false, false, false, false, false, false, false, false] rfl rfl (zaJ HT_.out (by kernel_rfl)) (by decide) (fun K hK => ?_)
     refine goes_ Try.func23 (by kernel_rfl) rfl #[.agg #[.int .i64 a0_0, .slice A0_1 l0_1.length c0_1, .int .i64 a0_2, .int .i64 a0_3, .slice A0_4 l0_4.length c0_4, .int .i64 a0_5, .string a0_6, .string a0_7], .slice A1 l1.length c1, .bool a2] (by rfl) rfl rfl (by (try simp only [List.map_toArray, List.map_cons, List.map_nil]); first | done | rfl | (simp only [List.length_drop, List.length_take]; rfl)) ?_
     with_reducible refine (vinculumref13_Map.calls kj3 a0_0 _ _ l0_1 a0_2 a0_3 _ _ l0_4 a0_5 a0_6 a0_7 _ _ l1 a2 t737 _ ?side1 ?side2 ?side3 ?side4 ?side5 ?side6 A20.o).mono ?_
     (case side1 => repeat (first | exact (Kd.V_reads' HO_728001.o).2.2 | (with_reducible first | refine Kd.C_alloc ?_ _ | refine Kd.C_drewN ?_ _ | refine Kd.C_drew ?_)))
     (case side2 => exact (Kd.V_reads' HO_728001.o).2.1)
     (case side3 => repeat (first | exact (Kd.V_reads' HO_728004.o).2.2 | (with_reducible first | refine Kd.C_alloc ?_ _ | refine Kd.C_drewN ?_ _ | refine Kd.C_drew ?_)))
     (case side4 => exact (Kd.V_reads' HO_728004.o).2.1)
     (case side5 => repeat (first | exact (Kd.C_below HR1.o HB.o) | (with_reducible first | refine Kd.C_alloc ?_ _ | refine Kd.C_drewN ?_ _ | refine Kd.C_drew ?_)))
     (case side6 => exact HC1.out)
     rintro e w27 ⟨v738, rfl, ho0, hb⟩
     refine ⟨_, rfl, ?_⟩
     have n0_ := zab.mk (Kd.V_elder' (by (with_reducible repeat (first | apply Kd.V_alloc | apply Kd.V_drewN | apply Kd.V_drew)); exact HO_728001.o) (Kd.R_base ho0) hb)
     have n1_ := zab.mk (Kd.V_elder' (by (with_reducible repeat (first | apply Kd.V_alloc | apply Kd.V_drewN | apply Kd.V_drew)); exact HO_728004.o) (Kd.R_base ho0) hb)
     have n2_ := zab.mk (Kd.R_elder' (by (with_reducible repeat (first | apply Kd.R_alloc | apply Kd.R_drewN | apply Kd.R_drew)); exact HO736.o) (Kd.R_base ho0) hb)
     have n3_ := zab.mk (Kd.R_lower (Kd.R_new' (Kd.R_newM (M := fun k_ => (w.heap.size ≤ k_)) ho0 (zak (by repeat (first | (with_reducible first | exact HB.o | apply zad | apply zaf | apply zae | refine zag ?_ GE727.o) | exact HB.o))) (fun k_ h_ => h_)) (Kd.R_lt (by (with_reducible repeat (first | apply Kd.R_alloc | apply Kd.R_drewN | apply Kd.R_drew)); exact HO736.o))) (zak (by repeat (first | (with_reducible first | exact HB.o | apply zad | apply zaf | apply zae | refine zag ?_ GE727.o) | exact HB.o))))
     have n4_ := zab.mk (zam (by (with_reducible repeat (first | refine zaj ?_ _ | refine zah ?_ | refine zai ?_ _)); exact BK727.o) hb)
     have n5_ := zab.mk (zal (by repeat (first | (with_reducible first | exact HB.o | apply zad | apply zaf | apply zae | refine zag ?_ GE727.o) | exact HB.o)) hb)
     clear HO_728001
     clear HO_728004
     clear HO736
     clear BK727
     clear HB
     have HO_728001 := n0_
     have HO_728004 := n1_
     have HO736 := n2_
     have HO739 := n3_
     have BK727 := n4_
     have HB := n5_
     clear n0_ n1_ n2_ n3_ n4_ n5_
     (try clear hb)
     (try clear hb2)
     (try clear hk)
     (try clear hi)
     (try clear ho0)
     obtain ⟨Ao28, co28, eo28⟩ := Kd.R_slice HO736.o
     (first | subst eo28 | (injection eo28 with f1_ f2_ f3_; have f4_ := f1_.symm; have f5_ := f3_.symm; clear f1_ f2_ f3_; subst f4_; subst f5_))
     obtain ⟨Ao29, co29, eo29⟩ := Kd.R_slice HO739.o
     (first | subst eo29 | (injection eo29 with f1_ f2_ f3_; have f4_ := f1_.symm; have f5_ := f3_.symm; clear f1_ f2_ f3_; subst f4_; subst f5_))
     refine hK.out _ _ (cz8 BK727.o) (fun hHeld => ?_)
     clear hK K
     refine norm_ (a' := ?_) ?_ ?_
     rotate_left
     ·show Act.put _ (some 25) _ = _
      simp only [Act.put, List.setIfInBounds_toArray, List.set_cons_zero, List.set_cons_succ, i64_w, i32_w]
      rfl
     refine one_ (i := 8) (N := some 26) #[true, true, true, true, true, true, true, true, true, false, false, false, false, false, false, false, false, false, false] rfl rfl (zaJ HT_.out (by kernel_rfl)) (by decide) (fun K hK => ?_)
     refine goes_ Try.func19 (by kernel_rfl) rfl #[.slice Ao28 t734.length co28, .slice Ao29 t737.length co29] (by rfl) rfl rfl (by (try simp only [List.map_toArray, List.map_cons, List.map_nil]); first | done | rfl | (simp only [List.length_drop, List.length_take]; rfl)) ?_
     with_reducible refine (vinculumref10_Same.calls kj3 _ _ t734 _ _ t737 true _ ?side1 ?side2 ?side3 ?side4 A21.o).mono ?_
     (case side1 => repeat (first | exact (Kd.R_reads' HO736.o).2.2 | (with_reducible first | refine Kd.C_alloc ?_ _ | refine Kd.C_drewN ?_ _ | refine Kd.C_drew ?_)))
     (case side2 => exact (Kd.R_reads' HO736.o).2.1)
     (case side3 => repeat (first | exact (Kd.R_reads' HO739.o).2.2 | (with_reducible first | refine Kd.C_alloc ?_ _ | refine Kd.C_drewN ?_ _ | refine Kd.C_drew ?_)))
     (case side4 => exact (Kd.R_reads' HO739.o).2.1)
     rintro e w' ⟨rfl, ⟨nd, rfl⟩⟩
     refine ⟨_, rfl, ?_⟩
     refine hK.out _ _ (cz8 BK727.o) (fun hHeld => ?_)
     clear hK K
     refine norm_ (a' := ?_) ?_ ?_
     rotate_left
     ·show Act.put _ (some 26) _ = _
      simp only [Act.put, List.setIfInBounds_toArray, List.set_cons_zero, List.set_cons_succ, i64_w, i32_w]
      rfl
     refine pure_ (i := 9) (N := some 27) (v := ?_) (a' := ?_) #[true, true, true, true, true, true, true, true, true, true, false, false, false, false, false, false, false, false, false] rfl rfl (zan HT_.out (by kernel_rfl)) (fun _ _ _ h => h) (Or.inl ⟨by rfl, ?_⟩) ?_ ?_
     rotate_left
     ·intro w'
      go_simp
      with_reducible rfl
     rotate_left
     ·simp only [Act.put, List.setIfInBounds_toArray, List.set_cons_zero, List.set_cons_succ, i64_w, i32_w]
      rfl
     refine pure_ (i := 11) (N := some 29) (v := ?_) (a' := ?_) #[true, true, true, true, true, true, true, true, true, true, false, true, false, false, false, false, false, false, false] rfl rfl (zan HT_.out (by kernel_rfl)) (fun _ _ _ h => h) (Or.inl ⟨by rfl, ?_⟩) ?_ ?_
     rotate_left
     ·intro w'
      go_simp
      with_reducible rfl
     rotate_left
     ·simp only [Act.put, List.setIfInBounds_toArray, List.set_cons_zero, List.set_cons_succ, i64_w, i32_w]
      rfl
     refine pure_ (i := 14) (N := some 32) (v := ?_) (a' := ?_) #[true, true, true, true, true, true, true, true, true, true, false, true, false, false, true, false, false, false, false] rfl rfl (zan HT_.out (by kernel_rfl)) (fun _ _ _ h => h) (Or.inl ⟨by rfl, ?_⟩) ?_ ?_
     rotate_left
     ·intro w'
      go_simp
      with_reducible rfl
     rotate_left
     ·simp only [Act.put, List.setIfInBounds_toArray, List.set_cons_zero, List.set_cons_succ, i64_w, i32_w]
      rfl
     refine take_ (i := 10) (N := some 28) (v := ?_) (a' := ?_) #[true, true, true, true, true, true, true, true, true, true, true, true, false, false, true, false, false, false, false] rfl rfl (zav HT_.out HW_.out (by kernel_rfl)) (fun _ _ _ h => h) (Or.inl ⟨by rfl, ?_⟩) hHeld ?_ ?_
     rotate_left
     ·rintro w' ⟨s0, s1, s2, s3, s4, s5, s6, s7⟩
      go_simp
      with_reducible rfl
     rotate_left
     ·simp only [Act.put, List.setIfInBounds_toArray, List.set_cons_zero, List.set_cons_succ, i64_w, i32_w]
      rfl
     refine take_ (i := 13) (N := some 31) (v := ?_) (a' := ?_) #[true, true, true, true, true, true, true, true, true, true, true, true, false, true, true, false, false, false, false] rfl rfl (zav HT_.out HW_.out (by kernel_rfl)) (fun _ _ _ h => h) (Or.inl ⟨by rfl, ?_⟩) hHeld ?_ ?_
     rotate_left
     ·rintro w' ⟨s0, s1, s2, s3, s4, s5, s6, s7⟩
      go_simp
      with_reducible rfl
     rotate_left
     ·simp only [Act.put, List.setIfInBounds_toArray, List.set_cons_zero, List.set_cons_succ, i64_w, i32_w]
      rfl
     refine one_ (i := 12) (N := some 30) #[true, true, true, true, true, true, true, true, true, true, true, true, true, true, true, false, false, false, false] rfl rfl (zaJ HT_.out (by kernel_rfl)) (by decide) (fun K hK => ?_)
     refine goes_ Try.func24 (by kernel_rfl) rfl #[.agg #[.int .i64 a0_0, .slice A0_1 l0_1.length c0_1, .int .i64 a0_2, .int .i64 a0_3, .slice A0_4 l0_4.length c0_4, .int .i64 a0_5, .string a0_6, .string a0_7], .slice A1 l1.length c1] (by rfl) rfl rfl (by (try simp only [List.map_toArray, List.map_cons, List.map_nil]); first | done | rfl | (simp only [List.length_drop, List.length_take]; rfl)) ?_
     with_reducible refine (posmap_Lost.calls a0_0 _ _ l0_1 a0_2 a0_3 _ _ l0_4 a0_5 a0_6 a0_7 _ _ l1 t741 _ ?side1 ?side2 ?side3 ?side4 ?side5 ?side6 A23.o).mono ?_
     (case side1 => repeat (first | exact (Kd.V_reads' HO_728001.o).2.2 | (with_reducible first | refine Kd.C_alloc ?_ _ | refine Kd.C_drewN ?_ _ | refine Kd.C_drew ?_)))
     (case side2 => exact (Kd.V_reads' HO_728001.o).2.1)
     (case side3 => repeat (first | exact (Kd.V_reads' HO_728004.o).2.2 | (with_reducible first | refine Kd.C_alloc ?_ _ | refine Kd.C_drewN ?_ _ | refine Kd.C_drew ?_)))
     (case side4 => exact (Kd.V_reads' HO_728004.o).2.1)
     (case side5 => repeat (first | exact (Kd.C_below HR1.o (by repeat (first | (with_reducible first | exact HB.o | apply zad | apply zaf | apply zae | refine zag ?_ GE727.o) | exact HB.o))) | (with_reducible first | refine Kd.C_alloc ?_ _ | refine Kd.C_drewN ?_ _ | refine Kd.C_drew ?_)))
     (case side6 => exact HC1.out)
     rintro e w30 ⟨rfl, hb⟩
     refine ⟨_, rfl, ?_⟩
     have n0_ := zab.mk (Kd.V_below (by (with_reducible repeat (first | apply Kd.V_alloc | apply Kd.V_drewN | apply Kd.V_drew)); exact HO_728001.o) hb)
     have n1_ := zab.mk (Kd.V_below (by (with_reducible repeat (first | apply Kd.V_alloc | apply Kd.V_drewN | apply Kd.V_drew)); exact HO_728004.o) hb)
     have n2_ := zab.mk (Kd.R_below (by (with_reducible repeat (first | apply Kd.R_alloc | apply Kd.R_drewN | apply Kd.R_drew)); exact HO736.o) hb)
     have n3_ := zab.mk (Kd.R_below (by (with_reducible repeat (first | apply Kd.R_alloc | apply Kd.R_drewN | apply Kd.R_drew)); exact HO739.o) hb)
     have n4_ := zab.mk (zam (by (with_reducible repeat (first | refine zaj ?_ _ | refine zah ?_ | refine zai ?_ _)); exact BK727.o) hb)
     have n5_ := zab.mk (zal (by repeat (first | (with_reducible first | exact HB.o | apply zad | apply zaf | apply zae | refine zag ?_ GE727.o) | exact HB.o)) hb)
     clear HO_728001
     clear HO_728004
     clear HO736
     clear HO739
     clear BK727
     clear HB
     have HO_728001 := n0_
     have HO_728004 := n1_
     have HO736 := n2_
     have HO739 := n3_
     have BK727 := n4_
     have HB := n5_
     clear n0_ n1_ n2_ n3_ n4_ n5_
     (try clear hb)
     (try clear hb2)
     (try clear hk)
     (try clear hi)
     refine hK.out _ _ (cz8 BK727.o) (fun hHeld => ?_)
     clear hK K
     refine norm_ (a' := ?_) ?_ ?_
     rotate_left
     ·show Act.put _ (some 30) _ = _
      simp only [Act.put, List.setIfInBounds_toArray, List.set_cons_zero, List.set_cons_succ, i64_w, i32_w]
      rfl
     refine one_ (i := 15) (N := some 33) #[true, true, true, true, true, true, true, true, true, true, true, true, true, true, true, true, false, false, false] rfl rfl (zaJ HT_.out (by kernel_rfl)) (by decide) (fun K hK => ?_)
     refine goes_ Try.func25 (by kernel_rfl) rfl #[.agg #[.int .i64 a0_0, .slice A0_1 l0_1.length c0_1, .int .i64 a0_2, .int .i64 a0_3, .slice A0_4 l0_4.length c0_4, .int .i64 a0_5, .string a0_6, .string a0_7], .slice A1 l1.length c1] (by rfl) rfl rfl (by (try simp only [List.map_toArray, List.map_cons, List.map_nil]); first | done | rfl | (simp only [List.length_drop, List.length_take]; rfl)) ?_
     with_reducible refine (vinculumref13_Lost.calls kj3 a0_0 _ _ l0_1 a0_2 a0_3 _ _ l0_4 a0_5 a0_6 a0_7 _ _ l1 t742 _ ?side1 ?side2 ?side3 ?side4 ?side5 ?side6 A24.o).mono ?_
     (case side1 => repeat (first | exact (Kd.V_reads' HO_728001.o).2.2 | (with_reducible first | refine Kd.C_alloc ?_ _ | refine Kd.C_drewN ?_ _ | refine Kd.C_drew ?_)))
     (case side2 => exact (Kd.V_reads' HO_728001.o).2.1)
     (case side3 => repeat (first | exact (Kd.V_reads' HO_728004.o).2.2 | (with_reducible first | refine Kd.C_alloc ?_ _ | refine Kd.C_drewN ?_ _ | refine Kd.C_drew ?_)))
     (case side4 => exact (Kd.V_reads' HO_728004.o).2.1)
     (case side5 => repeat (first | exact (Kd.C_below HR1.o HB.o) | (with_reducible first | refine Kd.C_alloc ?_ _ | refine Kd.C_drewN ?_ _ | refine Kd.C_drew ?_)))
     (case side6 => exact HC1.out)
     rintro e w31 ⟨rfl, hb⟩
     refine ⟨_, rfl, ?_⟩
     have n0_ := zab.mk (Kd.V_below (by (with_reducible repeat (first | apply Kd.V_alloc | apply Kd.V_drewN | apply Kd.V_drew)); exact HO_728001.o) hb)
     have n1_ := zab.mk (Kd.V_below (by (with_reducible repeat (first | apply Kd.V_alloc | apply Kd.V_drewN | apply Kd.V_drew)); exact HO_728004.o) hb)
     have n2_ := zab.mk (Kd.R_below (by (with_reducible repeat (first | apply Kd.R_alloc | apply Kd.R_drewN | apply Kd.R_drew)); exact HO736.o) hb)
     have n3_ := zab.mk (Kd.R_below (by (with_reducible repeat (first | apply Kd.R_alloc | apply Kd.R_drewN | apply Kd.R_drew)); exact HO739.o) hb)
     have n4_ := zab.mk (zam (by (with_reducible repeat (first | refine zaj ?_ _ | refine zah ?_ | refine zai ?_ _)); exact BK727.o) hb)
     have n5_ := zab.mk (zal (by repeat (first | (with_reducible first | exact HB.o | apply zad | apply zaf | apply zae | refine zag ?_ GE727.o) | exact HB.o)) hb)
     clear HO_728001
     clear HO_728004
     clear HO736
     clear HO739
     clear BK727
     clear HB
     have HO_728001 := n0_
     have HO_728004 := n1_
     have HO736 := n2_
     have HO739 := n3_
     have BK727 := n4_
     have HB := n5_
     clear n0_ n1_ n2_ n3_ n4_ n5_
     (try clear hb)
     (try clear hb2)
     (try clear hk)
     (try clear hi)
     refine hK.out _ _ (cz8 BK727.o) (fun hHeld => ?_)
     clear hK K
     refine norm_ (a' := ?_) ?_ ?_
     rotate_left
     ·show Act.put _ (some 33) _ = _
      simp only [Act.put, List.setIfInBounds_toArray, List.set_cons_zero, List.set_cons_succ, i64_w, i32_w]
      rfl
     refine pure_ (i := 16) (N := some 34) (v := ?_) (a' := ?_) #[true, true, true, true, true, true, true, true, true, true, true, true, true, true, true, true, true, false, false] rfl rfl (zan HT_.out (by kernel_rfl)) (fun _ _ _ h => h) (Or.inl ⟨by rfl, ?_⟩) ?_ ?_
     rotate_left
     ·intro w'
      go_simp
      with_reducible rfl
     rotate_left
     ·simp only [Act.put, List.setIfInBounds_toArray, List.set_cons_zero, List.set_cons_succ, i64_w, i32_w]
      rfl
     refine pure_ (i := 17) (N := some 35) (v := ?_) (a' := ?_) #[true, true, true, true, true, true, true, true, true, true, true, true, true, true, true, true, true, true, false] rfl rfl (zan HT_.out (by kernel_rfl)) (fun _ _ _ h => h) (Or.inl ⟨by rfl, ?_⟩) ?_ ?_
     rotate_left
     ·intro w'
      go_simp
      with_reducible rfl
     rotate_left
     ·simp only [Act.put, List.setIfInBounds_toArray, List.set_cons_zero, List.set_cons_succ, i64_w, i32_w]
      rfl
     refine pure_ (i := 18) (N := some 6) (v := ?_) (a' := ?_) #[true, true, true, true, true, true, true, true, true, true, true, true, true, true, true, true, true, true, true] rfl rfl (zan HT_.out (by kernel_rfl)) (fun _ _ _ h => h) (Or.inl ⟨by rfl, ?_⟩) ?_ ?_
     rotate_left
     ·intro w'
      go_simp
      with_reducible rfl
     rotate_left
     ·simp only [Act.put, List.setIfInBounds_toArray, List.set_cons_zero, List.set_cons_succ, i64_w, i32_w]
      rfl
     refine done_ (zaQ HT_.out (by kernel_rfl)) ?_
     try go_wp2
     go_ret
     exact ⟨by first | rfl | (simp [errW_none, errW_some] <;> rfl) | (simp [*, errW_none, errW_some] <;> rfl), by repeat (first | (with_reducible first | exact HB.o | apply zad | apply zaf | apply zae | refine zag ?_ GE727.o) | exact HB.o)⟩
    ·replace c22 := Bool.eq_false_iff.mpr c22
     subst c22
     have H1 : (none) = some r := by rw [if_neg (show ¬ (false = true) by decide)] at H; exact H
     clear H
     have H := H1
     clear H1
     exact absurd H (by simp)

end Go.Proofs.Ytikgflpobacndaa.P
