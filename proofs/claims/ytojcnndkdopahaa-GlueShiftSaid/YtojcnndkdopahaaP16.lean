/- Written by wip/tool/hprint.py (the kit's print.py with hand-proved contracts set in): contracts of the functions that the statements of this seat reach, without conditions beyond those named in each theorem. -/
import Derived.Test.YtojcnndkdopahaaP0
import Derived.Test.YtojcnndkdopahaaP6
import Derived.Test.YtojcnndkdopahaaP7
import Derived.Test.YtojcnndkdopahaaP9
import Derived.Test.YtojcnndkdopahaaP14
import Derived.Test.YtojcnndkdopahaaP15
namespace Go.Proofs.Ytojcnndkdopahaa.P
open Go.RowKit Go.Proofs.YtojcnndkdopahaaW.PrintWords Go.Proofs.YtojcnndkdopahaaW.PrintLast Go.Proofs.YtojcnndkdopahaaW.PrintMore
attribute [local go_sem] max2_int min2_int max_two min_two max_three min_three max_four min_four   -- for this text's walks alone
set_option linter.unusedVariables false
set_option linter.unusedSimpArgs false

/-! ### vinculumlaw27_awake: function 13 -/
def vinculumlaw27_awake.f (k : Nat)  : Option (Bool) := (some (([(⟨10, 1, 0, 0⟩ : S36), (⟨10, 2, 0, 0⟩ : S36)] : List (S36)) : List (S36))).bind fun y113 => ((glue_Set.f k y113 25).bind fun bt116 => ((glue_Badness.f k y113 25).bind fun bt121 => (if bt116.2.2 = 0 then (if bt121.2 = 0 then (if bt116.2.1 = 0 then (if (bt116.1.length : Int) = 2 then (if 0 < (bt116.1.length : Int) then (if (rd bt116.1 0) = 11 then (if 1 < (bt116.1.length : Int) then (if (rd bt116.1 1) = 14 then (if bt121.1 = 457 then ((glue_Valid.f k y113).bind fun t125 => (if t125 = true then ((glue_Natural.f k y113).bind fun t126 => (if t126 = 20 then ((glue_Stretch.f k y113 0).bind fun t127 => (some (t127 == 3))) else (none))) else (none))) else (none)) else (none)) else (none)) else (none)) else (none)) else (none)) else (none)) else (none)) else (none))))
theorem vinculumlaw27_awake.mono : ∀ k, LeO (vinculumlaw27_awake.f k ) (vinculumlaw27_awake.f (k + 1) ) := by
  intro  k
  unfold vinculumlaw27_awake.f
  repeat' first
      | (with_reducible exact glue_Badness.mono _ _ _)
      | (with_reducible exact glue_Natural.mono _ _)
      | (with_reducible exact glue_Set.mono _ _ _)
      | (with_reducible exact glue_Stretch.mono _ _ _)
      | (with_reducible exact glue_Valid.mono _ _)
      | (with_reducible exact LeO.refl _)
      | (with_reducible exact LeO.none _)
      | (with_reducible refine LeO.ite ?_ ?_)
      | (with_reducible refine LeO.bind ?_ (fun _ => ?_))
      | exact glue_Badness.mono _ _ _
      | exact glue_Natural.mono _ _
      | exact glue_Set.mono _ _ _
      | exact glue_Stretch.mono _ _ _
      | exact glue_Valid.mono _ _
      | exact LeO.none _
      | refine LeO.ite ?_ ?_
      | refine LeO.bind ?_ (fun _ => ?_)
set_option maxHeartbeats 8000000 in
set_option maxRecDepth 100000 in
theorem vinculumlaw27_awake.calls (k : Nat)  (r : Bool) (w : World) (h : vinculumlaw27_awake.f k  = some r) :
    Calls Try.prog 13 #[] w fun e w' => e = .returned (.bool r) ∧ Below w.heap.size w w' := by
  have hu36 := Try.underlying36
  have HB := Aside0.mk (Below.refl w.heap.size w)
  have H : ((some (([(⟨10, 1, 0, 0⟩ : S36), (⟨10, 2, 0, 0⟩ : S36)] : List (S36)) : List (S36))).bind fun y113 => ((glue_Set.f k y113 25).bind fun bt116 => ((glue_Badness.f k y113 25).bind fun bt121 => (if bt116.2.2 = 0 then (if bt121.2 = 0 then (if bt116.2.1 = 0 then (if (bt116.1.length : Int) = 2 then (if 0 < (bt116.1.length : Int) then (if (rd bt116.1 0) = 11 then (if 1 < (bt116.1.length : Int) then (if (rd bt116.1 1) = 14 then (if bt121.1 = 457 then ((glue_Valid.f k y113).bind fun t125 => (if t125 = true then ((glue_Natural.f k y113).bind fun t126 => (if t126 = 20 then ((glue_Stretch.f k y113 0).bind fun t127 => (some (t127 == 3))) else (none))) else (none))) else (none)) else (none)) else (none)) else (none)) else (none)) else (none)) else (none)) else (none)) else (none))))) = some r := h
  clear h
  obtain ⟨y113, hy113⟩ : ∃ y_ : List (S36), y_ = (([(⟨10, 1, 0, 0⟩ : S36), (⟨10, 2, 0, 0⟩ : S36)] : List (S36))) := ⟨_, rfl⟩
  replace H : ((glue_Set.f k y113 25).bind fun bt116 => ((glue_Badness.f k y113 25).bind fun bt121 => (if bt116.2.2 = 0 then (if bt121.2 = 0 then (if bt116.2.1 = 0 then (if (bt116.1.length : Int) = 2 then (if 0 < (bt116.1.length : Int) then (if (rd bt116.1 0) = 11 then (if 1 < (bt116.1.length : Int) then (if (rd bt116.1 1) = 14 then (if bt121.1 = 457 then ((glue_Valid.f k y113).bind fun t125 => (if t125 = true then ((glue_Natural.f k y113).bind fun t126 => (if t126 = 20 then ((glue_Stretch.f k y113 0).bind fun t127 => (some (t127 == 3))) else (none))) else (none))) else (none)) else (none)) else (none)) else (none)) else (none)) else (none)) else (none)) else (none)) else (none)))) = some r := by first | (rw [hy113]; with_reducible exact H) | (have H2_ := (Option.bind_some _ _).symm.trans H; rw [hy113]; with_reducible exact H2_) | (have H2_ := (Option.bind_some _ _).symm.trans H; with_reducible exact H2_) | with_reducible exact H | (rw [hy113]; exact H) | exact H
  have Ny113 := Aside0.mk hy113
  clear hy113
  replace H := Option.bind_eq_some_iff.mp H
  obtain ⟨⟨t116, t117, t118⟩, A10, H⟩ := H
  replace H : ((glue_Badness.f k y113 25).bind fun bt121 => (if t118 = 0 then (if bt121.2 = 0 then (if t117 = 0 then (if (t116.length : Int) = 2 then (if 0 < (t116.length : Int) then (if (rd t116 0) = 11 then (if 1 < (t116.length : Int) then (if (rd t116 1) = 14 then (if bt121.1 = 457 then ((glue_Valid.f k y113).bind fun t125 => (if t125 = true then ((glue_Natural.f k y113).bind fun t126 => (if t126 = 20 then ((glue_Stretch.f k y113 0).bind fun t127 => (some (t127 == 3))) else (none))) else (none))) else (none)) else (none)) else (none)) else (none)) else (none)) else (none)) else (none)) else (none)) else (none))) = some r := H
  have A1 := Aside0.mk A10
  clear A10
  replace H := Option.bind_eq_some_iff.mp H
  obtain ⟨⟨t121, t122⟩, A20, H⟩ := H
  replace H : (if t118 = 0 then (if t122 = 0 then (if t117 = 0 then (if (t116.length : Int) = 2 then (if 0 < (t116.length : Int) then (if (rd t116 0) = 11 then (if 1 < (t116.length : Int) then (if (rd t116 1) = 14 then (if t121 = 457 then ((glue_Valid.f k y113).bind fun t125 => (if t125 = true then ((glue_Natural.f k y113).bind fun t126 => (if t126 = 20 then ((glue_Stretch.f k y113 0).bind fun t127 => (some (t127 == 3))) else (none))) else (none))) else (none)) else (none)) else (none)) else (none)) else (none)) else (none)) else (none)) else (none)) else (none)) = some r := H
  have A2 := Aside0.mk A20
  clear A20
  by_cases c3 : t118 = 0
  · rw [if_pos c3] at H
    have c3b0 : (t118 == 0) = true := beq_iff_eq.mpr c3
    have c3b1 : (t118 != 0) = false := bne_eq_false_iff_eq.mpr c3
    clear c3
    by_cases c4 : t122 = 0
    · rw [if_pos c4] at H
      have c4b0 : (t122 == 0) = true := beq_iff_eq.mpr c4
      have c4b1 : (t122 != 0) = false := bne_eq_false_iff_eq.mpr c4
      clear c4
      by_cases c5 : t117 = 0
      · rw [if_pos c5] at H
        have c5b0 : (t117 == 0) = true := beq_iff_eq.mpr c5
        have c5b1 : (t117 != 0) = false := bne_eq_false_iff_eq.mpr c5
        clear c5
        by_cases c6 : (t116.length : Int) = 2
        · rw [if_pos c6] at H
          have c6b0 : ((t116.length : Int) == 2) = true := beq_iff_eq.mpr c6
          have c6b1 : ((t116.length : Int) != 2) = false := bne_eq_false_iff_eq.mpr c6
          clear c6
          by_cases c7 : 0 < (t116.length : Int)
          · rw [if_pos c7] at H
            have c7b0 : decide (0 < (t116.length : Int)) = true := decide_eq_true c7
            have c7b1 : decide (0 < t116.length) = true := decide_eq_true (by omega)
            clear c7
            by_cases c8 : (rd t116 0) = 11
            · rw [if_pos c8] at H
              have c8b0 : ((rd t116 0) == 11) = true := beq_iff_eq.mpr c8
              have c8b1 : ((rd t116 0) != 11) = false := bne_eq_false_iff_eq.mpr c8
              clear c8
              by_cases c9 : 1 < (t116.length : Int)
              · rw [if_pos c9] at H
                have c9b0 : decide (1 < (t116.length : Int)) = true := decide_eq_true c9
                have c9b1 : decide (1 < t116.length) = true := decide_eq_true (by omega)
                clear c9
                by_cases c10 : (rd t116 1) = 14
                · rw [if_pos c10] at H
                  have c10b0 : ((rd t116 1) == 14) = true := beq_iff_eq.mpr c10
                  have c10b1 : ((rd t116 1) != 14) = false := bne_eq_false_iff_eq.mpr c10
                  clear c10
                  by_cases c11 : t121 = 457
                  · rw [if_pos c11] at H
                    have c11b0 : (t121 == 457) = true := beq_iff_eq.mpr c11
                    have c11b1 : (t121 != 457) = false := bne_eq_false_iff_eq.mpr c11
                    clear c11
                    replace H := Option.bind_eq_some_iff.mp H
                    obtain ⟨t125, A120, H⟩ := H
                    replace H : (if t125 = true then ((glue_Natural.f k y113).bind fun t126 => (if t126 = 20 then ((glue_Stretch.f k y113 0).bind fun t127 => (some (t127 == 3))) else (none))) else (none)) = some r := H
                    have A12 := Aside0.mk A120
                    clear A120
                    by_cases c13 : t125 = true
                    · subst c13
                      have H1 : ((glue_Natural.f k y113).bind fun t126 => (if t126 = 20 then ((glue_Stretch.f k y113 0).bind fun t127 => (some (t127 == 3))) else (none))) = some r := by rw [if_pos rfl] at H; exact H
                      clear H
                      have H := H1
                      clear H1
                      replace H := Option.bind_eq_some_iff.mp H
                      obtain ⟨t126, A140, H⟩ := H
                      replace H : (if t126 = 20 then ((glue_Stretch.f k y113 0).bind fun t127 => (some (t127 == 3))) else (none)) = some r := H
                      have A14 := Aside0.mk A140
                      clear A140
                      by_cases c15 : t126 = 20
                      · rw [if_pos c15] at H
                        have c15b0 : (t126 == 20) = true := beq_iff_eq.mpr c15
                        have c15b1 : (t126 != 20) = false := bne_eq_false_iff_eq.mpr c15
                        clear c15
                        replace H := Option.bind_eq_some_iff.mp H
                        obtain ⟨t127, A160, H⟩ := H
                        replace H : (some (t127 == 3)) = some r := H
                        have A16 := Aside0.mk A160
                        clear A160
                        obtain rfl := Option.some.inj H
                        go_enter Try.func13, Try.ntmps13
                        go_wp2_with (first | ((with_reducible refine gate_dst (N := 9) rfl ?_); (try (refine gate_guard (by rfl) ?_; dsimp only)); refine Kd.R_lit k36 _ 36 ?hg (N := 9) ?hd (xs := ([(⟨10, 1, 0, 0⟩ : S36), (⟨10, 2, 0, 0⟩ : S36)] : List (S36))) (inner := [.int .i64 10, .int .i64 1, .int .i64 0, .int .i64 0, .int .i64 10, .int .i64 2, .int .i64 0, .int .i64 0]) (ok := fun _ => True) (okp := fun _ => True) ?hr ?hp (fun _ hk => hk) trivial (Below.refl _ _) (Nat.le_refl _) (by simp) ?_; (case hd => rfl); (case hg => rfl); (case hr => first | (go_simp; done) | (go_simp; rfl)); (case hp => exact (Reps.c4 (show Kd.M k36 _ _ _ (⟨10, 1, 0, 0⟩ : S36) [.int .i64 10, .int .i64 1, .int .i64 0, .int .i64 0] from (k36_mkM _ _ _ (⟨10, 1, 0, 0⟩ : S36) )) (Reps.c4 (show Kd.M k36 _ _ _ (⟨10, 2, 0, 0⟩ : S36) [.int .i64 10, .int .i64 2, .int .i64 0, .int .i64 0] from (k36_mkM _ _ _ (⟨10, 2, 0, 0⟩ : S36) )) (Reps.none _ _)))); intro v114 w17 ho18 hb hg_ hnew_; clear hg_ hnew_; (first | rw [← Ny113.out] at ho18 | (simp only [Int.reduceToNat] at ho18; rw [← Ny113.out] at ho18)); have n0_ := Aside0.mk (Kd.R_lower ho18 (below_size (by repeat (first | (with_reducible first | exact HB.out | apply below_alloc | apply pw_below_drewN | apply below_drew1) | exact HB.out)))); have n1_ := Aside0.mk (below_step (by repeat (first | (with_reducible first | exact HB.out | apply below_alloc | apply pw_below_drewN | apply below_drew1) | exact HB.out)) hb); clear HB; have HO115 := n0_; have HB := n1_; clear n0_ n1_; clear hb ho18; obtain ⟨Ao19, co19, eo19⟩ := Kd.R_slice HO115.out; subst eo19) | ((with_reducible refine gate_callee (f := 22) rfl ?_); refine goesL_ (some 12) rfl rfl Try.func22 (by kernel_rfl) rfl #[.slice Ao19 y113.length co19, .int .i64 25] rfl (by (try simp only [List.map_toArray, List.map_cons, List.map_nil]); first | done | rfl | (simp only [List.length_drop, List.length_take]; rfl)) ?_; (with_reducible refine (glue_Set.calls k _ _ y113 25 t116 t117 t118 _ ?side1 ?side2 A1.out).mono ?_); (case side1 => repeat (first | exact (Kd.R_reads' HO115.out).2.2 | (with_reducible refine Kd.C_alloc ?_ _) | (with_reducible refine Kd.C_drewN ?_ _) | (with_reducible refine Kd.C_drew ?_))); (case side2 => exact (Kd.R_reads' HO115.out).2.1); rintro e w20 ⟨v119, rfl, ho0, hb⟩; refine ⟨_, rfl, ?_⟩; have n0_ := Aside0.mk (Kd.R_below (by (with_reducible repeat (first | apply Kd.R_alloc | apply Kd.R_drewN | apply Kd.R_drew)); exact HO115.out) hb); have n1_ := Aside0.mk (Kd.R_lower ho0 (below_size (by repeat (first | (with_reducible first | exact HB.out | apply below_alloc | apply pw_below_drewN | apply below_drew1) | exact HB.out)))); have n2_ := Aside0.mk (below_step (by repeat (first | (with_reducible first | exact HB.out | apply below_alloc | apply pw_below_drewN | apply below_drew1) | exact HB.out)) hb); clear HO115; clear HB; have HO115 := n0_; have HO120 := n1_; have HB := n2_; clear n0_ n1_ n2_; (try clear hb); (try clear hb2); (try clear hk); (try clear hi); (try clear ho0)) | ((with_reducible refine gate_callee (f := 25) rfl ?_); refine goesL_ (some 18) rfl rfl Try.func25 (by kernel_rfl) rfl #[.slice Ao19 y113.length co19, .int .i64 25] rfl (by (try simp only [List.map_toArray, List.map_cons, List.map_nil]); first | done | rfl | (simp only [List.length_drop, List.length_take]; rfl)) ?_; (with_reducible refine (glue_Badness.calls k _ _ y113 25 t121 t122 _ ?side1 ?side2 A2.out).mono ?_); (case side1 => repeat (first | exact (Kd.R_reads' HO115.out).2.2 | (with_reducible refine Kd.C_alloc ?_ _) | (with_reducible refine Kd.C_drewN ?_ _) | (with_reducible refine Kd.C_drew ?_))); (case side2 => exact (Kd.R_reads' HO115.out).2.1); rintro e w21 ⟨rfl, hb⟩; refine ⟨_, rfl, ?_⟩; have n0_ := Aside0.mk (Kd.R_below (by (with_reducible repeat (first | apply Kd.R_alloc | apply Kd.R_drewN | apply Kd.R_drew)); exact HO115.out) hb); have n1_ := Aside0.mk (Kd.R_below (by (with_reducible repeat (first | apply Kd.R_alloc | apply Kd.R_drewN | apply Kd.R_drew)); exact HO120.out) hb); have n2_ := Aside0.mk (below_step (by repeat (first | (with_reducible first | exact HB.out | apply below_alloc | apply pw_below_drewN | apply below_drew1) | exact HB.out)) hb); clear HO115; clear HO120; clear HB; have HO115 := n0_; have HO120 := n1_; have HB := n2_; clear n0_ n1_ n2_; (try clear hb); (try clear hb2); (try clear hk); (try clear hi); obtain ⟨Ao22, co22, eo22⟩ := Kd.R_slice HO120.out; subst eo22; have p123 : 0 ≤ (0 : Int) := (by omega); have q123 : 0 < (t116.length : Int) := of_decide_eq_true (by first | (with_reducible assumption) | assumption); obtain ⟨ad123, e123, hx123_0⟩ := Kd.at_int (Kd.R_reads' HO120.out).2.2 0 p123 q123; cases e123; have qi123 : (0 < t116.length) = True := eq_true (by omega); (try rw [show ((0 : Int)).toNat = 0 from rfl] at hx123_0); (try rw [Addr.add_zero'] at hx123_0); replace p123 := eq_true p123; replace q123 := eq_true q123; have p124 : 0 ≤ (1 : Int) := (by omega); have q124 : 1 < (t116.length : Int) := of_decide_eq_true (by first | (with_reducible assumption) | assumption); obtain ⟨ad124, e124, hx124_0⟩ := Kd.at_int (Kd.R_reads' HO120.out).2.2 1 p124 q124; obtain rfl : ad123 = ad124 := (by injection e124); (try simp only [show (1 : Int).toNat = 1 from rfl, Nat.reduceMul, Nat.reduceEqDiff, Go.Addr.add, ↓reduceIte] at hx124_0); have qi124 : (1 < t116.length) = True := eq_true (by omega); (try rw [show ((1 : Int)).toNat = 1 from rfl] at hx124_0); replace p124 := eq_true p124; replace q124 := eq_true q124) | (go_at_call 14; (with_reducible refine (glue_Valid.calls k _ _ y113 true _ ?side1 ?side2 A12.out).mono ?_); (case side1 => repeat (first | exact (Kd.R_reads' HO115.out).2.2 | (with_reducible refine Kd.C_alloc ?_ _) | (with_reducible refine Kd.C_drewN ?_ _) | (with_reducible refine Kd.C_drew ?_))); (case side2 => exact (Kd.R_reads' HO115.out).2.1); rintro e w23 ⟨rfl, hb⟩; have n0_ := Aside0.mk (Kd.R_below (by (with_reducible repeat (first | apply Kd.R_alloc | apply Kd.R_drewN | apply Kd.R_drew)); exact HO115.out) hb); have n1_ := Aside0.mk (Kd.R_below (by (with_reducible repeat (first | apply Kd.R_alloc | apply Kd.R_drewN | apply Kd.R_drew)); exact HO120.out) hb); have n2_ := Aside0.mk (below_step (by repeat (first | (with_reducible first | exact HB.out | apply below_alloc | apply pw_below_drewN | apply below_drew1) | exact HB.out)) hb); clear HO115; clear HO120; clear HB; have HO115 := n0_; have HO120 := n1_; have HB := n2_; clear n0_ n1_ n2_; (try clear hb); (try clear hb2); (try clear hk); (try clear hi)) | (go_at_call 16; (with_reducible refine (glue_Natural.calls k _ _ y113 t126 _ ?side1 ?side2 A14.out).mono ?_); (case side1 => repeat (first | exact (Kd.R_reads' HO115.out).2.2 | (with_reducible refine Kd.C_alloc ?_ _) | (with_reducible refine Kd.C_drewN ?_ _) | (with_reducible refine Kd.C_drew ?_))); (case side2 => exact (Kd.R_reads' HO115.out).2.1); rintro e w24 ⟨rfl, hb⟩; have n0_ := Aside0.mk (Kd.R_below (by (with_reducible repeat (first | apply Kd.R_alloc | apply Kd.R_drewN | apply Kd.R_drew)); exact HO115.out) hb); have n1_ := Aside0.mk (Kd.R_below (by (with_reducible repeat (first | apply Kd.R_alloc | apply Kd.R_drewN | apply Kd.R_drew)); exact HO120.out) hb); have n2_ := Aside0.mk (below_step (by repeat (first | (with_reducible first | exact HB.out | apply below_alloc | apply pw_below_drewN | apply below_drew1) | exact HB.out)) hb); clear HO115; clear HO120; clear HB; have HO115 := n0_; have HO120 := n1_; have HB := n2_; clear n0_ n1_ n2_; (try clear hb); (try clear hb2); (try clear hk); (try clear hi)) | (go_at_call 18; (with_reducible refine (glue_Stretch.calls k _ _ y113 0 t127 _ ?side1 ?side2 A16.out).mono ?_); (case side1 => repeat (first | exact (Kd.R_reads' HO115.out).2.2 | (with_reducible refine Kd.C_alloc ?_ _) | (with_reducible refine Kd.C_drewN ?_ _) | (with_reducible refine Kd.C_drew ?_))); (case side2 => exact (Kd.R_reads' HO115.out).2.1); rintro e w25 ⟨rfl, hb⟩; have n0_ := Aside0.mk (Kd.R_below (by (with_reducible repeat (first | apply Kd.R_alloc | apply Kd.R_drewN | apply Kd.R_drew)); exact HO115.out) hb); have n1_ := Aside0.mk (Kd.R_below (by (with_reducible repeat (first | apply Kd.R_alloc | apply Kd.R_drewN | apply Kd.R_drew)); exact HO120.out) hb); have n2_ := Aside0.mk (below_step (by repeat (first | (with_reducible first | exact HB.out | apply below_alloc | apply pw_below_drewN | apply below_drew1) | exact HB.out)) hb); clear HO115; clear HO120; clear HB; have HO115 := n0_; have HO120 := n1_; have HB := n2_; clear n0_ n1_ n2_; (try clear hb); (try clear hb2); (try clear hk); (try clear hi)))
                        go_ret
                        exact ⟨by first | rfl | (simp [errW_none, errW_some] <;> rfl) | (simp [*, errW_none, errW_some] <;> rfl), by repeat (first | (with_reducible first | exact HB.out | apply below_alloc | apply pw_below_drewN | apply below_drew1) | exact HB.out)⟩
                      · rw [if_neg c15] at H
                        exact absurd H (by simp)
                    · replace c13 := Bool.eq_false_iff.mpr c13
                      subst c13
                      have H1 : (none) = some r := by rw [if_neg (show ¬ (false = true) by decide)] at H; exact H
                      clear H
                      have H := H1
                      clear H1
                      exact absurd H (by simp)
                  · rw [if_neg c11] at H
                    exact absurd H (by simp)
                · rw [if_neg c10] at H
                  exact absurd H (by simp)
              · rw [if_neg c9] at H
                exact absurd H (by simp)
            · rw [if_neg c8] at H
              exact absurd H (by simp)
          · rw [if_neg c7] at H
            exact absurd H (by simp)
        · rw [if_neg c6] at H
          exact absurd H (by simp)
      · rw [if_neg c5] at H
        exact absurd H (by simp)
    · rw [if_neg c4] at H
      exact absurd H (by simp)
  · rw [if_neg c3] at H
    exact absurd H (by simp)

end Go.Proofs.Ytojcnndkdopahaa.P
