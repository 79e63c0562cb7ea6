--m
/- Written by wip/tool/hprint.py (the kit's print.py with hand-proved contracts set in): contracts of the functions that the statements of this seat reach, without conditions beyond those named in each theorem. -/
import Derived.Test.YtoieknocpphjoaaDoorP0
import Derived.Test.YtoieknocpphjoaaDoorP47
namespace Go.Proofs.YtoieknocpphjoaaDoor.P
open Go.RowKit Go.Proofs.YtoieknocpphjoaaDoorW.PrintWords Go.Proofs.YtoieknocpphjoaaDoorW.PrintLast Go.Proofs.YtoieknocpphjoaaDoorW.PrintMore
attribute [local go_sem] zay zaz zaA zaB zaC zaD zaE zaF   -- for this text's walks alone
set_option linter.unusedVariables false
set_option linter.unusedSimpArgs false

/-! ### rational_reduce: function 53 -/
def rational_reduce.l0 : Nat → List Int → Int → Int → Option (Int × List Int)
 | 0, _, _, _ => none
 | k + 1, x0, x1, x2 => if x2 > 0 then (if 0 ≤ (wrap64 ((x0.length : Int) - 1)) then (if (wrap64 ((x0.length : Int) - 1)) < (x0.length : Int) then (if x1 = 0 then (none) else (if (Int.tmod (rd x0 (wrap64 ((x0.length : Int) - 1))) x1) = 0 then ((rational_divide.f k x0 x1).bind fun t470 => (rational_reduce.l0 k t470 x1 (wrap64 (x2 - 1)))) else (some (x2, x0)))) else (none)) else (none)) else (some (x2, x0))
def rational_reduce.f (k : Nat) (l0 : List Int) (a1 : Int) (a2 : Int) : Option (Int × List Int) := rational_reduce.l0 k l0 a1 a2
theorem rational_reduce.mono_l : ∀ k, (∀ y0 y1 y2, LeO (rational_reduce.l0 k y0 y1 y2) (rational_reduce.l0 (k + 1) y0 y1 y2))
 | 0 => fun _ _ _ r h => by simp [rational_reduce.l0] at h
 | k + 1 => by
  have ih0 := rational_reduce.mono_l k
  ·intro y0 y1 y2
   unfold rational_reduce.l0
   repeat' first
   | (with_reducible exact ih0 _ _ _)
   | (with_reducible exact rational_divide.mono _ _ _)
   | (with_reducible exact LeO.refl _)
   | (with_reducible exact LeO.none _)
   | (with_reducible refine LeO.ite ?_ ?_)
   | (with_reducible refine LeO.bind ?_ (fun _ => ?_))
   | exact ih0 _ _ _
   | exact rational_divide.mono _ _ _
   | exact LeO.none _
   | refine LeO.ite ?_ ?_
   | refine LeO.bind ?_ (fun _ => ?_)
theorem rational_reduce.mono : ∀ a0 a1 a2 k, LeO (rational_reduce.f k a0 a1 a2) (rational_reduce.f (k + 1) a0 a1 a2) := by
 intro a0 a1 a2 k
 have ih0 := rational_reduce.mono_l k
 unfold rational_reduce.f
 repeat' first
   | (with_reducible exact ih0 _ _ _)
   | (with_reducible exact rational_divide.mono _ _ _)
   | (with_reducible exact LeO.refl _)
   | (with_reducible exact LeO.none _)
   | (with_reducible refine LeO.ite ?_ ?_)
   | (with_reducible refine LeO.bind ?_ (fun _ => ?_))
   | exact ih0 _ _ _
   | exact rational_divide.mono _ _ _
   | exact LeO.none _
   | refine LeO.ite ?_ ?_
   | refine LeO.bind ?_ (fun _ => ?_)
set_option maxHeartbeats 8000000 in
set_option maxRecDepth 100000 in
theorem rational_reduce.calls (k : Nat) (P0_ : Nat → Prop) (u9000_ : Value) (l0 : List Int) (a1 : Int) (a2 : Int) (r1 : Int) (r2 : List Int) (w0 w : World) (hB : Below w0.heap.size w0 w) (ho0 : Kd.R (Kd.int .u8) 5 w w0.heap.size P0_ u9000_ l0) (h : rational_reduce.f k l0 a1 a2 = some (r1, r2)) :
  Calls Tryd.prog 53 #[u9000_, .int .u8 a1, .int .i64 a2] w fun e w' => e = .returned (.int .i64 r1) ∧ Kd.R (Kd.int .u8) 5 w' w0.heap.size (fun k_ => (P0_ k_ ∨ w.heap.size ≤ k_)) u9000_ r2 ∧ Below w0.heap.size w0 w' ∧ Kept w w' (fun k_ => P0_ k_) := by
 have HO0 := zaa.mk (show Kd.R (Kd.int .u8) 5 w w0.heap.size (fun k_ => (P0_ k_ ∨ w.heap.size ≤ k_)) u9000_ l0 from Kd.R_mono ho0 (fun k_ hk => (.inl hk)))
 have HK := zaa.mk (Kept.refl w (fun k_ => P0_ k_))
 have HW0 := zaa.mk hB.size
 have HB := zaa.mk hB
 clear hB
 have H : (rational_reduce.l0 k l0 a1 a2) = some (r1, r2) := h
 clear h
 have H' := zaa.mk H
 clear H
 go_enter Tryd.func53, Tryd.ntmps53
 go_wp2
 go_loopg [2] k (fun kq v2 w' => ∃ (x0_1 : List Int) (x2_1 : Int), v2 = .int .i64 x2_1 ∧ zaa (rational_reduce.l0 kq x0_1 a1 x2_1 = some (r1, r2)) ∧ zaa (kq ≤ k) ∧ zaa (Kd.R (Kd.int .u8) 5 w' w0.heap.size (fun k_ => (P0_ k_ ∨ w.heap.size ≤ k_)) u9000_ x0_1) ∧ zaa (Kept w w' (fun k_ => P0_ k_)) ∧ zaa (Below w0.heap.size w0 w'))
 case atStart => exact ⟨(l0), (a2), (by first | rfl | (simp; done) | (simp [*]; done)), H', ⟨Nat.le_refl _⟩, ⟨by (with_reducible repeat (first | apply Kd.R_alloc | apply Kd.R_drewN | apply Kd.R_drew)); exact HO0.o⟩, ⟨by repeat (first | (with_reducible first | exact HK.out | apply Kept.alloc | apply Kept.drewN | apply Kept.drew) | exact HK.out)⟩, ⟨by repeat (first | (with_reducible first | exact HB.o | apply zaf | apply zah | apply zag) | exact HB.o)⟩⟩
 case round =>
  clear H'
  try clear p2
  obtain ⟨x0_1, x2_1, rfl, HA, HK1, HO_0, HK, HB⟩ := hrel
  cases gk with
  | zero => exact absurd HA.o (by simp [rational_reduce.l0])
  | succ k1 =>
   have H := HA.o
   clear HA
   simp only [rational_reduce.l0] at H
   by_cases c4 : x2_1 > 0
   ·rw [if_pos c4] at H
    have c4b0 : decide (0 < x2_1) = true := decide_eq_true c4
    clear c4
    obtain ⟨ji5, hji5⟩ : ∃ j_ : Int, (wrap64 ((x0_1.length : Int) - 1)) = j_ := ⟨_, rfl⟩
    replace H : (if 0 ≤ (ji5) then (if (ji5) < (x0_1.length : Int) then (if a1 = 0 then (none) else (if (Int.tmod (rd x0_1 (ji5)) a1) = 0 then ((rational_divide.f k1 x0_1 a1).bind fun t470 => (rational_reduce.l0 k1 t470 a1 (wrap64 (x2_1 - 1)))) else (some (x2_1, x0_1)))) else (none)) else (none)) = some (r1, r2) := by first | (rw [hji5] at H; exact H) | (simp only [hji5] at H ⊢; exact H)
    have hji5w : (IntKind.i64.wrap ((x0_1.length : Int) - 1)) = ji5 := (i64_w _).trans hji5
    by_cases c6 : 0 ≤ (ji5)
    ·rw [if_pos c6] at H
     have c6b0 : decide (0 ≤ (ji5)) = true := decide_eq_true c6
     clear c6
     by_cases c7 : (ji5) < (x0_1.length : Int)
     ·rw [if_pos c7] at H
      have c7b0 : decide ((ji5) < (x0_1.length : Int)) = true := decide_eq_true c7
      clear c7
      by_cases c8 : a1 = 0
      ·rw [if_pos c8] at H
       exact absurd H (by simp)
      ·rw [if_neg c8] at H
       have c8b0 : (a1 == 0) = false := beq_eq_false_iff_ne.mpr c8
       have c8b1 : (a1 != 0) = true := bne_iff_ne.mpr c8
       by_cases c9 : (Int.tmod (rd x0_1 (ji5)) a1) = 0
       ·rw [if_pos c9] at H
        have c9b0 : ((Int.tmod (rd x0_1 (ji5)) a1) == 0) = true := beq_iff_eq.mpr c9
        have c9b1 : ((Int.tmod (rd x0_1 (ji5)) a1) != 0) = false := bne_eq_false_iff_eq.mpr c9
        clear c9
        replace H := Option.bind_eq_some_iff.mp H
        obtain ⟨t470, A100, H⟩ := H
        replace H : (rational_reduce.l0 k1 t470 a1 (wrap64 (x2_1 - 1))) = some (r1, r2) := H
        have A10 := zaa.mk A100
        clear A100
        have H' := zaa.mk H
        clear H
        obtain ⟨Ao11, co11, eo11⟩ := Kd.R_slice HO_0.o
        subst eo11
        have p469 : 0 ≤ ((ji5) : Int) := of_decide_eq_true (by first | (with_reducible assumption) | assumption)
        have q469 : (ji5) < (x0_1.length : Int) := of_decide_eq_true (by first | (with_reducible assumption) | assumption)
        obtain ⟨ad469, e469, hx469_0⟩ := Kd.at_int (Kd.R_reads' HO_0.o).2.2 (ji5) p469 q469
        cases e469
        replace p469 := eq_true p469
        replace q469 := eq_true q469
        go_wp2_with (first | ((with_reducible refine zas (f := 63) rfl ?_); refine zat (some 22) rfl rfl Tryd.func63 (by kernel_rfl) rfl #[.slice (some ad469) x0_1.length co11, .int .u8 a1] rfl (by (try simp only [List.map_toArray, List.map_cons, List.map_nil]); first | done | rfl | (simp only [List.length_drop, List.length_take]; rfl)) ?_; (with_reducible refine (rational_divide.calls k1 (fun k_ => some k_ = (.slice (some ad469) x0_1.length co11 : Value).ownBlock) (.slice (some ad469) x0_1.length co11) x0_1 a1 t470 w0 _ ?side1 ?side2 A10.o).mono ?_); (case side1 => repeat (first | (with_reducible first | exact HB.o | apply zaf | apply zah | apply zag) | exact HB.o)); (case side2 => exact Kd.R_tight rfl HO_0.o); rintro e w12 ⟨rfl, hy0, hb, hkp⟩; refine ⟨_, rfl, ?_⟩; have n0_ := zaa.mk (Kd.R_reok rfl hy0 (fun k_ e_ => HO_0.o.1 k_ e_)); have n1_ := zaa.mk (Kept.then_ (S := (fun k_ => P0_ k_)) (by repeat (first | (with_reducible first | exact HK.out | apply Kept.alloc | apply Kept.drewN | apply Kept.drew) | exact HK.out)) hkp (fun k_ hs_ => (fun e_ => (HO_0.o.1 k_ e_.symm)) hs_)); have n2_ := zaa.mk (hb); clear HO_0; clear HK; clear HB; have HO_0 := n0_; have HK := n1_; have HB := n2_; clear n0_ n1_ n2_; (try clear hb); (try clear hkp); (try clear hy0)))
        go_roundg k1
        case measure => have := HK1.o; omega
        case rel => exact ⟨(t470), (wrap64 (x2_1 - 1)), (by first | rfl | (simp; done) | (simp [*]; done)), H', ⟨by have := HK1.o; omega⟩, ⟨by (with_reducible repeat (first | apply Kd.R_alloc | apply Kd.R_drewN | apply Kd.R_drew)); exact HO_0.o⟩, ⟨by repeat (first | (with_reducible first | exact HK.out | apply Kept.alloc | apply Kept.drewN | apply Kept.drew) | exact HK.out)⟩, ⟨by repeat (first | (with_reducible first | exact HB.o | apply zaf | apply zah | apply zag) | exact HB.o)⟩⟩
       ·rw [if_neg c9] at H
        have c9b0 : ((Int.tmod (rd x0_1 (ji5)) a1) == 0) = false := beq_eq_false_iff_ne.mpr c9
        have c9b1 : ((Int.tmod (rd x0_1 (ji5)) a1) != 0) = true := bne_iff_ne.mpr c9
        simp only [Option.some.injEq, Prod.mk.injEq] at H
        obtain ⟨rfl, rfl⟩ := H
        obtain ⟨Ao13, co13, eo13⟩ := Kd.R_slice HO_0.o
        subst eo13
        have p469 : 0 ≤ ((ji5) : Int) := of_decide_eq_true (by first | (with_reducible assumption) | assumption)
        have q469 : (ji5) < (x0_1.length : Int) := of_decide_eq_true (by first | (with_reducible assumption) | assumption)
        obtain ⟨ad469, e469, hx469_0⟩ := Kd.at_int (Kd.R_reads' HO_0.o).2.2 (ji5) p469 q469
        cases e469
        replace p469 := eq_true p469
        replace q469 := eq_true q469
        go_wp2
        go_ret
        exact ⟨by first | rfl | (simp [errW_none, errW_some] <;> rfl) | (simp only [← hji5]; first | rfl | (simp [errW_none, errW_some] <;> rfl)) | (simp [*, errW_none, errW_some] <;> rfl), by (with_reducible repeat (first | apply Kd.R_alloc | apply Kd.R_drewN | apply Kd.R_drew)); exact HO_0.o, by repeat (first | (with_reducible first | exact HB.o | apply zaf | apply zah | apply zag) | exact HB.o), by repeat (first | (with_reducible first | exact HK.out | apply Kept.alloc | apply Kept.drewN | apply Kept.drew) | exact HK.out)⟩
     ·rw [if_neg c7] at H
      exact absurd H (by simp)
    ·rw [if_neg c6] at H
     exact absurd H (by simp)
   ·rw [if_neg c4] at H
    have c4b0 : decide (0 < x2_1) = false := decide_eq_false c4
    clear c4
    simp only [Option.some.injEq, Prod.mk.injEq] at H
    obtain ⟨rfl, rfl⟩ := H
    go_wp2
    go_ret
    exact ⟨by first | rfl | (simp [errW_none, errW_some] <;> rfl) | (simp [*, errW_none, errW_some] <;> rfl), by (with_reducible repeat (first | apply Kd.R_alloc | apply Kd.R_drewN | apply Kd.R_drew)); exact HO_0.o, by repeat (first | (with_reducible first | exact HB.o | apply zaf | apply zah | apply zag) | exact HB.o), by repeat (first | (with_reducible first | exact HK.out | apply Kept.alloc | apply Kept.drewN | apply Kept.drew) | exact HK.out)⟩

end Go.Proofs.YtoieknocpphjoaaDoor.P
