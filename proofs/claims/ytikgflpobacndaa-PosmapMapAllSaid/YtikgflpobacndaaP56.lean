--m
/- Written by wip/tool/hprint.py (the kit's print.py with hand-proved contracts set in): contracts of the functions that the statements of this seat reach, without conditions beyond those named in each theorem. -/
import Derived.Test.YtikgflpobacndaaP0
import Derived.Test.YtikgflpobacndaaP14
import Derived.Test.YtikgflpobacndaaP15
import Derived.Test.YtikgflpobacndaaP19
import Derived.Test.YtikgflpobacndaaP51
import Derived.Test.YtikgflpobacndaaP55
namespace Go.Proofs.Ytikgflpobacndaa.P
open Go.RowKit Go.Proofs.YtikgflpobacndaaW.PrintWords Go.Proofs.YtikgflpobacndaaW.PrintLast Go.Proofs.YtikgflpobacndaaW.PrintMore
attribute [local go_sem] zaA zaB zaC zaD zaE zaF zaG zaH   -- for this text's walks alone
set_option linter.unusedVariables false
set_option linter.unusedSimpArgs false

/-! ### vinculumlaw13_PosmapMapAll: function 5 -/
def vinculumlaw13_PosmapMapAll.j0 : Nat → List (S27) → List Int → Bool → Bool → Option (Bool)
 | 0, _, _, _, _ => none
 | k + 1, x0, x1, x2, x15 => if x15 = true then ((vinculumlaw13_awake.f k).bind fun t710 => (some t710)) else ((posmap_MapAll.f k x0 x1 x2).bind fun t711 => ((vinculumref13_MapAll.f k x0 x1 x2).bind fun t714 => ((vinculumref10_Same.f k t711 t714).bind fun t717 => (some t717))))
def vinculumlaw13_PosmapMapAll.f (k : Nat) (l0 : List (S27)) (l1 : List Int) (a2 : Bool) : Option (Bool) := (vinculumlaw13_awake.f k).bind fun t708 => (if t708 = true then ((vinculumlaw13_few.f k 0 (⟨#[]⟩ : ByteArray) 0 ([] : List (S24)) l1 l0).bind fun t709 => (vinculumlaw13_PosmapMapAll.j0 k l0 l1 a2 (!t709))) else (vinculumlaw13_PosmapMapAll.j0 k l0 l1 a2 true))
theorem vinculumlaw13_PosmapMapAll.mono_l : ∀ k, (∀ y0 y1 y2 y3, LeO (vinculumlaw13_PosmapMapAll.j0 k y0 y1 y2 y3) (vinculumlaw13_PosmapMapAll.j0 (k + 1) y0 y1 y2 y3))
 | 0 => fun _ _ _ _ r h => by simp [vinculumlaw13_PosmapMapAll.j0] at h
 | k + 1 => by
  have ih0 := vinculumlaw13_PosmapMapAll.mono_l k
  ·intro y0 y1 y2 y3
   unfold vinculumlaw13_PosmapMapAll.j0
   repeat' first
   | (with_reducible exact ih0 _ _ _ _)
   | (with_reducible exact posmap_MapAll.mono _ _ _ _)
   | (with_reducible exact vinculumlaw13_awake.mono _)
   | (with_reducible exact vinculumlaw13_few.mono _ _ _ _ _ _ _)
   | (with_reducible exact vinculumref10_Same.mono _ _ _)
   | (with_reducible exact vinculumref13_MapAll.mono _ _ _ _)
   | (with_reducible exact LeO.refl _)
   | (with_reducible exact LeO.none _)
   | (with_reducible refine LeO.ite ?_ ?_)
   | (with_reducible refine LeO.bind ?_ (fun _ => ?_))
   | exact ih0 _ _ _ _
   | exact posmap_MapAll.mono _ _ _ _
   | exact vinculumlaw13_awake.mono _
   | exact vinculumlaw13_few.mono _ _ _ _ _ _ _
   | exact vinculumref10_Same.mono _ _ _
   | exact vinculumref13_MapAll.mono _ _ _ _
   | exact LeO.none _
   | refine LeO.ite ?_ ?_
   | refine LeO.bind ?_ (fun _ => ?_)
theorem vinculumlaw13_PosmapMapAll.mono : ∀ a0 a1 a2 k, LeO (vinculumlaw13_PosmapMapAll.f k a0 a1 a2) (vinculumlaw13_PosmapMapAll.f (k + 1) a0 a1 a2) := by
 intro a0 a1 a2 k
 have ih0 := vinculumlaw13_PosmapMapAll.mono_l k
 unfold vinculumlaw13_PosmapMapAll.f
 repeat' first
   | (with_reducible exact ih0 _ _ _ _)
   | (with_reducible exact posmap_MapAll.mono _ _ _ _)
   | (with_reducible exact vinculumlaw13_awake.mono _)
   | (with_reducible exact vinculumlaw13_few.mono _ _ _ _ _ _ _)
   | (with_reducible exact vinculumref10_Same.mono _ _ _)
   | (with_reducible exact vinculumref13_MapAll.mono _ _ _ _)
   | (with_reducible exact LeO.refl _)
   | (with_reducible exact LeO.none _)
   | (with_reducible refine LeO.ite ?_ ?_)
   | (with_reducible refine LeO.bind ?_ (fun _ => ?_))
   | exact ih0 _ _ _ _
   | exact posmap_MapAll.mono _ _ _ _
   | exact vinculumlaw13_awake.mono _
   | exact vinculumlaw13_few.mono _ _ _ _ _ _ _
   | exact vinculumref10_Same.mono _ _ _
   | exact vinculumref13_MapAll.mono _ _ _ _
   | exact LeO.none _
   | refine LeO.ite ?_ ?_
   | refine LeO.bind ?_ (fun _ => ?_)
set_option maxHeartbeats 8000000 in
set_option maxRecDepth 100000 in
theorem vinculumlaw13_PosmapMapAll.calls (k : Nat) (A0 : Option Addr) (c0 : Nat) (l0 : List (S27)) (A1 : Option Addr) (c1 : Nat) (l1 : List Int) (a2 : Bool) (r : Bool) (w : World) (hr0 : Kd.C k27 w A0 l0.length l0) (hc0 : l0.length ≤ c0) (hr1 : Kd.C (Kd.int .i64) w A1 l1.length l1) (hc1 : l1.length ≤ c1) (h : vinculumlaw13_PosmapMapAll.f k l0 l1 a2 = some r) :
  Calls Try.prog 5 #[.slice A0 l0.length c0, .slice A1 l1.length c1, .bool a2] w fun e w' => e = .returned (.bool r) ∧ Below w.heap.size w w' := by
 have hu24 := Try.underlying24
 have HR0 := zab.mk hr0
 have HC0 := zab.mk hc0
 clear hr0 hc0
 have HR1 := zab.mk hr1
 have HC1 := zab.mk hc1
 clear hr1 hc1
 have HB := zab.mk (Below.refl w.heap.size w)
 have H : ((vinculumlaw13_awake.f k).bind fun t708 => (if t708 = true then ((vinculumlaw13_few.f k 0 (⟨#[]⟩ : ByteArray) 0 ([] : List (S24)) l1 l0).bind fun t709 => (vinculumlaw13_PosmapMapAll.j0 k l0 l1 a2 (!t709))) else (vinculumlaw13_PosmapMapAll.j0 k l0 l1 a2 true))) = some r := h
 clear h
 have HC4 := zab.mk H
 clear H
 go_enter Try.func5, Try.ntmps5
 go_upto_region 1 with (fail)
 go_cut [15] (fun v15 wc => ∃ (kq : Nat) (x15_3 : Bool), v15 = .bool x15_3 ∧ zab (vinculumlaw13_PosmapMapAll.j0 kq l0 l1 a2 x15_3 = some r) ∧ zab (kq ≤ k) ∧ zab (Below w.heap.size w wc))
 case first =>
  have H := HC4.out
  clear HC4
  replace H := Option.bind_eq_some_iff.mp H
  obtain ⟨t708, A50, H⟩ := H
  replace H : (if t708 = true then ((vinculumlaw13_few.f k 0 (⟨#[]⟩ : ByteArray) 0 ([] : List (S24)) l1 l0).bind fun t709 => (vinculumlaw13_PosmapMapAll.j0 k l0 l1 a2 (!t709))) else (vinculumlaw13_PosmapMapAll.j0 k l0 l1 a2 true)) = some r := H
  have A5 := zab.mk A50
  clear A50
  by_cases c6 : t708 = true
  ·subst c6
   have H1 : ((vinculumlaw13_few.f k 0 (⟨#[]⟩ : ByteArray) 0 ([] : List (S24)) l1 l0).bind fun t709 => (vinculumlaw13_PosmapMapAll.j0 k l0 l1 a2 (!t709))) = some r := by rw [if_pos rfl] at H; exact H
   clear H
   have H := H1
   clear H1
   replace H := Option.bind_eq_some_iff.mp H
   obtain ⟨t709, A70, H⟩ := H
   replace H : (vinculumlaw13_PosmapMapAll.j0 k l0 l1 a2 (!t709)) = some r := H
   have A7 := zab.mk A70
   clear A70
   have H' := zab.mk H
   clear H
   go_wp2_with (first | ((with_reducible refine zav (f := 9) rfl ?_); refine zaw (some 7) rfl rfl Try.func9 (by kernel_rfl) rfl #[] rfl (by (try simp only [List.map_toArray, List.map_cons, List.map_nil]); first | done | rfl | (simp only [List.length_drop, List.length_take]; rfl)) ?_; (with_reducible refine (vinculumlaw13_awake.calls k  true _ A5.o).mono ?_); rintro e w8 ⟨rfl, hb⟩; refine ⟨_, rfl, ?_⟩; have n0_ := zab.mk (zal (by repeat (first | (with_reducible first | exact HB.o | apply zad | apply zaf | apply zae) | exact HB.o)) hb); clear HB; have HB := n0_; clear n0_; (try clear hb); (try clear hb2); (try clear hk); (try clear hi)) | (go_at_call 10; (refine (vinculumlaw13_few.calls k 0 (⟨#[]⟩ : ByteArray) 0 _ _ ([] : List (S24)) _ _ l1 _ _ l0 t709 _ ?side1 ?side2 ?side3 ?side4 ?side5 ?side6 A7.o).mono ?_); (case side1 => exact Kd.C_nil _ _); (case side2 => exact Nat.le_refl _); (case side3 => repeat (first | exact (Kd.C_below HR1.o HB.o) | (with_reducible first | refine Kd.C_alloc ?_ _ | refine Kd.C_drewN ?_ _ | refine Kd.C_drew ?_))); (case side4 => exact HC1.out); (case side5 => repeat (first | exact (Kd.C_below HR0.o HB.o) | (with_reducible first | refine Kd.C_alloc ?_ _ | refine Kd.C_drewN ?_ _ | refine Kd.C_drew ?_))); (case side6 => exact HC0.out); rintro e w9 ⟨rfl, hb⟩; have n0_ := zab.mk (zal (by repeat (first | (with_reducible first | exact HB.o | apply zad | apply zaf | apply zae) | exact HB.o)) hb); clear HB; have HB := n0_; clear n0_; (try clear hb); (try clear hb2); (try clear hk); (try clear hi)))
   go_meet
   case rel => exact ⟨_, (!t709), (by first | rfl | (simp; done) | (simp [*]; done)), H', ⟨by first | omega | exact Nat.le_refl _⟩, ⟨by repeat (first | (with_reducible first | exact HB.o | apply zad | apply zaf | apply zae) | exact HB.o)⟩⟩
  ·replace c6 := Bool.eq_false_iff.mpr c6
   subst c6
   have H1 : (vinculumlaw13_PosmapMapAll.j0 k l0 l1 a2 true) = some r := by rw [if_neg (show ¬ (false = true) by decide)] at H; exact H
   clear H
   have H := H1
   clear H1
   have H' := zab.mk H
   clear H
   go_wp2_with (first | ((with_reducible refine zav (f := 9) rfl ?_); refine zaw (some 7) rfl rfl Try.func9 (by kernel_rfl) rfl #[] rfl (by (try simp only [List.map_toArray, List.map_cons, List.map_nil]); first | done | rfl | (simp only [List.length_drop, List.length_take]; rfl)) ?_; (with_reducible refine (vinculumlaw13_awake.calls k  false _ A5.o).mono ?_); rintro e w10 ⟨rfl, hb⟩; refine ⟨_, rfl, ?_⟩; have n0_ := zab.mk (zal (by repeat (first | (with_reducible first | exact HB.o | apply zad | apply zaf | apply zae) | exact HB.o)) hb); clear HB; have HB := n0_; clear n0_; (try clear hb); (try clear hb2); (try clear hk); (try clear hi)))
   go_meet
   case rel => exact ⟨_, (true), (by first | rfl | (simp; done) | (simp [*]; done)), H', ⟨by first | omega | exact Nat.le_refl _⟩, ⟨by repeat (first | (with_reducible first | exact HB.o | apply zad | apply zaf | apply zae) | exact HB.o)⟩⟩
 case rest =>
  clear HC4
  try clear c1
  try clear p2
  try clear c5
  try clear c6
  try clear c9
  obtain ⟨kq, x15_3, rfl, HA, HJ3, HB⟩ := hcut
  cases kq with
  | zero => exact absurd HA.o (by simp [vinculumlaw13_PosmapMapAll.j0])
  | succ kj3 =>
   have H := HA.o
   clear HA
   simp only [vinculumlaw13_PosmapMapAll.j0] at H
   by_cases c11 : x15_3 = true
   ·subst c11
    have H1 : ((vinculumlaw13_awake.f kj3).bind fun t710 => (some t710)) = some r := by rw [if_pos rfl] at H; exact H
    clear H
    have H := H1
    clear H1
    replace H := Option.bind_eq_some_iff.mp H
    obtain ⟨t710, A120, H⟩ := H
    replace H : (some t710) = some r := H
    have A12 := zab.mk A120
    clear A120
    obtain rfl := Option.some.inj H
    go_wp2_with (first | ((with_reducible refine zav (f := 9) rfl ?_); refine zaw (some 16) rfl rfl Try.func9 (by kernel_rfl) rfl #[] rfl (by (try simp only [List.map_toArray, List.map_cons, List.map_nil]); first | done | rfl | (simp only [List.length_drop, List.length_take]; rfl)) ?_; (with_reducible refine (vinculumlaw13_awake.calls kj3  t710 _ A12.o).mono ?_); rintro e w13 ⟨rfl, hb⟩; refine ⟨_, rfl, ?_⟩; have n0_ := zab.mk (zal (by repeat (first | (with_reducible first | exact HB.o | apply zad | apply zaf | apply zae) | exact HB.o)) hb); clear HB; have HB := n0_; clear n0_; (try clear hb); (try clear hb2); (try clear hk); (try clear hi)))
    go_ret
    exact ⟨by first | rfl | (simp [errW_none, errW_some] <;> rfl) | (simp [*, errW_none, errW_some] <;> rfl), by repeat (first | (with_reducible first | exact HB.o | apply zad | apply zaf | apply zae) | exact HB.o)⟩
   ·replace c11 := Bool.eq_false_iff.mpr c11
    subst c11
    have H1 : ((posmap_MapAll.f kj3 l0 l1 a2).bind fun t711 => ((vinculumref13_MapAll.f kj3 l0 l1 a2).bind fun t714 => ((vinculumref10_Same.f kj3 t711 t714).bind fun t717 => (some t717)))) = some r := by rw [if_neg (show ¬ (false = true) by decide)] at H; exact H
    clear H
    have H := H1
    clear H1
    replace H := Option.bind_eq_some_iff.mp H
    obtain ⟨t711, A140, H⟩ := H
    replace H : ((vinculumref13_MapAll.f kj3 l0 l1 a2).bind fun t714 => ((vinculumref10_Same.f kj3 t711 t714).bind fun t717 => (some t717))) = some r := H
    have A14 := zab.mk A140
    clear A140
    replace H := Option.bind_eq_some_iff.mp H
    obtain ⟨t714, A150, H⟩ := H
    replace H : ((vinculumref10_Same.f kj3 t711 t714).bind fun t717 => (some t717)) = some r := H
    have A15 := zab.mk A150
    clear A150
    replace H := Option.bind_eq_some_iff.mp H
    obtain ⟨t717, A160, H⟩ := H
    replace H : (some t717) = some r := H
    have A16 := zab.mk A160
    clear A160
    obtain rfl := Option.some.inj H
    go_wp2_with (first | ((with_reducible refine zav (f := 20) rfl ?_); refine zaw (some 20) rfl rfl Try.func20 (by kernel_rfl) rfl #[.slice A0 l0.length c0, .slice A1 l1.length c1, .bool a2] rfl (by (try simp only [List.map_toArray, List.map_cons, List.map_nil]); first | done | rfl | (simp only [List.length_drop, List.length_take]; rfl)) ?_; (with_reducible refine (posmap_MapAll.calls kj3 _ _ l0 _ _ l1 a2 t711 _ ?side1 ?side2 ?side3 ?side4 A14.o).mono ?_); (case side1 => repeat (first | exact (Kd.C_below HR0.o HB.o) | (with_reducible first | refine Kd.C_alloc ?_ _ | refine Kd.C_drewN ?_ _ | refine Kd.C_drew ?_))); (case side2 => exact HC0.out); (case side3 => repeat (first | exact (Kd.C_below HR1.o HB.o) | (with_reducible first | refine Kd.C_alloc ?_ _ | refine Kd.C_drewN ?_ _ | refine Kd.C_drew ?_))); (case side4 => exact HC1.out); rintro e w17 ⟨v712, rfl, ho0, hb⟩; refine ⟨_, rfl, ?_⟩; have n0_ := zab.mk (Kd.R_lower ho0 (zak (by repeat (first | (with_reducible first | exact HB.o | apply zad | apply zaf | apply zae) | exact HB.o)))); have n1_ := zab.mk (zal (by repeat (first | (with_reducible first | exact HB.o | apply zad | apply zaf | apply zae) | exact HB.o)) hb); clear HB; have HO713 := n0_; have HB := n1_; clear n0_ n1_; (try clear hb); (try clear hb2); (try clear hk); (try clear hi); (try clear ho0)) | ((with_reducible refine zav (f := 21) rfl ?_); refine zaw (some 24) rfl rfl Try.func21 (by kernel_rfl) rfl #[.slice A0 l0.length c0, .slice A1 l1.length c1, .bool a2] rfl (by (try simp only [List.map_toArray, List.map_cons, List.map_nil]); first | done | rfl | (simp only [List.length_drop, List.length_take]; rfl)) ?_; (with_reducible refine (vinculumref13_MapAll.calls kj3 _ _ l0 _ _ l1 a2 t714 _ ?side1 ?side2 ?side3 ?side4 A15.o).mono ?_); (case side1 => repeat (first | exact (Kd.C_below HR0.o HB.o) | (with_reducible first | refine Kd.C_alloc ?_ _ | refine Kd.C_drewN ?_ _ | refine Kd.C_drew ?_))); (case side2 => exact HC0.out); (case side3 => repeat (first | exact (Kd.C_below HR1.o HB.o) | (with_reducible first | refine Kd.C_alloc ?_ _ | refine Kd.C_drewN ?_ _ | refine Kd.C_drew ?_))); (case side4 => exact HC1.out); rintro e w18 ⟨v715, rfl, ho0, hb⟩; refine ⟨_, rfl, ?_⟩; have n0_ := zab.mk (Kd.R_elder' (by (with_reducible repeat (first | apply Kd.R_alloc | apply Kd.R_drewN | apply Kd.R_drew)); exact HO713.o) (Kd.R_base ho0) hb); have n1_ := zab.mk (Kd.R_lower (Kd.R_new' ho0 (Kd.R_lt (by (with_reducible repeat (first | apply Kd.R_alloc | apply Kd.R_drewN | apply Kd.R_drew)); exact HO713.o))) (zak (by repeat (first | (with_reducible first | exact HB.o | apply zad | apply zaf | apply zae) | exact HB.o)))); have n2_ := zab.mk (zal (by repeat (first | (with_reducible first | exact HB.o | apply zad | apply zaf | apply zae) | exact HB.o)) hb); clear HO713; clear HB; have HO713 := n0_; have HO716 := n1_; have HB := n2_; clear n0_ n1_ n2_; (try clear hb); (try clear hb2); (try clear hk); (try clear hi); (try clear ho0); obtain ⟨Ao19, co19, eo19⟩ := Kd.R_slice HO713.o; subst eo19; obtain ⟨Ao20, co20, eo20⟩ := Kd.R_slice HO716.o; subst eo20) | ((with_reducible refine zav (f := 19) rfl ?_); refine zaw (some 25) rfl rfl Try.func19 (by kernel_rfl) rfl #[.slice Ao19 t711.length co19, .slice Ao20 t714.length co20] rfl (by (try simp only [List.map_toArray, List.map_cons, List.map_nil]); first | done | rfl | (simp only [List.length_drop, List.length_take]; rfl)) ?_; (with_reducible refine (vinculumref10_Same.calls kj3 _ _ t711 _ _ t714 t717 _ ?side1 ?side2 ?side3 ?side4 A16.o).mono ?_); (case side1 => repeat (first | exact (Kd.R_reads' HO713.o).2.2 | (with_reducible first | refine Kd.C_alloc ?_ _ | refine Kd.C_drewN ?_ _ | refine Kd.C_drew ?_))); (case side2 => exact (Kd.R_reads' HO713.o).2.1); (case side3 => repeat (first | exact (Kd.R_reads' HO716.o).2.2 | (with_reducible first | refine Kd.C_alloc ?_ _ | refine Kd.C_drewN ?_ _ | refine Kd.C_drew ?_))); (case side4 => exact (Kd.R_reads' HO716.o).2.1); rintro e w' ⟨rfl, ⟨nd, rfl⟩⟩; refine ⟨_, rfl, ?_⟩))
    go_ret
    exact ⟨by first | rfl | (simp [errW_none, errW_some] <;> rfl) | (simp [*, errW_none, errW_some] <;> rfl), by repeat (first | (with_reducible first | exact HB.o | apply zad | apply zaf | apply zae) | exact HB.o)⟩

end Go.Proofs.Ytikgflpobacndaa.P
