--m
/- Written by wip/tool/hprint.py (the kit's print.py with hand-proved contracts set in): contracts of the functions that the statements of this seat reach, without conditions beyond those named in each theorem. -/
import Derived.Test.YtikgflpobacndaaP0
import Derived.Lib.SliceRun
namespace Go.Proofs.Ytikgflpobacndaa.P
open Go.RowKit Go.Proofs.YtikgflpobacndaaW.PrintWords Go.Proofs.YtikgflpobacndaaW.PrintLast Go.Proofs.YtikgflpobacndaaW.PrintMore
attribute [local go_sem] zaz zaA zaB zaC zaD zaE zaF zaG   -- for this text's walks alone
set_option linter.unusedVariables false
set_option linter.unusedSimpArgs false

-- IMPORTS: Derived.Lib.SliceRun
/-! ### slices_Clone_int_int: function 38 -/
def slices_Clone_int_int.f (l0 : List Int) : Option (List Int) := (some (([] : List Int) : List Int)).bind fun y103 => (if y103.length + l0.length < 17592186044416 then (some (y103 ++ l0)) else (none))
set_option maxHeartbeats 8000000 in
set_option maxRecDepth 100000 in
theorem slices_Clone_int_int.calls_some (A0 : Option Addr) (c0 : Nat) (l0 : List Int) (r : List Int) (w : World) (hr0 : Kd.C (Kd.int .i64) w A0 l0.length l0) (hc0 : l0.length ≤ c0) (hA0 : A0.isNone = false) (h : slices_Clone_int_int.f l0 = some r) :
  Calls Try.prog 38 #[.slice A0 l0.length c0] w fun e w' => ∃ v0_ : Value, e = .returned (v0_) ∧ Kd.R (Kd.int .i64) 3 w' w.heap.size (fun _ => True) v0_ r ∧ Below w.heap.size w w' := by
 have hnil_ := fun W => Lib.run_eql_slice_nil (P := Try.prog) W 25 3 A0 l0.length c0 0 0 Try.underlying25
 have HR0 := zab.mk hr0
 have HC0 := zab.mk hc0
 clear hr0 hc0
 have HB := zab.mk (Below.refl w.heap.size w)
 have H : ((some (([] : List Int) : List Int)).bind fun y103 => (if y103.length + l0.length < 17592186044416 then (some (y103 ++ l0)) else (none))) = some r := h
 clear h
 obtain ⟨y103, hy103⟩ : ∃ y_ : List Int, y_ = (([] : List Int)) := ⟨_, rfl⟩
 replace H : (if y103.length + l0.length < 17592186044416 then (some (y103 ++ l0)) else (none)) = some r := by first | (rw [hy103]; with_reducible exact H) | (have H2_ := (Option.bind_some _ _).symm.trans H; rw [hy103]; with_reducible exact H2_) | (have H2_ := (Option.bind_some _ _).symm.trans H; with_reducible exact H2_) | with_reducible exact H | (rw [hy103]; exact H) | exact H
 have Ny103 := zab.mk hy103
 clear hy103
 by_cases c2 : y103.length + l0.length < 17592186044416
 ·rw [if_pos c2] at H
  have LMc2 := zab.mk c2
  clear c2
  obtain ⟨y106, hy106⟩ : ∃ y_ : List Int, y_ = (y103 ++ l0) := ⟨_, rfl⟩
  replace H : (some y106) = some r := by first | (rw [hy106]; with_reducible exact H) | (have H2_ := (Option.bind_some _ _).symm.trans H; rw [hy106]; with_reducible exact H2_) | (have H2_ := (Option.bind_some _ _).symm.trans H; with_reducible exact H2_) | with_reducible exact H | (rw [hy106]; exact H) | exact H
  have Ny106 := zab.mk hy106
  clear hy106
  obtain rfl := Option.some.inj H
  go_enter Try.func38, Try.ntmps38
  go_wp2_with (first | ((with_reducible refine zaq (N := 5) rfl ?_); refine Kd.R_lit (Kd.int .i64) _ 3 ?hg (N := 5) ?hd (xs := ([] : List Int)) (inner := []) (ok := fun _ => True) (okp := fun _ => True) ?hr ?hp (fun _ hk => hk) trivial (Below.refl _ _) (Nat.le_refl _) (by simp) ?_; (case hd => rfl); (case hg => rfl); (case hr => first | (go_simp; done) | (go_simp; rfl)); (case hp => exact (Reps.none _ _)); intro v104 w3 ho4 hb hg_ hnew_; clear hg_ hnew_; (first | rw [← Ny103.out] at ho4 | (simp only [Int.reduceToNat] at ho4; rw [← Ny103.out] at ho4)); have n0_ := zab.mk (Kd.R_lower ho4 (zak (by repeat (first | (with_reducible first | exact HB.o | apply zad | apply zaf | apply zae) | exact HB.o)))); have n1_ := zab.mk (zal (by repeat (first | (with_reducible first | exact HB.o | apply zad | apply zaf | apply zae) | exact HB.o)) hb); clear HB; have HO105 := n0_; have HB := n1_; clear n0_ n1_; clear hb ho4) | ((with_reducible refine zaM (b := .append) (xs := #[.tmp 5, .tmp 6]) rfl ?_); at_builtin; refine Kd.R_append_rows (Kd.int .i64) (w0 := w) w.heap.size rfl (.tmp 5) (.tmp 6) 25 3 (.int .i64 0) 8 rfl Try.underlying25 info3 rfl (by decide) (by omega) v104 y103 l0 _ _ _ (fun _ => True) (fun _ => False) rfl rfl ?aO ?aR (fun _ _ h => h) (fun _ h => h.elim) ?aF ?aB ?aS ?aL ?_; (case aR => repeat (first | exact (Kd.C_below HR0.o HB.o) | (with_reducible first | refine Kd.C_alloc ?_ _ | refine Kd.C_drewN ?_ _ | refine Kd.C_drew ?_))); (case aB => exact (by repeat (first | (with_reducible first | exact HB.o | apply zad | apply zaf | apply zae) | exact HB.o))); (case aF => exact (fun _ _ => trivial)); (case aO => exact (by (with_reducible repeat (first | apply Kd.R_alloc | apply Kd.R_drewN | apply Kd.R_drew)); exact HO105.o)); (case aS => exact (zak (by repeat (first | (with_reducible first | exact HB.o | apply zad | apply zaf | apply zae) | exact HB.o)))); (case aL => have := LMc2.out; omega); intro v107 w5 ho hb hg hat; rw [← Ny106.out] at ho; have n0_ := zab.mk (hb); have n1_ := zab.mk (ho); clear HB; clear HO105; have HB := n0_; have HO108 := n1_; clear n0_ n1_; clear ho hb hg hat))
  go_ret
  exact ⟨_, by first | rfl | (simp [errW_none, errW_some] <;> rfl) | (simp [*, errW_none, errW_some] <;> rfl), by (with_reducible repeat (first | apply Kd.R_alloc | apply Kd.R_drewN | apply Kd.R_drew)); exact HO108.o, by repeat (first | (with_reducible first | exact HB.o | apply zad | apply zaf | apply zae) | exact HB.o)⟩
 ·rw [if_neg c2] at H
  exact absurd H (by simp)
set_option maxHeartbeats 8000000 in
set_option maxRecDepth 100000 in
theorem slices_Clone_int_int.calls (A0 : Option Addr) (c0 : Nat) (l0 : List Int) (r : List Int) (w : World) (hr0 : Kd.C (Kd.int .i64) w A0 l0.length l0) (hc0 : l0.length ≤ c0) (h : slices_Clone_int_int.f l0 = some r) :
  Calls Try.prog 38 #[.slice A0 l0.length c0] w fun e w' => ∃ v0_ : Value, e = .returned (v0_) ∧ Kd.R (Kd.int .i64) 3 w' w.heap.size (fun _ => True) v0_ r ∧ Below w.heap.size w w' := by
 cases A0 with
 | some a_ => exact slices_Clone_int_int.calls_some (some a_) c0 l0 r w hr0 hc0 rfl h
 | none =>
  have hn_ : l0 = [] := by
   rcases Nat.eq_zero_or_pos l0.length with h_ | h_
   ·exact List.eq_nil_of_length_eq_zero h_
   ·obtain ⟨_, e_, _⟩ := hr0.2.2 h_
    cases e_
  subst hn_
  obtain rfl : r = [] := by simpa [slices_Clone_int_int.f, eq_comm] using h
  have hnil_ := fun W => Lib.run_eql_slice_nil (P := Try.prog) W 25 3 none 0 c0 0 0 Try.underlying25
  go_enter Try.func38, Try.ntmps38
  go_wp2
  go_ret
  exact ⟨_, rfl, by first | exact Kd.R_nil _ _ _ _ _ | exact Kd.N_nil _ _ _ _ _ | exact Kd.V_nil _ _ _ _ _ | exact Kd.S_nil _ _ _ _ _, Below.refl _ _⟩

end Go.Proofs.Ytikgflpobacndaa.P
