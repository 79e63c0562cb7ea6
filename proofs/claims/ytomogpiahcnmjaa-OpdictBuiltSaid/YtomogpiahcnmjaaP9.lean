/- Written by wip/tool/hprint.py (the kit's print.py with hand-proved contracts set in): contracts of the functions that the statements of this seat reach, without conditions beyond those named in each theorem. -/
import Derived.Test.YtomogpiahcnmjaaP0
import Derived.Lib.SliceRun
namespace Go.Proofs.Ytomogpiahcnmjaa.P
open Go.RowKit Go.Proofs.YtomogpiahcnmjaaW.PrintWords Go.Proofs.YtomogpiahcnmjaaW.PrintLast Go.Proofs.YtomogpiahcnmjaaW.PrintMore
attribute [local go_sem] max2_int min2_int max_two min_two max_three min_three max_four min_four   -- for this text's walks alone
set_option linter.unusedVariables false
set_option linter.unusedSimpArgs false

-- IMPORTS: Derived.Lib.SliceRun
/-! ### api_Entry_22: function 22 -/
def api_Entry_22.f (l0 : List (S27)) : Option ((List (S27))) := (some (([] : List (S27)) : List (S27))).bind fun y164 => (if y164.length + l0.length < 4398046511104 then (some (y164 ++ l0)) else (none))
set_option maxHeartbeats 8000000 in
set_option maxRecDepth 100000 in
theorem api_Entry_22.calls_some (A0 : Option Addr) (c0 : Nat) (l0 : List (S27)) (r : List (S27)) (w : World) (hr0 : Kd.C k27 w A0 l0.length l0) (hc0 : l0.length ≤ c0) (hA0 : A0.isNone = false) (h : api_Entry_22.f l0 = some r) :
    Calls Try.prog 22 #[.slice A0 l0.length c0] w fun e w' => ∃ v0_ : Value, e = .returned (v0_) ∧ Kd.R k27 27 w' w.heap.size (fun _ => True) v0_ r ∧ Below w.heap.size w w' := by
  have hnil_ := fun W => Lib.run_eql_slice_nil (P := Try.prog) W 22 27 A0 l0.length c0 0 0 Try.underlying22
  have HR0 := Aside0.mk hr0
  have HC0 := Aside0.mk hc0
  clear hr0 hc0
  have HB := Aside0.mk (Below.refl w.heap.size w)
  have H : ((some (([] : List (S27)) : List (S27))).bind fun y164 => (if y164.length + l0.length < 4398046511104 then (some (y164 ++ l0)) else (none))) = some r := h
  clear h
  obtain ⟨y164, hy164⟩ : ∃ y_ : List (S27), y_ = (([] : List (S27))) := ⟨_, rfl⟩
  replace H : (if y164.length + l0.length < 4398046511104 then (some (y164 ++ l0)) else (none)) = some r := by first | (rw [hy164]; with_reducible exact H) | (have H2_ := (Option.bind_some _ _).symm.trans H; rw [hy164]; with_reducible exact H2_) | (have H2_ := (Option.bind_some _ _).symm.trans H; with_reducible exact H2_) | with_reducible exact H | (rw [hy164]; exact H) | exact H
  have Ny164 := Aside0.mk hy164
  clear hy164
  by_cases c2 : y164.length + l0.length < 4398046511104
  · rw [if_pos c2] at H
    have LMc2 := Aside0.mk c2
    clear c2
    obtain ⟨y167, hy167⟩ : ∃ y_ : List (S27), y_ = (y164 ++ l0) := ⟨_, rfl⟩
    replace H : (some y167) = some r := by first | (rw [hy167]; with_reducible exact H) | (have H2_ := (Option.bind_some _ _).symm.trans H; rw [hy167]; with_reducible exact H2_) | (have H2_ := (Option.bind_some _ _).symm.trans H; with_reducible exact H2_) | with_reducible exact H | (rw [hy167]; exact H) | exact H
    have Ny167 := Aside0.mk hy167
    clear hy167
    obtain rfl := Option.some.inj H
    go_enter Try.func22, Try.ntmps22
    go_wp2_with (first | ((with_reducible refine gate_dst (N := 5) rfl ?_); refine Kd.R_lit k27 _ 27 ?hg (N := 5) ?hd (xs := ([] : List (S27))) (inner := []) (ok := fun _ => True) (okp := fun _ => True) ?hr ?hp (fun _ hk => hk) trivial (Below.refl _ _) (Nat.le_refl _) (by simp) ?_; (case hd => rfl); (case hg => rfl); (case hr => first | (go_simp; done) | (go_simp; rfl)); (case hp => exact (Reps.none _ _)); intro v165 w3 ho4 hb hg_ hnew_; clear hg_ hnew_; (first | rw [← Ny164.out] at ho4 | (simp only [Int.reduceToNat] at ho4; rw [← Ny164.out] at ho4)); have n0_ := Aside0.mk (Kd.R_lower ho4 (below_size (by repeat (first | (with_reducible first | exact HB.out | apply below_alloc | apply pw_below_drewN | apply below_drew1) | exact HB.out)))); have n1_ := Aside0.mk (below_step (by repeat (first | (with_reducible first | exact HB.out | apply below_alloc | apply pw_below_drewN | apply below_drew1) | exact HB.out)) hb); clear HB; have HO166 := n0_; have HB := n1_; clear n0_ n1_; clear hb ho4) | ((with_reducible refine gate_builtin (b := .append) (xs := #[.tmp 5, .tmp 6]) rfl ?_); at_builtin; refine Kd.R_append_rows k27 (w0 := w) w.heap.size rfl (.tmp 5) (.tmp 6) 22 27 (.agg #[(.string ⟨#[]⟩), (.int .i64 0), (.bool false), (.bool false)]) 32 rfl Try.underlying22 info27 rfl (by decide) (by omega) v165 y164 l0 _ _ _ (fun _ => True) (fun _ => False) rfl rfl ?aO ?aR (fun _ _ h => h) (fun _ h => h.elim) ?aF ?aB ?aS ?aL ?_; (case aR => repeat (first | exact (Kd.C_below HR0.out HB.out) | (with_reducible refine Kd.C_alloc ?_ _) | (with_reducible refine Kd.C_drewN ?_ _) | (with_reducible refine Kd.C_drew ?_))); (case aB => exact (by repeat (first | (with_reducible first | exact HB.out | apply below_alloc | apply pw_below_drewN | apply below_drew1) | exact HB.out))); (case aF => exact (fun _ _ => trivial)); (case aO => exact (by (with_reducible repeat (first | apply Kd.R_alloc | apply Kd.R_drewN | apply Kd.R_drew)); exact HO166.out)); (case aS => exact (below_size (by repeat (first | (with_reducible first | exact HB.out | apply below_alloc | apply pw_below_drewN | apply below_drew1) | exact HB.out)))); (case aL => have := LMc2.out; omega); intro v168 w5 ho hb hg hat; rw [← Ny167.out] at ho; have n0_ := Aside0.mk (hb); have n1_ := Aside0.mk (ho); clear HB; clear HO166; have HB := n0_; have HO169 := n1_; clear n0_ n1_; clear ho hb hg hat))
    go_ret
    exact ⟨_, by first | rfl | (simp [errW_none, errW_some] <;> rfl) | (simp [*, errW_none, errW_some] <;> rfl), by (with_reducible repeat (first | apply Kd.R_alloc | apply Kd.R_drewN | apply Kd.R_drew)); exact HO169.out, by repeat (first | (with_reducible first | exact HB.out | apply below_alloc | apply pw_below_drewN | apply below_drew1) | exact HB.out)⟩
  · rw [if_neg c2] at H
    exact absurd H (by simp)
set_option maxHeartbeats 8000000 in
set_option maxRecDepth 100000 in
theorem api_Entry_22.calls (A0 : Option Addr) (c0 : Nat) (l0 : List (S27)) (r : List (S27)) (w : World) (hr0 : Kd.C k27 w A0 l0.length l0) (hc0 : l0.length ≤ c0) (h : api_Entry_22.f l0 = some r) :
    Calls Try.prog 22 #[.slice A0 l0.length c0] w fun e w' => ∃ v0_ : Value, e = .returned (v0_) ∧ Kd.R k27 27 w' w.heap.size (fun _ => True) v0_ r ∧ Below w.heap.size w w' := by
  cases A0 with
  | some a_ => exact api_Entry_22.calls_some (some a_) c0 l0 r w hr0 hc0 rfl h
  | none =>
    have hn_ : l0 = [] := by
      rcases Nat.eq_zero_or_pos l0.length with h_ | h_
      · exact List.eq_nil_of_length_eq_zero h_
      · obtain ⟨_, e_, _⟩ := hr0.2.2 h_
        cases e_
    subst hn_
    obtain rfl : r = [] := by simpa [api_Entry_22.f, eq_comm] using h
    have hnil_ := fun W => Lib.run_eql_slice_nil (P := Try.prog) W 22 27 none 0 c0 0 0 Try.underlying22
    go_enter Try.func22, Try.ntmps22
    go_wp2
    go_ret
    exact ⟨_, rfl, by first | exact Kd.R_nil _ _ _ _ _ | exact Kd.N_nil _ _ _ _ _ | exact Kd.V_nil _ _ _ _ _ | exact Kd.S_nil _ _ _ _ _, Below.refl _ _⟩

end Go.Proofs.Ytomogpiahcnmjaa.P
