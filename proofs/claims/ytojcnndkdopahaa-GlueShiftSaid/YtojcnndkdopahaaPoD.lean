/- What Badness and the small functions of the laws of layer 27 answer. No program in sight. -/
import Derived.Test.YtojcnndkdopahaaPoC
import Derived.Test.YtojcnndkdopahaaP0
import Derived.Test.YtojcnndkdopahaaP15
import Derived.Test.YtojcnndkdopahaaP16
import Derived.Test.YtojcnndkdopahaaP19
import Derived.Test.YtojcnndkdopahaaP20
import Derived.Test.YtojcnndkdopahaaP29
import Derived.Test.YtojcnndkdopahaaP31
import Derived.Test.YtojcnndkdopahaaP33
namespace Go.Proofs.Ytojcnndkdopahaa.P
open Go.RowKit Go.Proofs.YtojcnndkdopahaaW.PrintWords Go.Proofs.YtojcnndkdopahaaW.PrintLast Go.Proofs.YtojcnndkdopahaaW.PrintMore
set_option linter.unusedSimpArgs false
theorem awake_ev : Ev (fun k => vinculumlaw27_awake.f k) true := Ev.of (fun k => vinculumlaw27_awake.mono k) (k := 30) (by kernel_rfl)
theorem same_ev (l : List Int) (hl : l.length ≤ 4398046511104) : Ev (fun k => vinculumlaw27_same.f k l l) true := by
  unfold vinculumlaw27_same.f
  refine Ev.pos rfl ?_
  have key := ev_up (fun k i (_ : Unit) => vinculumlaw27_same.l0 k l l i) l.length (fun _ _ => true) (fun _ _ => True)
    (fun s _ k => by simp only [vinculumlaw27_same.l0]; rw [if_neg (by omega)])
    (fun i s hi _ => .inr ⟨(), trivial, fun k => by
      simp only [vinculumlaw27_same.l0]
      rw [if_pos (by omega), if_pos (by omega), if_pos (by omega), if_pos trivial, wrap_succ (by omega)], rfl⟩)
  exact key 0 () (Nat.zero_le _) trivial
theorem right_ev (l : List S36) (w : Int) (hl : l.length ≤ 4398046511104) : Ev (fun k => vinculumlaw27_right.f k l w) (decide (errV l w = 0)) := by
  unfold vinculumlaw27_right.f
  refine Ev.bind (refValid_ev l hl) ?_
  unfold errV
  refine ⟨0, fun k _ => ?_⟩
  (repeat' split) <;> simp_all <;> omega
def tailB (e t : Int) : Int × Int := (glue_Badness.j0 1 e t).getD (0, 0)
theorem j0_tail (k : Nat) (e t : Int) : glue_Badness.j0 (k + 1) e t = some (tailB e t) := by
  unfold tailB
  simp only [glue_Badness.j0]
  (repeat' split) <;> rfl
theorem mn_comm (a b : Int) : mn a b = mn b a := by unfold mn; split <;> split <;> omega
theorem j1_tail (k : Nat) (e t : Int) (he : e ≠ 0) : vinculumref27_Badness.j1 (k + 1) e t = some (tailB e t) := by
  unfold tailB
  simp only [glue_Badness.j0, vinculumref27_Badness.j1]
  rw [if_neg he]
  (repeat' split) <;> first | rfl | (rw [mn_comm]; rfl)
def badV (l : List S36) (w : Int) : Int × Int := if errV l w = 0 then (if excV l w = 0 then (0, 0) else if 0 < excV l w ∧ 0 < ordV l then (0, 0) else tailB (excV l w) (if excV l w < 0 then shrV l else strV l 0)) else (0, errV l w)
theorem bad_ev (l : List S36) (w : Int) (hl : l.length ≤ 4398046511104) : Ev (fun k => glue_Badness.f k l w) (badV l w) := by
  unfold glue_Badness.f badV
  refine Ev.bind (check_ev l w hl) ?_
  by_cases h : errV l w = 0
  · rw [if_pos h]
    have hv := (errV_ok h).1
    have hb := excV_bound h
    have hw : wrap64 (w - natV l) = excV l w := by unfold excV at hb ⊢; exact wrap_id (by omega) (by omega)
    refine Ev.pos h (Ev.bind (a := natV l) (by have := natural_ev l hl; rwa [if_pos hv] at this) (Ev.bind (a := shrV l) (by have := shrink_ev l hl; rwa [if_pos hv] at this) ?_))
    rw [hw]
    by_cases hx : 0 < excV l w
    · refine Ev.pos hx (Ev.bind (order_ev l hv) ?_)
      rw [if_neg (by omega)]
      by_cases ho : 0 < ordV l
      · rw [if_pos ⟨hx, ho⟩]
        exact Ev.pos ho (Ev.now _)
      · rw [if_neg (by omega), if_neg (by omega)]
        refine Ev.neg ho (Ev.bind (a := strV l 0) (by have := stretch_ev l 0 hl; rwa [if_pos hv] at this) ?_)
        exact Ev.step (f := fun _ => some (tailB (excV l w) (strV l 0))) (fun k => j0_tail k _ _) (Ev.now _)
    · refine Ev.neg hx ?_
      refine Ev.step (f := fun _ => some (tailB (excV l w) (shrV l))) (fun k => j0_tail k _ _) (Ev.ret ?_)
      by_cases h0 : excV l w = 0
      · rw [if_pos h0, h0]; rfl
      · rw [if_neg h0, if_neg (by omega), if_pos (by omega)]
  · rw [if_neg h]
    exact Ev.neg h (Ev.now _)
theorem refBad_ev (l : List S36) (w : Int) (hl : l.length ≤ 4398046511104) : Ev (fun k => vinculumref27_Badness.f k l w) (badV l w) := by
  unfold vinculumref27_Badness.f badV
  refine Ev.bind (refCheck_ev l w hl) ?_
  by_cases h : errV l w = 0
  · rw [if_pos h]
    have hv := (errV_ok h).1
    have hb := excV_bound h
    have hw : wrap64 (w - natV l) = excV l w := by unfold excV at hb ⊢; exact wrap_id (by omega) (by omega)
    refine Ev.pos h (Ev.bind (a := natV l) (by have := refNatural_ev l hl; rwa [if_pos hv] at this) ?_)
    rw [hw]
    have hj : ∀ r, excV l w ≠ 0 → tailB (excV l w) (if excV l w < 0 then shrV l else strV l 0) = r → Ev (fun k => vinculumref27_Badness.j0 k l (excV l w) false) r := fun r h0 hr => by
      refine Ev.step (f := fun k => (vinculumref27_Stretch.f k l 0).bind fun t => if excV l w < 0 then (vinculumref27_Shrink.f k l).bind fun u => vinculumref27_Badness.j1 k (excV l w) u else vinculumref27_Badness.j1 k (excV l w) t) (fun k => by simp [vinculumref27_Badness.j0]) ?_
      refine Ev.bind (a := strV l 0) (by have := refStretch_ev l 0 hl; rwa [if_pos hv] at this) ?_
      by_cases hx : excV l w < 0
      · rw [if_pos hx] at hr
        refine Ev.pos hx (Ev.bind (a := shrV l) (by have := refShrink_ev l hl; rwa [if_pos hv] at this) ?_)
        exact Ev.step (f := fun _ => some (tailB (excV l w) (shrV l))) (fun k => j1_tail k _ _ h0) (Ev.ret hr)
      · rw [if_neg hx] at hr
        refine Ev.neg hx ?_
        exact Ev.step (f := fun _ => some (tailB (excV l w) (strV l 0))) (fun k => j1_tail k _ _ h0) (Ev.ret hr)
    have ht : ∀ r, (0, 0) = r → Ev (fun k => vinculumref27_Badness.j0 k l (excV l w) true) r := fun r hr => Ev.step (f := fun _ => some (0, 0)) (fun k => by simp [vinculumref27_Badness.j0]) (Ev.ret hr)
    by_cases h0 : excV l w = 0
    · rw [if_pos h0]
      exact Ev.pos h0 (ht _ rfl)
    · rw [if_neg h0]
      refine Ev.neg h0 ?_
      by_cases hx : 0 < excV l w
      · refine Ev.pos hx (Ev.bind (refOrder_ev l hv) ?_)
        by_cases ho : 0 < ordV l
        · rw [if_pos ⟨hx, ho⟩, decide_eq_true (show ordV l > 0 from ho)]
          exact ht _ rfl
        · rw [if_neg (by omega), decide_eq_false (show ¬ ordV l > 0 from ho)]
          exact hj _ h0 rfl
      · rw [if_neg (by omega)]
        exact Ev.neg hx (hj _ h0 rfl)
  · rw [if_neg h]
    exact Ev.neg h (Ev.now _)
theorem setW_len (l : List S36) (w : Int) : (setW l w).length = l.length := by
  unfold setW
  (repeat' split) <;> simp [updV_len]
end Go.Proofs.Ytojcnndkdopahaa.P
