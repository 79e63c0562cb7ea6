/- What Equal of layer 28 and of its reference answer. No program in sight. -/
import Derived.Test.YtnnhhkjcjkinpaaPc
import Derived.Test.YtnnhhkjcjkinpaaPoA
import Derived.Test.YtnnhhkjcjkinpaaP0
import Derived.Test.YtnnhhkjcjkinpaaP1
import Derived.Test.YtnnhhkjcjkinpaaP10
import Derived.Test.YtnnhhkjcjkinpaaP11
import Derived.Test.YtnnhhkjcjkinpaaP15
import Derived.Test.YtnnhhkjcjkinpaaP3
import Derived.Test.YtnnhhkjcjkinpaaPRd
namespace Go.Proofs.Ytnnhhkjcjkinpaa.P
open Go.RowKit Go.Proofs.YtnnhhkjcjkinpaaW.PrintWords Go.Proofs.YtnnhhkjcjkinpaaW.PrintLast Go.Proofs.YtnnhhkjcjkinpaaW.PrintMore
set_option linter.unusedSimpArgs false
set_option linter.unusedVariables false
theorem sameInts_ev (l m : List Int) (hl : l.length ≤ 9223372036854775807) : Ev (fun k => vinculumref28_SameInts.f k l m) (decide (l = m)) := by
  unfold vinculumref28_SameInts.f
  by_cases h : l.length = m.length
  · refine Ev.pos (by omega) ?_
    have key := ev_up (fun k i (_ : Unit) => vinculumref28_SameInts.l0 k l m i) l.length (fun _ _ => decide (l = m)) (fun i _ => ∀ j, j < i → ∀ (h1 : j < l.length) (h2 : j < m.length), l[j] = m[j])
      (fun s hI k => by
        simp only [vinculumref28_SameInts.l0]
        rw [if_neg (by omega), decide_eq_true]
        exact List.ext_getElem h (fun j h1 h2 => hI j h1 h1 h2))
      (fun i s hi hI => by
        by_cases e : l[i] = m[i]
        · refine .inr ⟨(), fun j hj h1 h2 => ?_, fun k => ?_, rfl⟩
          · by_cases ej : j = i
            · subst ej; exact e
            · exact hI j (by omega) h1 h2
          · simp only [vinculumref28_SameInts.l0]
            rw [if_pos (by omega), if_pos (by omega), if_pos (by omega), rd_nat l i hi, rd_nat m i (by omega), if_pos e, wrap_succ (by omega)]
        · refine .inl fun k => ?_
          simp only [vinculumref28_SameInts.l0]
          rw [if_pos (by omega), if_pos (by omega), if_pos (by omega), rd_nat l i hi, rd_nat m i (by omega), if_neg e, decide_eq_false]
          exact fun he => e (by subst he; rfl))
    exact key 0 () (Nat.zero_le _) (fun j hj => by omega)
  · refine Ev.neg (by omega) (Ev.ret ?_)
    rw [decide_eq_false (fun e => h (by rw [e]))]
theorem eqK_nil (l m : List S28) (h : l.length ≠ m.length) : eqK l m = false := by
  unfold eqK
  rw [decide_eq_false h]
  rfl
theorem refEqual_ev : ∀ (x y : S28), wf28 x → Ev (fun k => vinculumref28_Equal.f k x.f0 x.f1 x.f2 x.f3 x.f4 x.f5 x.f6 x.f7 x.f8 x.f9 x.f10 y.f0 y.f1 y.f2 y.f3 y.f4 y.f5 y.f6 y.f7 y.f8 y.f9 y.f10) (eqB x y) := by
  refine fun x => tree_ind (P := fun x => ∀ y, wf28 x → Ev (fun k => vinculumref28_Equal.f k x.f0 x.f1 x.f2 x.f3 x.f4 x.f5 x.f6 x.f7 x.f8 x.f9 x.f10 y.f0 y.f1 y.f2 y.f3 y.f4 y.f5 y.f6 y.f7 y.f8 y.f9 y.f10) (eqB x y)) (fun x ih y hw => ?_) x
  have hl := wf_len hw
  have hE := eqB_eq x y
  have hno : eqB x y = false → Ev (fun k => vinculumref28_Equal.j0 k true x.f0 x.f1 x.f2 x.f3 x.f4 x.f5 x.f6 x.f7 x.f8 x.f9 x.f10 y.f0 y.f1 y.f2 y.f3 y.f4 y.f5 y.f6 y.f7 y.f8 y.f9 y.f10) (eqB x y) := fun h =>
    Ev.step (f := fun _ => some false) (fun k => by simp only [vinculumref28_Equal.j0]; rfl) (Ev.ret h.symm)
  have hkids : x.f8.length = y.f8.length → Ev (fun k => vinculumref28_Equal.l0 k 0 x.f0 x.f1 x.f2 x.f3 x.f4 x.f5 x.f6 x.f7 x.f8 x.f9 x.f10 y.f0 y.f1 y.f2 y.f3 y.f4 y.f5 y.f6 y.f7 y.f8 y.f9 y.f10) (eqK x.f8 y.f8) := by
    intro hlen
    have key := ev_upE (fun k i (_ : Unit) => vinculumref28_Equal.l0 k i x.f0 x.f1 x.f2 x.f3 x.f4 x.f5 x.f6 x.f7 x.f8 x.f9 x.f10 y.f0 y.f1 y.f2 y.f3 y.f4 y.f5 y.f6 y.f7 y.f8 y.f9 y.f10) x.f8.length (fun _ _ => eqK x.f8 y.f8) (fun i _ => ∀ j, ∀ (h1 : j < x.f8.length) (h2 : j < y.f8.length), j < i → eqB x.f8[j] y.f8[j] = true)
      (fun s hI => by
        simp only [vinculumref28_Equal.l0]
        exact Ev.neg (by omega) (Ev.ret (eqK_all hlen (fun j h1 h2 => hI j h1 h2 h1)).symm))
      (fun i s hi hI => by
        have hi2 : i < y.f8.length := by omega
        cases hp : eqB x.f8[i] y.f8[i] with
        | false =>
          refine .inl ?_
          simp only [vinculumref28_Equal.l0]
          rw [rdT28_nat _ i hi, rdT28_nat _ i hi2]
          exact Ev.pos (by omega) (Ev.pos (by omega) (Ev.pos (by omega) (Ev.bind (ih i hi y.f8[i] (wf_kid hw i hi)) (Ev.neg (by rw [hp]; simp) (Ev.ret (eqK_bad i hi hi2 hp).symm)))))
        | true =>
          refine .inr ⟨(), fun j h1 h2 hj => ?_, fun r hr => ?_, rfl⟩
          · by_cases e : j = i
            · subst e; exact hp
            · exact hI j h1 h2 (by omega)
          · simp only [vinculumref28_Equal.l0]
            rw [rdT28_nat _ i hi, rdT28_nat _ i hi2]
            refine Ev.pos (by omega) (Ev.pos (by omega) (Ev.pos (by omega) (Ev.bind (ih i hi y.f8[i] (wf_kid hw i hi)) (Ev.pos hp ?_))))
            rw [wrap_succ (by omega)]
            exact hr)
    exact key 0 () (Nat.zero_le _) (fun j h1 h2 hj => by omega)
  refine Ev.step (f := fun k => if x.f0 = y.f0 then (if x.f1.toList = y.f1.toList then (if x.f2 = y.f2 then (if x.f3 = y.f3 then (if x.f4 = y.f4 then (if x.f5 = y.f5 then (if x.f6 = y.f6 then (if x.f7 = y.f7 then (if x.f9 = y.f9 then ((vinculumref28_SameInts.f k x.f10 y.f10).bind fun t => (if t = true then (vinculumref28_Equal.j0 k ((x.f8.length : Int) != (y.f8.length : Int)) x.f0 x.f1 x.f2 x.f3 x.f4 x.f5 x.f6 x.f7 x.f8 x.f9 x.f10 y.f0 y.f1 y.f2 y.f3 y.f4 y.f5 y.f6 y.f7 y.f8 y.f9 y.f10) else (vinculumref28_Equal.j0 k true x.f0 x.f1 x.f2 x.f3 x.f4 x.f5 x.f6 x.f7 x.f8 x.f9 x.f10 y.f0 y.f1 y.f2 y.f3 y.f4 y.f5 y.f6 y.f7 y.f8 y.f9 y.f10))) else (vinculumref28_Equal.j0 k true x.f0 x.f1 x.f2 x.f3 x.f4 x.f5 x.f6 x.f7 x.f8 x.f9 x.f10 y.f0 y.f1 y.f2 y.f3 y.f4 y.f5 y.f6 y.f7 y.f8 y.f9 y.f10)) else (vinculumref28_Equal.j0 k true x.f0 x.f1 x.f2 x.f3 x.f4 x.f5 x.f6 x.f7 x.f8 x.f9 x.f10 y.f0 y.f1 y.f2 y.f3 y.f4 y.f5 y.f6 y.f7 y.f8 y.f9 y.f10)) else (vinculumref28_Equal.j0 k true x.f0 x.f1 x.f2 x.f3 x.f4 x.f5 x.f6 x.f7 x.f8 x.f9 x.f10 y.f0 y.f1 y.f2 y.f3 y.f4 y.f5 y.f6 y.f7 y.f8 y.f9 y.f10)) else (vinculumref28_Equal.j0 k true x.f0 x.f1 x.f2 x.f3 x.f4 x.f5 x.f6 x.f7 x.f8 x.f9 x.f10 y.f0 y.f1 y.f2 y.f3 y.f4 y.f5 y.f6 y.f7 y.f8 y.f9 y.f10)) else (vinculumref28_Equal.j0 k true x.f0 x.f1 x.f2 x.f3 x.f4 x.f5 x.f6 x.f7 x.f8 x.f9 x.f10 y.f0 y.f1 y.f2 y.f3 y.f4 y.f5 y.f6 y.f7 y.f8 y.f9 y.f10)) else (vinculumref28_Equal.j0 k true x.f0 x.f1 x.f2 x.f3 x.f4 x.f5 x.f6 x.f7 x.f8 x.f9 x.f10 y.f0 y.f1 y.f2 y.f3 y.f4 y.f5 y.f6 y.f7 y.f8 y.f9 y.f10)) else (vinculumref28_Equal.j0 k true x.f0 x.f1 x.f2 x.f3 x.f4 x.f5 x.f6 x.f7 x.f8 x.f9 x.f10 y.f0 y.f1 y.f2 y.f3 y.f4 y.f5 y.f6 y.f7 y.f8 y.f9 y.f10)) else (vinculumref28_Equal.j0 k true x.f0 x.f1 x.f2 x.f3 x.f4 x.f5 x.f6 x.f7 x.f8 x.f9 x.f10 y.f0 y.f1 y.f2 y.f3 y.f4 y.f5 y.f6 y.f7 y.f8 y.f9 y.f10)) else (vinculumref28_Equal.j0 k true x.f0 x.f1 x.f2 x.f3 x.f4 x.f5 x.f6 x.f7 x.f8 x.f9 x.f10 y.f0 y.f1 y.f2 y.f3 y.f4 y.f5 y.f6 y.f7 y.f8 y.f9 y.f10)) (fun k => by simp only [vinculumref28_Equal.f]) ?_
  have ne : ∀ (a b : Int), ¬ a = b → (a == b) = false := fun a b h => by simpa using h
  have eq : ∀ (a b : Int), a = b → (a == b) = true := fun a b h => by simpa using h
  refine Ev.ite (fun h0 => ?_) (fun h0 => hno (by rw [hE, ne _ _ h0]; rfl))
  rw [eq _ _ h0, Bool.true_and] at hE
  refine Ev.ite (fun h1 => ?_) (fun h1 => hno (by rw [hE, show (x.f1.toList == y.f1.toList) = false by simpa using h1]; rfl))
  rw [show (x.f1.toList == y.f1.toList) = true by simpa using h1, Bool.true_and] at hE
  refine Ev.ite (fun h2 => ?_) (fun h2 => hno (by rw [hE, ne _ _ h2]; rfl))
  rw [eq _ _ h2, Bool.true_and] at hE
  refine Ev.ite (fun h3 => ?_) (fun h3 => hno (by rw [hE, ne _ _ h3]; rfl))
  rw [eq _ _ h3, Bool.true_and] at hE
  refine Ev.ite (fun h4 => ?_) (fun h4 => hno (by rw [hE, ne _ _ h4]; rfl))
  rw [eq _ _ h4, Bool.true_and] at hE
  refine Ev.ite (fun h5 => ?_) (fun h5 => hno (by rw [hE, ne _ _ h5]; rfl))
  rw [eq _ _ h5, Bool.true_and] at hE
  refine Ev.ite (fun h6 => ?_) (fun h6 => hno (by rw [hE, ne _ _ h6]; rfl))
  rw [eq _ _ h6, Bool.true_and] at hE
  refine Ev.ite (fun h7 => ?_) (fun h7 => hno (by rw [hE, ne _ _ h7]; rfl))
  rw [eq _ _ h7, Bool.true_and] at hE
  refine Ev.ite (fun h9 => ?_) (fun h9 => hno (by rw [hE, ne _ _ h9]; rfl))
  rw [eq _ _ h9, Bool.true_and] at hE
  refine Ev.bind (sameInts_ev x.f10 y.f10 (wf_src hw)) ?_
  by_cases hs : x.f10 = y.f10
  · refine Ev.pos (decide_eq_true hs) ?_
    rw [decide_eq_true hs, Bool.true_and] at hE
    by_cases hlen : x.f8.length = y.f8.length
    · have hb : ((x.f8.length : Int) != (y.f8.length : Int)) = false := by simp [hlen]
      rw [hb]
      refine Ev.step (f := fun k => vinculumref28_Equal.l0 k 0 x.f0 x.f1 x.f2 x.f3 x.f4 x.f5 x.f6 x.f7 x.f8 x.f9 x.f10 y.f0 y.f1 y.f2 y.f3 y.f4 y.f5 y.f6 y.f7 y.f8 y.f9 y.f10) (fun k => by simp only [vinculumref28_Equal.j0]; rfl) ?_
      rw [hE]
      exact hkids hlen
    · have hb : ((x.f8.length : Int) != (y.f8.length : Int)) = true := by simp; omega
      rw [hb]
      exact hno (by rw [hE, eqK_nil _ _ hlen])
  · refine Ev.neg (by rw [decide_eq_false hs]; simp) (hno ?_)
    rw [hE, decide_eq_false hs]
    rfl
theorem eqB_refl : ∀ x : S28, eqB x x = true := by
  refine tree_ind fun x ih => ?_
  rw [eqB_eq]
  simp only [beq_self_eq_true, decide_true, Bool.true_and]
  exact eqK_all rfl (fun j h1 _ => ih j h1)
theorem eqB_of_eq {x y : S28} (h : x = y) : eqB x y = true := by subst h; exact eqB_refl x
end Go.Proofs.Ytnnhhkjcjkinpaa.P
