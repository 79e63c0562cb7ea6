/- What the functions of layer 27 and of its reference answer: sums, orders, shares. No program in sight. -/
import Derived.Test.YtojcnndkdopahaaPoA
import Derived.Test.YtojcnndkdopahaaP0
import Derived.Test.YtojcnndkdopahaaP11
import Derived.Test.YtojcnndkdopahaaP13
import Derived.Test.YtojcnndkdopahaaP17
import Derived.Test.YtojcnndkdopahaaP18
import Derived.Test.YtojcnndkdopahaaP19
import Derived.Test.YtojcnndkdopahaaP20
import Derived.Test.YtojcnndkdopahaaP26
import Derived.Test.YtojcnndkdopahaaP6
import Derived.Test.YtojcnndkdopahaaP7
import Derived.Test.YtojcnndkdopahaaP9
namespace Go.Proofs.Ytojcnndkdopahaa.P
open Go.RowKit Go.Proofs.YtojcnndkdopahaaW.PrintWords Go.Proofs.YtojcnndkdopahaaW.PrintLast Go.Proofs.YtojcnndkdopahaaW.PrintMore
set_option linter.unusedSimpArgs false
theorem all_snoc {l : List S36} {k : Nat} (h : k < l.length) (h1 : ∀ j, j < k → ∀ hj : j < l.length, vB l[j] = true) (h2 : vB l[k] = true) : ∀ j, j < k + 1 → ∀ hj : j < l.length, vB l[j] = true := by
  intro j hj hl
  by_cases e : j = k
  · subst e; exact h2
  · exact h1 j (by omega) hl
theorem validB_end {l : List S36} (h : ∀ j, j < l.length → ∀ hj : j < l.length, vB l[j] = true) : validB l = decide ((l.length : Int) ≤ 200) := by
  have : l.all vB = true := by
    rw [List.all_eq_true]
    intro x hx
    obtain ⟨j, hj, rfl⟩ := List.getElem_of_mem hx
    exact h j hj hj
  unfold validB
  rw [this, Bool.true_and]
  by_cases hl : l.length ≤ 200
  · rw [decide_eq_true hl, decide_eq_true (by omega)]
  · rw [decide_eq_false hl, decide_eq_false (by omega)]
theorem valid_ev (l : List S36) (hl : l.length ≤ 4398046511104) : Ev (fun k => glue_Valid.f k l) (validB l) := by
  have key := ev_up (fun k i (_ : Unit) => glue_Valid.l0 k l l (l.length : Int) i) l.length (fun _ _ => validB l) (fun i _ => ∀ j, j < i → ∀ hj : j < l.length, vB l[j] = true)
    (fun s hI k => by simp only [glue_Valid.l0]; rw [if_neg (by omega), validB_end hI])
    (fun i s hi hI => by
      cases hv : vB l[i] with
      | false =>
        refine .inl fun k => ?_
        simp only [glue_Valid.l0]
        rw [if_pos (by omega), if_pos (by omega), if_pos (by omega), rdT36_nat l i hi, validB_bad i hi hv]
        repeat' split
        all_goals first | rfl | exact (vB_not hv (by omega)).elim
      | true =>
        refine .inr ⟨(), all_snoc hi hI hv, fun k => ?_, rfl⟩
        have := vB_spec hv
        simp only [glue_Valid.l0]
        rw [if_pos (by omega), if_pos (by omega), if_pos (by omega), rdT36_nat l i hi, wrap_succ (by omega)]
        rw [if_neg (by omega), if_neg (by omega), if_neg (by omega), if_neg (by omega), if_neg (by omega), if_neg (by omega), if_neg (by omega), if_neg (by omega)])
  exact key 0 () (Nat.zero_le _) (fun j hj => by omega)
theorem refValid_ev (l : List S36) (hl : l.length ≤ 4398046511104) : Ev (fun k => vinculumref27_Valid.f k l) (validB l) := by
  have key := ev_up (fun k i (_ : Unit) => vinculumref27_Valid.l0 k l i) l.length (fun _ _ => validB l) (fun i _ => ∀ j, j < i → ∀ hj : j < l.length, vB l[j] = true)
    (fun s hI k => by simp only [vinculumref27_Valid.l0]; rw [if_neg (by omega), validB_end hI])
    (fun i s hi hI => by
      cases hv : vB l[i] with
      | false =>
        refine .inl fun k => ?_
        simp only [vinculumref27_Valid.l0]
        rw [if_pos (by omega), if_pos (by omega), rdT36_nat l i hi, validB_bad i hi hv]
        repeat' split
        all_goals first | rfl | exact (vB_not hv (by omega)).elim
      | true =>
        refine .inr ⟨(), all_snoc hi hI hv, fun k => ?_, rfl⟩
        have := vB_spec hv
        simp only [vinculumref27_Valid.l0]
        rw [if_pos (by omega), if_pos (by omega), rdT36_nat l i hi, wrap_succ (by omega)]
        rw [if_neg (by omega), if_neg (by omega), if_neg (by omega), if_neg (by omega), if_neg (by omega), if_neg (by omega), if_neg (by omega), if_neg (by omega)])
  exact key 0 () (Nat.zero_le _) (fun j hj => by omega)
/-! ### the sums -/
theorem preW_wrap {l : List S36} (h : validB l = true) {i : Nat} (hi : i < l.length) : wrap64 (preW l i + l[i].f0) = preW l (i + 1) := by
  have h1 := preW_bound h i
  have h2 := at0_w h i
  have h3 := validB_len h
  rw [at0_lt hi] at h2
  unfold preW at h1 ⊢
  simp only [preS]
  rw [at0_lt hi]
  exact wrap_id (by omega) (by omega)
theorem preS_wrap {q : S36 → Int} {l : List S36} (hs : Small q l) (hl : l.length ≤ 200) {i : Nat} (hi : i < l.length) : wrap64 (preS q l i + q l[i]) = preS q l (i + 1) := by
  have h1 := preS_bound hs i
  have h2 := at0_small hs i
  rw [at0_lt hi] at h2
  simp only [preS]
  rw [at0_lt hi]
  exact wrap_id (by omega) (by omega)
theorem natural_ev (l : List S36) (hl : l.length ≤ 4398046511104) : Ev (fun k => glue_Natural.f k l) (if validB l = true then natV l else 0) := by
  unfold glue_Natural.f
  refine Ev.bind (valid_ev l hl) ?_
  by_cases h : validB l = true
  · rw [if_pos h]
    refine Ev.pos h ?_
    have key := ev_up (fun k i s => glue_Natural.l0 k s l (l.length : Int) i) l.length (fun _ _ => natV l) (fun i s => s = preW l i)
      (fun s hI k => by simp only [glue_Natural.l0]; rw [if_neg (by omega), hI]; rfl)
      (fun i s hi hI => .inr ⟨preW l (i + 1), rfl, fun k => by
        simp only [glue_Natural.l0]
        rw [if_pos (by omega), if_pos (by omega), if_pos (by omega), rdT36_nat l i hi, wrap_succ (by omega), hI, preW_wrap h hi], rfl⟩)
    exact key 0 0 (Nat.zero_le _) rfl
  · rw [if_neg h]
    exact Ev.neg h (Ev.now _)
theorem refNatural_ev (l : List S36) (hl : l.length ≤ 4398046511104) : Ev (fun k => vinculumref27_Natural.f k l) (if validB l = true then natV l else 0) := by
  unfold vinculumref27_Natural.f
  by_cases h : validB l = true
  · rw [if_pos h]
    have key := ev_upE (fun k i s => vinculumref27_Natural.l0 k l s i) l.length (fun _ _ => natV l) (fun i s => s = preW l i)
      (fun s hI => by
        simp only [vinculumref27_Natural.l0]
        refine Ev.bind (refValid_ev l hl) (Ev.pos h (Ev.neg (by omega) (Ev.ret ?_)))
        rw [hI]; rfl)
      (fun i s hi hI => .inr ⟨preW l (i + 1), rfl, fun r hr => by
        simp only [vinculumref27_Natural.l0]
        refine Ev.bind (refValid_ev l hl) (Ev.pos h (Ev.pos (by omega) (Ev.pos (by omega) ?_)))
        rw [rdT36_nat l i hi, wrap_succ (by omega), hI, preW_wrap h hi]
        exact hr, rfl⟩)
    exact key 0 0 (Nat.zero_le _) rfl
  · rw [if_neg h]
    refine Ev.step (f := fun k => (vinculumref27_Valid.f k l).bind fun t => if t = true then (if (0 : Int) < (l.length : Int) then (if (0 : Int) ≤ 0 then (vinculumref27_Natural.l0 k l (wrap64 (0 + (rd_T36 l 0).f0)) (wrap64 (0 + 1))) else none) else some 0) else some 0) (fun k => by simp only [vinculumref27_Natural.l0]) ?_
    exact Ev.bind (refValid_ev l hl) (Ev.neg h (Ev.now _))
theorem refShrink_ev (l : List S36) (hl : l.length ≤ 4398046511104) : Ev (fun k => vinculumref27_Shrink.f k l) (if validB l = true then shrV l else 0) := by
  unfold vinculumref27_Shrink.f
  by_cases h : validB l = true
  · rw [if_pos h]
    have key := ev_upE (fun k i s => vinculumref27_Shrink.l0 k l s i) l.length (fun _ _ => shrV l) (fun i s => s = preS (·.f2) l i)
      (fun s hI => by
        simp only [vinculumref27_Shrink.l0]
        refine Ev.bind (refValid_ev l hl) (Ev.pos h (Ev.neg (by omega) (Ev.ret ?_)))
        rw [hI]; rfl)
      (fun i s hi hI => .inr ⟨preS (·.f2) l (i + 1), rfl, fun r hr => by
        simp only [vinculumref27_Shrink.l0]
        refine Ev.bind (refValid_ev l hl) (Ev.pos h (Ev.pos (by omega) (Ev.pos (by omega) ?_)))
        rw [rdT36_nat l i hi, wrap_succ (by omega), hI, preS_wrap (small_shr h) (validB_len h) hi]
        exact hr, rfl⟩)
    exact key 0 0 (Nat.zero_le _) rfl
  · rw [if_neg h]
    refine Ev.step (f := fun k => (vinculumref27_Valid.f k l).bind fun t => if t = true then (if (0 : Int) < (l.length : Int) then (if (0 : Int) ≤ 0 then (vinculumref27_Shrink.l0 k l (wrap64 (0 + (rd_T36 l 0).f2)) (wrap64 (0 + 1))) else none) else some 0) else some 0) (fun k => by simp only [vinculumref27_Shrink.l0]) ?_
    exact Ev.bind (refValid_ev l hl) (Ev.neg h (Ev.now _))
theorem refStretch_ev (l : List S36) (o : Int) (hl : l.length ≤ 4398046511104) : Ev (fun k => vinculumref27_Stretch.f k l o) (if validB l = true then strV l o else 0) := by
  unfold vinculumref27_Stretch.f
  by_cases h : validB l = true
  · rw [if_pos h]
    have key := ev_upE (fun k i s => vinculumref27_Stretch.l0 k l o s i) l.length (fun _ _ => strV l o) (fun i s => s = preS (qStr o) l i)
      (fun s hI => by
        simp only [vinculumref27_Stretch.l0]
        refine Ev.bind (refValid_ev l hl) (Ev.pos h ?_)
        rw [decide_eq_false (by omega)]
        exact Ev.step (f := fun _ => some s) (fun k => by simp [vinculumref27_Stretch.j1]) (Ev.ret (by rw [hI]; rfl)))
      (fun i s hi hI => .inr ⟨preS (qStr o) l (i + 1), rfl, fun r hr => by
        simp only [vinculumref27_Stretch.l0]
        refine Ev.bind (refValid_ev l hl) (Ev.pos h ?_)
        rw [decide_eq_true (by omega)]
        refine Ev.step (f := fun k => vinculumref27_Stretch.l0 k l o (preS (qStr o) l (i + 1)) ((i + 1 : Nat) : Int)) (fun k => ?_) hr
        have hw := preS_wrap (small_str h o) (validB_len h) hi
        simp only [vinculumref27_Stretch.j1, if_true]
        rw [if_pos (by omega), if_pos (by omega), rdT36_nat l i hi, wrap_succ (by omega), hI]
        unfold qStr at hw ⊢
        by_cases ho : l[i].f3 = o
        · rw [if_pos ho] at hw ⊢; rw [hw]
        · rw [if_neg ho] at hw ⊢
          have hb := preS_bound (small_str h o) i
          have hb2 := validB_len h
          unfold qStr at hb
          rw [← hw, Int.add_zero, wrap_id (by omega) (by omega)], rfl⟩)
    exact key 0 0 (Nat.zero_le _) rfl
  · rw [if_neg h]
    refine Ev.step (f := fun k => (vinculumref27_Valid.f k l).bind fun t => if t = true then vinculumref27_Stretch.j1 k l o 0 0 (decide ((0 : Int) < (l.length : Int))) else vinculumref27_Stretch.j1 k l o 0 0 false) (fun k => by simp only [vinculumref27_Stretch.l0]) ?_
    exact Ev.bind (refValid_ev l hl) (Ev.neg h (Ev.step (f := fun _ => some 0) (fun k => by simp [vinculumref27_Stretch.j1]) (Ev.now _)))
theorem stretch_ev (l : List S36) (o : Int) (hl : l.length ≤ 4398046511104) : Ev (fun k => glue_Stretch.f k l o) (if validB l = true then strV l o else 0) := by
  unfold glue_Stretch.f
  refine Ev.bind (valid_ev l hl) (Ev.ret ?_)
  by_cases h : validB l = true
  · rw [if_pos h, if_pos h]
    exact sumG_gUp (pStr o) (qStr o) (fun x => by unfold pStr qStr; split <;> rfl) (small_str h o) (validB_len h) _ (Nat.le_refl _)
  · rw [if_neg h, if_neg h]
theorem shrink_ev (l : List S36) (hl : l.length ≤ 4398046511104) : Ev (fun k => glue_Shrink.f k l) (if validB l = true then shrV l else 0) := by
  unfold glue_Shrink.f
  refine Ev.bind (valid_ev l hl) (Ev.ret ?_)
  by_cases h : validB l = true
  · rw [if_pos h, if_pos h]
    exact sumG_gUp pShr (·.f2) (fun x => rfl) (small_shr h) (validB_len h) _ (Nat.le_refl _)
  · rw [if_neg h, if_neg h]
/-! ### the order -/
theorem order_ev (l : List S36) (h : validB l = true) : Ev (fun k => glue_order.f k l) (ordV l) := by
  have hl : l.length ≤ 4398046511104 := by have := validB_len h; omega
  have hs : ∀ o, Ev (fun k => glue_Stretch.f k l o) (strV l o) := fun o => by have := stretch_ev l o hl; rwa [if_pos h] at this
  have one : ∀ (i : Int) r, Ev (fun k => glue_order.l0 (k + 1) l i) r → Ev (fun k => glue_order.l0 k l i) r := fun i r ⟨K, h⟩ => ⟨K + 1, fun k hk => by obtain ⟨m, rfl⟩ : ∃ m, k = m + 1 := ⟨k - 1, by omega⟩; exact h m (by omega)⟩
  have hst : ∀ (i : Int) r, 0 ≤ i → i ≤ 3 → (¬ 0 < strV l i → Ev (fun k => glue_order.l0 k l (i - 1)) r) → (0 < strV l i → i = r) → Ev (fun k => glue_order.l0 k l i) r := fun i r h0 h3 hn hp => by
    refine one _ _ ?_
    simp only [glue_order.l0]
    refine Ev.pos (by omega) (Ev.bind (hs i) ?_)
    refine Ev.ite (fun hc => Ev.ret (hp hc)) (fun hc => ?_)
    rw [wrap_id (x := i - 1) (by omega) (by omega)]
    exact hn hc
  unfold glue_order.f ordV
  refine hst 3 _ (by omega) (by omega) (fun h3 => ?_) (fun h3 => by rw [if_pos h3])
  rw [if_neg h3]
  refine hst 2 _ (by omega) (by omega) (fun h3 => ?_) (fun h3 => by rw [if_pos h3])
  rw [if_neg h3]
  refine hst 1 _ (by omega) (by omega) (fun h3 => ?_) (fun h3 => by rw [if_pos h3])
  rw [if_neg h3]
  refine hst 0 _ (by omega) (by omega) (fun h3 => ?_) (fun h3 => by rw [if_pos h3])
  rw [if_neg h3]
  refine one _ _ ?_
  simp only [glue_order.l0]
  exact Ev.neg (by omega) (Ev.now _)
theorem refOrder_ev (l : List S36) (h : validB l = true) : Ev (fun k => vinculumref27_Order.f k l) (ordV l) := by
  have hl : l.length ≤ 4398046511104 := by have := validB_len h; omega
  have hs : ∀ o, Ev (fun k => vinculumref27_Stretch.f k l o) (strV l o) := fun o => by have := refStretch_ev l o hl; rwa [if_pos h] at this
  have one : ∀ (i : Int) r, Ev (fun k => vinculumref27_Order.l0 (k + 1) l i) r → Ev (fun k => vinculumref27_Order.l0 k l i) r := fun i r ⟨K, h⟩ => ⟨K + 1, fun k hk => by obtain ⟨m, rfl⟩ : ∃ m, k = m + 1 := ⟨k - 1, by omega⟩; exact h m (by omega)⟩
  have hst : ∀ (i : Int) r, 0 ≤ i → i ≤ 3 → (¬ 0 < strV l i → Ev (fun k => vinculumref27_Order.l0 k l (i - 1)) r) → (0 < strV l i → i = r) → Ev (fun k => vinculumref27_Order.l0 k l i) r := fun i r h0 h3 hn hp => by
    refine one _ _ ?_
    simp only [vinculumref27_Order.l0]
    refine Ev.pos (by omega) (Ev.bind (hs i) ?_)
    refine Ev.ite (fun hc => Ev.ret (hp hc)) (fun hc => ?_)
    rw [wrap_id (x := i - 1) (by omega) (by omega)]
    exact hn hc
  unfold vinculumref27_Order.f ordV
  refine hst 3 _ (by omega) (by omega) (fun h3 => ?_) (fun h3 => by rw [if_pos h3])
  rw [if_neg h3]
  refine hst 2 _ (by omega) (by omega) (fun h3 => ?_) (fun h3 => by rw [if_pos h3])
  rw [if_neg h3]
  refine hst 1 _ (by omega) (by omega) (fun h3 => ?_) (fun h3 => by rw [if_pos h3])
  rw [if_neg h3]
  refine hst 0 _ (by omega) (by omega) (fun h3 => ?_) (fun h3 => by rw [if_pos h3])
  rw [if_neg h3]
  refine one _ _ ?_
  simp only [vinculumref27_Order.l0]
  exact Ev.neg (by omega) (Ev.now _)
end Go.Proofs.Ytojcnndkdopahaa.P
