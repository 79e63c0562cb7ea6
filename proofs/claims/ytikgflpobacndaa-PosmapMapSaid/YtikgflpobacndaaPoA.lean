--m
/- Trees of nodes, positions, and the guards of the statements about them. No program in sight. -/
import Derived.Test.YtikgflpobacndaaPc
import Derived.Test.YtikgflpobacndaaP0
import Derived.Test.YtikgflpobacndaaP1
import Derived.Test.YtikgflpobacndaaP13
import Derived.Test.YtikgflpobacndaaP14
import Derived.Test.YtikgflpobacndaaP15
import Derived.Test.YtikgflpobacndaaP16
import Derived.Test.YtikgflpobacndaaP17
import Derived.Test.YtikgflpobacndaaP18
import Derived.Test.YtikgflpobacndaaP19
import Derived.Test.YtikgflpobacndaaPRd
namespace Go.Proofs.Ytikgflpobacndaa.P
open Go.RowKit Go.Proofs.YtikgflpobacndaaW.PrintWords Go.Proofs.YtikgflpobacndaaW.PrintLast Go.Proofs.YtikgflpobacndaaW.PrintMore
set_option linter.unusedSimpArgs false
set_option linter.unusedVariables false
theorem rdN_nat (l : List S24) (k : Nat) (h : k < l.length) : rd_T24 l (k : Int) = l[k] := by
 unfold rd_T24
 rw [Int.toNat_natCast, List.getD_eq_getElem?_getD, List.getElem?_eq_getElem h]
 rfl
theorem rdO_nat (l : List S27) (k : Nat) (h : k < l.length) : rd_T27 l (k : Int) = l[k] := by
 unfold rd_T27
 rw [Int.toNat_natCast, List.getD_eq_getElem?_getD, List.getElem?_eq_getElem h]
 rfl
theorem nkid_size (x : S24) (k : Nat) (h : k < x.f3.length) : SizeOf.sizeOf x.f3[k] < SizeOf.sizeOf x := by
 have h2 := List.sizeOf_lt_of_mem (List.getElem_mem h)
 cases x
 simp at h2 ⊢
 omega
theorem ntree_ind {P : S24 → Prop} (h : ∀ x, (∀ i, ∀ hi : i < x.f3.length, P x.f3[i]) → P x) : ∀ x, P x := by
 have key : ∀ (n : Nat) (x : S24), SizeOf.sizeOf x ≤ n → P x := by
  intro n
  induction n with
  | zero => intro x hx; exfalso; cases x; simp at hx
  | succ n ih => exact fun x hx => h x fun i hi => ih _ (by have := nkid_size x i hi; omega)
 exact fun x => key _ x (Nat.le_refl _)
/-! ### the number of nodes -/
def cN (x : S24) : Nat := 1 + (x.f3.attach.map fun k => cN k.1).sum
termination_by SizeOf.sizeOf x
decreasing_by
 have h := List.sizeOf_lt_of_mem k.2
 cases x
 simp at h ⊢
 omega
def cNK (l : List S24) : Nat := (l.map cN).sum
theorem cN_eq (x : S24) : cN x = 1 + cNK x.f3 := by
 rw [cN]
 unfold cNK
 congr 2
 exact List.attach_map_val (f := cN)
theorem cN_pos (x : S24) : 1 ≤ cN x := by rw [cN_eq]; omega
theorem cNK_succ (l : List S24) (k : Nat) (h : k < l.length) : cNK (l.take (k + 1)) = cNK (l.take k) + cN l[k] := by
 unfold cNK
 rw [List.take_succ_eq_append_getElem h, List.map_append, List.sum_append]
 simp
theorem cNK_append (l m : List S24) : cNK (l ++ m) = cNK l + cNK m := by unfold cNK; rw [List.map_append, List.sum_append]
theorem cNK_le (l : List S24) (k : Nat) : cNK (l.take k) ≤ cNK l := by
 have h := cNK_append (l.take k) (l.drop k)
 rw [List.take_append_drop] at h
 omega
theorem cNK_len (l : List S24) : l.length ≤ cNK l := by
 induction l with
 | nil => simp [cNK]
 | cons x l ih => have := cN_pos x; unfold cNK at *; simp only [List.map_cons, List.sum_cons, List.length_cons]; omega
theorem cN_kid (x : S24) (i : Nat) (hi : i < x.f3.length) : cN x.f3[i] ≤ cNK x.f3 := by
 have h1 := cNK_succ x.f3 i hi
 have h2 := cNK_le x.f3 (i + 1)
 omega
theorem nwf_kid {x : S24} (h : wf24 x) (i : Nat) (hi : i < x.f3.length) : wf24 x.f3[i] := fun n => by
 have := h (n + 1)
 simp only [wfN24] at this
 exact this.2.2.2.2 _ (List.getElem_mem hi)
theorem nwf_len {x : S24} (h : wf24 x) : x.f3.length ≤ 9223372036854775807 := by
 have := h 1
 simp only [wfN24] at this
 exact this.2.2.2.1
theorem left_ev : ∀ (x : S24), wf24 x → ∀ (m : Int), 0 ≤ m → m ≤ 1000000 → Ev (fun k => vinculumref09_left.f k x.f0 x.f1 x.f2 x.f3 m) (max (m - cN x) (-1)) := by
 refine ntree_ind fun x ih hw m hm hm2 => ?_
 have hl := nwf_len hw
 have hc := cN_eq x
 refine Ev.step (f := fun k => vinculumref09_left.l0 k (wrap64 (m - 1)) 0 x.f0 x.f1 x.f2 x.f3) (fun k => by simp only [vinculumref09_left.f]) ?_
 rw [wrap_id (by omega) (by omega)]
 have key := ev_upE (fun k i n => vinculumref09_left.l0 k n i x.f0 x.f1 x.f2 x.f3) x.f3.length (fun _ _ => max (m - cN x) (-1)) (fun i n => n = max (m - 1 - (cNK (x.f3.take i) : Nat)) (-1))
  (fun n hI => by
   simp only [vinculumref09_left.l0]
   refine Ev.neg (by omega) (Ev.ret ?_)
   rw [hI, List.take_length]
   omega)
  (fun i n hi hI => by
   have hs := cNK_succ x.f3 i hi
   have hle := cNK_le x.f3 (i + 1)
   have hp := cN_pos x.f3[i]
   by_cases hn : 0 ≤ n
   ·refine .inr ⟨max (m - 1 - (cNK (x.f3.take (i + 1)) : Nat)) (-1), rfl, fun r hr => ?_, rfl⟩
    simp only [vinculumref09_left.l0]
    rw [rdN_nat _ i hi]
    refine Ev.pos (by omega) (Ev.pos hn (Ev.pos (by omega) (Ev.bind (ih i hi (nwf_kid hw i hi) n hn (by omega)) ?_)))
    rw [wrap_succ (by omega)]
    have : max (n - (cN x.f3[i] : Int)) (-1) = max (m - 1 - (cNK (x.f3.take (i + 1)) : Nat)) (-1) := by omega
    rw [this]
    exact hr
   ·refine .inl ?_
    simp only [vinculumref09_left.l0]
    exact Ev.pos (by omega) (Ev.neg (by omega) (Ev.ret (by omega))))
 exact key 0 (m - 1) (Nat.zero_le _) (by simp [cNK]; omega)
theorem nFew_ev (x : S24) (hw : wf24 x) (m : Int) (hm : 0 ≤ m) (hm2 : m ≤ 100000) : Ev (fun k => vinculumref09_Few.f k x.f0 x.f1 x.f2 x.f3 m) (decide ((cN x : Int) ≤ m)) := by
 unfold vinculumref09_Few.f
 refine Ev.bind (left_ev x hw m hm (by omega)) (Ev.ret ?_)
 exact decide_eq_decide.2 (by omega)
/-! ### the guards -/
def nearB (l : List Int) : Bool := l.all fun x => decide (-1099511627776 ≤ x) && decide (x ≤ 1099511627776)
theorem nearB_iff (l : List Int) : nearB l = true ↔ ∀ x ∈ l, -1099511627776 ≤ x ∧ x ≤ 1099511627776 := by
 unfold nearB
 simp [List.all_eq_true]
theorem near_ev (l : List Int) (hl : l.length ≤ 9223372036854775807) : Ev (fun k => vinculumlaw13_near.f k l) (nearB l) := by
 unfold vinculumlaw13_near.f
 have key := ev_up (fun k i (_ : Unit) => vinculumlaw13_near.l0 k l (l.length : Int) i) l.length (fun _ _ => nearB l) (fun i _ => ∀ j, j < i → ∀ h : j < l.length, -1099511627776 ≤ l[j] ∧ l[j] ≤ 1099511627776)
  (fun s hI k => by
   simp only [vinculumlaw13_near.l0]
   rw [if_neg (by omega), (nearB_iff l).2]
   intro x hx
   obtain ⟨j, hj, rfl⟩ := List.getElem_of_mem hx
   exact hI j hj hj)
  (fun i s hi hI => by
   have hbad : ¬ (-1099511627776 ≤ l[i] ∧ l[i] ≤ 1099511627776) → nearB l = false := fun h => by
    rw [Bool.eq_false_iff]
    intro hh
    exact h ((nearB_iff l).1 hh _ (List.getElem_mem hi))
   by_cases h1 : l[i] > 1099511627776
   ·refine .inl fun k => ?_
    simp only [vinculumlaw13_near.l0]
    rw [if_pos (by omega), if_pos (by omega), if_pos (by omega), rd_nat l i hi, if_pos h1, hbad (by omega)]
   ·by_cases h2 : l[i] < -1099511627776
    ·refine .inl fun k => ?_
     simp only [vinculumlaw13_near.l0]
     rw [if_pos (by omega), if_pos (by omega), if_pos (by omega), rd_nat l i hi, if_neg h1, if_pos h2, hbad (by omega)]
    ·refine .inr ⟨(), fun j hj h => ?_, fun k => ?_, rfl⟩
     ·by_cases e : j = i
      ·subst e; omega
      ·exact hI j (by omega) h
     ·simp only [vinculumlaw13_near.l0]
      rw [if_pos (by omega), if_pos (by omega), if_pos (by omega), rd_nat l i hi, if_neg h1, if_neg h2, wrap_succ (by omega)])
 exact key 0 () (Nat.zero_le _) (fun j hj => by omega)
def rowN (l : List S24) : S24 := ⟨1, ⟨#[]⟩, 0, l⟩
theorem rowN_wf {l : List S24} (h : l.length ≤ 9223372036854775807 ∧ ∀ y ∈ l, wf24 y) : wf24 (rowN l) := fun n => by
 cases n with
 | zero => trivial
 | succ n =>
  simp only [wfN24, rowN]
  exact ⟨by decide, by decide, by decide, h.1, fun y hy => h.2 y hy n⟩
def opFewB (op : S27) : Bool := decide (cN (rowN op.f4) ≤ 100) && decide (op.f1.length ≤ 60)
theorem opFew_ev (op : S27) (hw : wf27 op) : Ev (fun k => vinculumref12_Few.f k op.f0 op.f1 op.f2 op.f3 op.f4 op.f5 op.f6 op.f7) (opFewB op) := by
 have hw4 : op.f4.length ≤ 9223372036854775807 ∧ ∀ y ∈ op.f4, wf24 y := hw.2.2.2.2.1
 unfold vinculumref12_Few.f
 refine Ev.bindO (a := ((1 : Int), (⟨#[]⟩ : ByteArray), (0 : Int), op.f4)) rfl (Ev.bind (nFew_ev (rowN op.f4) (rowN_wf hw4) 100 (by omega) (by omega)) ?_)
 unfold opFewB
 by_cases h : cN (rowN op.f4) ≤ 100
 ·refine Ev.pos (decide_eq_true (by omega)) (Ev.ret ?_)
  rw [decide_eq_true h, Bool.true_and]
  exact decide_eq_decide.2 (by omega)
 ·refine Ev.neg (by rw [decide_eq_false (by omega)]; simp) (Ev.ret ?_)
  rw [decide_eq_false h]
  rfl
def opOkB (pos : List Int) (op : S27) : Bool := opFewB op && (nearB [op.f2, op.f3, op.f5] && (nearB op.f1 && nearB pos))
def fewB (n : S24) (pos : List Int) (ops : List S27) : Bool := ops.all (opOkB pos) && (decide (cN n ≤ 300) && (decide (ops.length ≤ 12) && decide (pos.length ≤ 60)))
theorem few13_ev (n : S24) (hn : wf24 n) (pos : List Int) (hp : pos.length ≤ 9223372036854775807) (ops : List S27) (ho : ops.length ≤ 9223372036854775807) (hw : ∀ op ∈ ops, wf27 op) :
  Ev (fun k => vinculumlaw13_few.f k n.f0 n.f1 n.f2 n.f3 pos ops) (fewB n pos ops) := by
 unfold vinculumlaw13_few.f
 have key := ev_upE (fun k i (_ : Unit) => vinculumlaw13_few.l0 k pos ops ops (ops.length : Int) i n.f0 n.f1 n.f2 n.f3) ops.length (fun _ _ => fewB n pos ops) (fun i _ => ∀ j, j < i → ∀ h : j < ops.length, opOkB pos ops[j] = true)
  (fun s hI => by
   have hall : ops.all (opOkB pos) = true := by
    rw [List.all_eq_true]
    intro x hx
    obtain ⟨j, hj, rfl⟩ := List.getElem_of_mem hx
    exact hI j hj hj
   simp only [vinculumlaw13_few.l0]
   refine Ev.neg (by omega) (Ev.bind (nFew_ev n hn 300 (by omega) (by omega)) ?_)
   unfold fewB
   rw [hall, Bool.true_and]
   by_cases h1 : cN n ≤ 300
   ·rw [decide_eq_true h1, Bool.true_and]
    refine Ev.pos (decide_eq_true (by omega)) ?_
    by_cases h2 : ops.length ≤ 12
    ·rw [decide_eq_true h2, Bool.true_and]
     exact Ev.pos (by omega) (Ev.ret (decide_eq_decide.2 (by omega)))
    ·rw [decide_eq_false h2]
     exact Ev.neg (by omega) (Ev.ret rfl)
   ·rw [decide_eq_false h1]
    exact Ev.neg (by rw [decide_eq_false (by omega)]; simp) (Ev.ret rfl))
  (fun i s hi hI => by
   have hwo := hw _ (List.getElem_mem hi)
   have hw1 : ops[i].f1.length ≤ 9223372036854775807 := hwo.2.1.1
   have hno : opOkB pos ops[i] = false → fewB n pos ops = false := fun h => by
    have : ops.all (opOkB pos) = false := by rw [List.all_eq_false]; exact ⟨_, List.getElem_mem hi, by simp [h]⟩
    unfold fewB
    rw [this]
    rfl
   have hE : opOkB pos ops[i] = (opFewB ops[i] && (nearB [ops[i].f2, ops[i].f3, ops[i].f5] && (nearB ops[i].f1 && nearB pos))) := rfl
   have e1 := opFew_ev ops[i] hwo
   have e2 := near_ev [ops[i].f2, ops[i].f3, ops[i].f5] (by simp)
   have e3 := near_ev ops[i].f1 hw1
   have e4 := near_ev pos hp
   cases h1 : opFewB ops[i] with
   | false =>
    refine .inl ?_
    simp only [vinculumlaw13_few.l0]
    rw [rdO_nat _ i hi]
    exact Ev.pos (by omega) (Ev.pos (by omega) (Ev.pos (by omega) (Ev.bind e1 (Ev.neg (by rw [h1]; simp) (Ev.ret (hno (by rw [hE, h1]; rfl)).symm)))))
   | true =>
    cases h2 : nearB [ops[i].f2, ops[i].f3, ops[i].f5] with
    | false =>
     refine .inl ?_
     simp only [vinculumlaw13_few.l0]
     rw [rdO_nat _ i hi]
     exact Ev.pos (by omega) (Ev.pos (by omega) (Ev.pos (by omega) (Ev.bind e1 (Ev.pos h1 (Ev.bind e2 (Ev.neg (by rw [h2]; simp) (Ev.ret (hno (by rw [hE, h1, h2]; rfl)).symm)))))))
    | true =>
     cases h3 : nearB ops[i].f1 with
     | false =>
      refine .inl ?_
      simp only [vinculumlaw13_few.l0]
      rw [rdO_nat _ i hi]
      exact Ev.pos (by omega) (Ev.pos (by omega) (Ev.pos (by omega) (Ev.bind e1 (Ev.pos h1 (Ev.bind e2 (Ev.pos h2 (Ev.bind e3 (Ev.neg (by rw [h3]; simp) (Ev.ret (hno (by rw [hE, h1, h2, h3]; rfl)).symm)))))))))
     | true =>
      cases h4 : nearB pos with
      | false =>
       refine .inl ?_
       simp only [vinculumlaw13_few.l0]
       rw [rdO_nat _ i hi]
       exact Ev.pos (by omega) (Ev.pos (by omega) (Ev.pos (by omega) (Ev.bind e1 (Ev.pos h1 (Ev.bind e2 (Ev.pos h2 (Ev.bind e3 (Ev.pos h3 (Ev.bind e4 (Ev.neg (by rw [h4]; simp) (Ev.ret (hno (by rw [hE, h1, h2, h3, h4]; rfl)).symm)))))))))))
      | true =>
       refine .inr ⟨(), fun j hj h => ?_, fun r hr => ?_, rfl⟩
       ·by_cases e : j = i
        ·subst e; rw [hE, h1, h2, h3, h4]; rfl
        ·exact hI j (by omega) h
       ·simp only [vinculumlaw13_few.l0]
        rw [rdO_nat _ i hi]
        refine Ev.pos (by omega) (Ev.pos (by omega) (Ev.pos (by omega) (Ev.bind e1 (Ev.pos h1 (Ev.bind e2 (Ev.pos h2 (Ev.bind e3 (Ev.pos h3 (Ev.bind e4 (Ev.pos h4 ?_))))))))))
        rw [wrap_succ (by omega)]
        exact hr)
 exact key 0 () (Nat.zero_le _) (fun j hj => by omega)
/-! ### the order of positions -/
def cmpL : List Int → List Int → Int
 | [], [] => 0
 | [], _ :: _ => -1
 | _ :: _, [] => 1
 | x :: xs, y :: ys => if x < y then -1 else if x > y then 1 else cmpL xs ys
theorem cmpL_nil (m : List Int) (i : Nat) (h : i ≤ m.length) : cmpL [] (m.drop i) = if i < m.length then -1 else 0 := by
 by_cases hi : i < m.length
 ·rw [if_pos hi, List.drop_eq_getElem_cons hi, cmpL]
 ·rw [if_neg hi, List.drop_eq_nil_of_le (by omega), cmpL]
theorem compare_ev (l m : List Int) (hl : l.length ≤ 9223372036854775807) : Ev (fun k => vinculumref10_Compare.f k l m) (cmpL l m) := by
 unfold vinculumref10_Compare.f
 have one : ∀ (i : Nat) (s : Unit) r, Ev (fun k => vinculumref10_Compare.l0 (k + 1) l m (i : Int)) r → Ev (fun k => vinculumref10_Compare.l0 k l m (i : Int)) r := fun i s r ⟨K, h⟩ => ⟨K + 1, fun k hk => by obtain ⟨n, rfl⟩ : ∃ n, k = n + 1 := ⟨k - 1, by omega⟩; exact h n (by omega)⟩
 have key : ∀ d i : Nat, i + d = l.length → i ≤ m.length → Ev (fun k => vinculumref10_Compare.l0 k l m (i : Int)) (cmpL (l.drop i) (m.drop i)) := by
  intro d
  induction d with
  | zero =>
   intro i hi him
   obtain rfl : i = l.length := by omega
   refine Ev.step (f := fun k => vinculumref10_Compare.j1 k l m (l.length : Int) false) (fun k => by simp only [vinculumref10_Compare.l0]; rw [if_neg (by omega)]) ?_
   rw [List.drop_eq_nil_of_le (Nat.le_refl _), cmpL_nil m _ him]
   refine Ev.step (f := fun _ => if (l.length : Int) < (m.length : Int) then some (-1) else if (l.length : Int) > (m.length : Int) then some 1 else some 0) (fun k => by simp only [vinculumref10_Compare.j1]; rfl) ?_
   by_cases h : l.length < m.length
   ·rw [if_pos h]; exact Ev.pos (by omega) (Ev.now _)
   ·rw [if_neg h]; exact Ev.neg (by omega) (Ev.neg (by omega) (Ev.now _))
  | succ d ih =>
   intro i hi him
   have hil : i < l.length := by omega
   by_cases h : i < m.length
   ·refine Ev.step (f := fun k => vinculumref10_Compare.j1 k l m (i : Int) true) (fun k => by simp only [vinculumref10_Compare.l0]; rw [if_pos (by omega), decide_eq_true (by omega)]) ?_
    refine Ev.step (f := fun k => if (rd l (i : Int)) < (rd m (i : Int)) then some (-1) else if (rd l (i : Int)) > (rd m (i : Int)) then some 1 else vinculumref10_Compare.l0 k l m (wrap64 ((i : Int) + 1))) (fun k => by simp only [vinculumref10_Compare.j1]; rw [if_pos trivial, if_pos (by omega), if_pos (by omega), if_pos (by omega)]) ?_
    rw [rd_nat l i hil, rd_nat m i h, List.drop_eq_getElem_cons hil, List.drop_eq_getElem_cons h, cmpL, wrap_succ (by omega)]
    by_cases h1 : l[i] < m[i]
    ·rw [if_pos h1]; exact Ev.pos h1 (Ev.now _)
    ·rw [if_neg h1]
     refine Ev.neg h1 ?_
     by_cases h2 : l[i] > m[i]
     ·rw [if_pos h2]; exact Ev.pos h2 (Ev.now _)
     ·rw [if_neg h2]
      exact Ev.neg h2 (ih (i + 1) (by omega) (by omega))
   ·obtain rfl : i = m.length := by omega
    refine Ev.step (f := fun k => vinculumref10_Compare.j1 k l m (m.length : Int) false) (fun k => by simp only [vinculumref10_Compare.l0]; rw [if_pos (by omega), decide_eq_false (by omega)]) ?_
    rw [List.drop_eq_getElem_cons hil, List.drop_eq_nil_of_le (Nat.le_refl _), cmpL]
    refine Ev.step (f := fun _ => if (l.length : Int) < (m.length : Int) then some (-1) else if (l.length : Int) > (m.length : Int) then some 1 else some 0) (fun k => by simp only [vinculumref10_Compare.j1]; rfl) ?_
    exact Ev.neg (by omega) (Ev.pos (by omega) (Ev.now _))
 have := key l.length 0 (by omega) (by omega)
 simpa using this
theorem cmpL_refl : ∀ l : List Int, cmpL l l = 0
 | [] => rfl
 | x :: xs => by rw [cmpL, if_neg (by omega), if_neg (by omega)]; exact cmpL_refl xs
theorem cmpL_eq : ∀ l m : List Int, cmpL l m = 0 → l = m
 | [], [], _ => rfl
 | [], _ :: _, h => by simp [cmpL] at h
 | _ :: _, [], h => by simp [cmpL] at h
 | x :: xs, y :: ys, h => by
  rw [cmpL] at h
  by_cases h1 : x < y
  ·rw [if_pos h1] at h; omega
  ·rw [if_neg h1] at h
   by_cases h2 : x > y
   ·rw [if_pos h2] at h; omega
   ·rw [if_neg h2] at h
    rw [show x = y by omega, cmpL_eq xs ys h]
theorem same_ev (l m : List Int) (hl : l.length ≤ 9223372036854775807) : Ev (fun k => vinculumref10_Same.f k l m) (decide (l = m)) := by
 unfold vinculumref10_Same.f
 refine Ev.bind (compare_ev l m hl) (Ev.ret ?_)
 by_cases h : l = m
 ·subst h; rw [cmpL_refl]; simp
 ·rw [decide_eq_false h]
  have : ¬ cmpL l m = 0 := fun e => h (cmpL_eq l m e)
  simpa using this
theorem same_refl (l : List Int) (hl : l.length ≤ 9223372036854775807) : Ev (fun k => vinculumref10_Same.f k l l) true := by
 have := same_ev l l hl
 rwa [decide_eq_true rfl] at this
theorem awake13_ev : Ev (fun k => vinculumlaw13_awake.f k) true := Ev.of (fun k => vinculumlaw13_awake.mono k) (k := 10) (by kernel_rfl)
end Go.Proofs.Ytikgflpobacndaa.P
