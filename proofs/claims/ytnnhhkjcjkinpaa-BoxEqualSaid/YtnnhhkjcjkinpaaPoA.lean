/- What the functions of layer 28 and of its reference answer: trees of boxes. No program in sight. -/
import Derived.Test.YtnnhhkjcjkinpaaPc
import Derived.Test.YtnnhhkjcjkinpaaP0
import Derived.Test.YtnnhhkjcjkinpaaP3
import Derived.Test.YtnnhhkjcjkinpaaP4
import Derived.Test.YtnnhhkjcjkinpaaP6
import Derived.Test.YtnnhhkjcjkinpaaPRd
namespace Go.Proofs.Ytnnhhkjcjkinpaa.P
open Go.RowKit Go.Proofs.YtnnhhkjcjkinpaaW.PrintWords Go.Proofs.YtnnhhkjcjkinpaaW.PrintLast Go.Proofs.YtnnhhkjcjkinpaaW.PrintMore
set_option linter.unusedSimpArgs false
set_option linter.unusedVariables false
theorem tree_ind {P : S28 → Prop} (h : ∀ x, (∀ i, ∀ hi : i < x.f8.length, P x.f8[i]) → P x) : ∀ x, P x := by
  have key : ∀ (n : Nat) (x : S28), SizeOf.sizeOf x ≤ n → P x := by
    intro n
    induction n with
    | zero => intro x hx; exfalso; cases x; simp at hx
    | succ n ih => exact fun x hx => h x fun i hi => ih _ (by have := kid_size x i hi; omega)
  exact fun x => key _ x (Nat.le_refl _)
/-! ### the number of boxes -/
def cntT (x : S28) : Nat := (flatV x 0 0).length
def cntK (l : List S28) : Nat := (kidsV l 0 0).length
theorem len_any : ∀ (x : S28) (X Y X' Y' : Int), (flatV x X Y).length = (flatV x X' Y').length := by
  refine tree_ind fun x ih X Y X' Y' => ?_
  rw [flatV_eq, flatV_eq, List.length_cons, List.length_cons]
  congr 1
  have key : ∀ k, k ≤ x.f8.length → (kidsV (x.f8.take k) X Y).length = (kidsV (x.f8.take k) X' Y').length := by
    intro k
    induction k with
    | zero => intro _; simp [kidsV]
    | succ k ihk =>
      intro hk
      rw [kidsV_succ _ _ _ _ (by omega), kidsV_succ _ _ _ _ (by omega), List.length_append, List.length_append, ihk (by omega)]
      congr 1
      exact ih k (by omega) _ _ _ _
  have := key _ (Nat.le_refl _)
  rwa [List.take_length] at this
theorem cntT_eq (x : S28) : cntT x = cntK x.f8 + 1 := by unfold cntT cntK; rw [flatV_eq, List.length_cons]
theorem cntK_succ (l : List S28) (k : Nat) (h : k < l.length) : cntK (l.take (k + 1)) = cntK (l.take k) + cntT l[k] := by
  unfold cntK
  rw [kidsV_succ _ _ _ _ h, List.length_append, len_any l[k] _ _ 0 0]
  rfl
theorem cntK_le (l : List S28) (k : Nat) : cntK (l.take k) ≤ cntK l := kidsV_le l 0 0 k
theorem cntT_pos (x : S28) : 1 ≤ cntT x := by rw [cntT_eq]; omega
theorem cntK_len : ∀ (l : List S28), l.length ≤ cntK l := by
  intro l
  have key : ∀ k, k ≤ l.length → k ≤ cntK (l.take k) := by
    intro k
    induction k with
    | zero => intro _; omega
    | succ k ih => intro hk; rw [cntK_succ _ _ (by omega)]; have := cntT_pos l[k]; have := ih (by omega); omega
  have := key _ (Nat.le_refl _)
  rwa [List.take_length] at this
theorem cntT_kid (x : S28) (i : Nat) (hi : i < x.f8.length) : cntT x.f8[i] ≤ cntT x := by
  have h1 := cntK_succ x.f8 i hi
  have h2 := cntK_le x.f8 (i + 1)
  rw [cntT_eq x]
  omega
/-- The lists of a tree have lengths that an index can reach. -/
def lenB (x : S28) : Prop := ∀ n, wfN28 n x
theorem wf_kid {x : S28} (h : wf28 x) (i : Nat) (hi : i < x.f8.length) : wf28 x.f8[i] := fun n => by
  have := h (n + 1)
  simp only [wfN28] at this
  exact this.2.2.2.2.2.2.2.2.1.2 _ (List.getElem_mem hi)
theorem wf_len {x : S28} (h : wf28 x) : x.f8.length ≤ 9223372036854775807 := by
  have := h 1
  simp only [wfN28] at this
  exact this.2.2.2.2.2.2.2.2.1.1
theorem wf_src {x : S28} (h : wf28 x) : x.f10.length ≤ 9223372036854775807 := by
  have := h 1
  simp only [wfN28] at this
  exact this.2.2.2.2.2.2.2.2.2.2.1
theorem wf_name {x : S28} (h : wf28 x) : x.f1.size ≤ 9223372036854775807 := by
  have := h 1
  simp only [wfN28] at this
  exact this.2.1
theorem size_ev : ∀ (x : S28), wf28 x → ∀ (m : Int), 1 ≤ m → m ≤ 1000000 → Ev (fun k => vinculumref28_size.f k x.f0 x.f1 x.f2 x.f3 x.f4 x.f5 x.f6 x.f7 x.f8 x.f9 x.f10 m) (min (cntT x : Int) m) := by
  refine tree_ind fun x ih hw m hm hm2 => ?_
  have hl := wf_len hw
  refine Ev.step (f := fun k => vinculumref28_size.l0 k m 1 0 x.f0 x.f1 x.f2 x.f3 x.f4 x.f5 x.f6 x.f7 x.f8 x.f9 x.f10) (fun k => by simp only [vinculumref28_size.f]) ?_
  have key := ev_upE (fun k i n => vinculumref28_size.l0 k m n i x.f0 x.f1 x.f2 x.f3 x.f4 x.f5 x.f6 x.f7 x.f8 x.f9 x.f10) x.f8.length (fun _ _ => min (cntT x : Int) m) (fun i n => n = min ((1 + cntK (x.f8.take i) : Nat) : Int) m)
    (fun n hI => by
      simp only [vinculumref28_size.l0]
      refine Ev.neg (by omega) (Ev.ret ?_)
      rw [hI, List.take_length, cntT_eq]
      omega)
    (fun i n hi hI => by
      have hs := cntK_succ x.f8 i hi
      have hle := cntK_le x.f8 (i + 1)
      have hp := cntT_pos x.f8[i]
      by_cases hn : n < m
      · refine .inr ⟨min ((1 + cntK (x.f8.take (i + 1)) : Nat) : Int) m, rfl, fun r hr => ?_, rfl⟩
        simp only [vinculumref28_size.l0]
        rw [rdT28_nat _ i hi]
        have hmn : wrap64 (m - n) = m - n := wrap_id (by omega) (by omega)
        refine Ev.pos (by omega) (Ev.pos hn (Ev.pos (by omega) (Ev.bind (by rw [hmn]; exact ih i hi (wf_kid hw i hi) (m - n) (by omega) (by omega)) ?_)))
        rw [wrap_succ (by omega), wrap_id (by omega) (by omega)]
        have : n + min (cntT x.f8[i] : Int) (m - n) = min ((1 + cntK (x.f8.take (i + 1)) : Nat) : Int) m := by omega
        rw [this]
        exact hr
      · refine .inl ?_
        simp only [vinculumref28_size.l0]
        refine Ev.pos (by omega) (Ev.neg hn (Ev.ret ?_))
        rw [cntT_eq]
        omega)
  exact key 0 1 (Nat.zero_le _) (by simp [cntK, kidsV]; omega)
theorem few_ev (x : S28) (hw : wf28 x) (m : Int) (hm : 0 ≤ m) (hm2 : m ≤ 100000) : Ev (fun k => vinculumref28_Few.f k x.f0 x.f1 x.f2 x.f3 x.f4 x.f5 x.f6 x.f7 x.f8 x.f9 x.f10 m) (decide ((cntT x : Int) ≤ m)) := by
  unfold vinculumref28_Few.f
  have h1 : wrap64 (m + 1) = m + 1 := wrap_id (by omega) (by omega)
  rw [h1]
  refine Ev.bind (size_ev x hw (m + 1) (by omega) (by omega)) (Ev.ret ?_)
  by_cases h : (cntT x : Int) ≤ m
  · rw [decide_eq_true h, decide_eq_true (by omega)]
  · rw [decide_eq_false h, decide_eq_false (by omega)]
end Go.Proofs.Ytnnhhkjcjkinpaa.P
