--m
/- Map, MapAll and Lost of layer 13's reference answer as the program's do. No program in sight. -/
import Derived.Test.YtikgflpobacndaaPoC
import Derived.Test.YtikgflpobacndaaP0
import Derived.Test.YtikgflpobacndaaP1
import Derived.Test.YtikgflpobacndaaP3
import Derived.Test.YtikgflpobacndaaP48
import Derived.Test.YtikgflpobacndaaP52
import Derived.Test.YtikgflpobacndaaP53
import Derived.Test.YtikgflpobacndaaP54
namespace Go.Proofs.Ytikgflpobacndaa.P
open Go.RowKit Go.Proofs.YtikgflpobacndaaW.PrintWords Go.Proofs.YtikgflpobacndaaW.PrintLast Go.Proofs.YtikgflpobacndaaW.PrintMore
set_option linter.unusedSimpArgs false
set_option linter.unusedVariables false
theorem within_ev (pos row : List Int) (hp : pos.length ≤ 1000000) : Ev (fun k => vinculumref13_within.f k pos row) (cutB row pos) := by
 unfold vinculumref13_within.f cutB
 by_cases h : row.length < pos.length
 ·rw [decide_eq_true h, Bool.true_and]
  refine Ev.neg (by omega) ?_
  have key := ev_up (fun k i (_ : Unit) => vinculumref13_within.l0 k pos row i) row.length (fun _ _ => !decide (pos.length = row.length + 2) && decide (pos.take row.length = row)) (fun i _ => ∀ j, j < i → ∀ (h1 : j < pos.length) (h2 : j < row.length), pos[j] = row[j])
   (fun s hI k => by
    simp only [vinculumref13_within.l0]
    have ht : pos.take row.length = row := by
     refine List.ext_getElem (by simp; omega) (fun j h1 h2 => ?_)
     rw [List.getElem_take]
     exact hI j h2 (by omega) h2
    rw [if_neg (by omega), decide_eq_true ht, Bool.and_true, wrap_id (by omega) (by omega)]
    congr 1
    rw [Bool.eq_iff_iff]
    simp
    omega)
   (fun i s hi hI => by
    have hip : i < pos.length := by omega
    by_cases e : pos[i] = row[i]
    ·refine .inr ⟨(), fun j hj h1 h2 => ?_, fun k => ?_, rfl⟩
     ·by_cases ej : j = i
      ·subst ej; exact e
      ·exact hI j (by omega) h1 h2
     ·simp only [vinculumref13_within.l0]
      rw [if_pos (by omega), if_pos (by omega), if_pos (by omega), rd_nat pos i hip, rd_nat row i hi, if_pos e, wrap_succ (by omega)]
    ·refine .inl fun k => ?_
     have ht : ¬ pos.take row.length = row := fun hh => e (by
      have h1 : i < (pos.take row.length).length := by simp; omega
      have : (pos.take row.length)[i] = row[i] := by
       have := List.getElem_of_eq hh h1
       exact this
      rwa [List.getElem_take] at this)
     simp only [vinculumref13_within.l0]
     rw [if_pos (by omega), if_pos (by omega), if_pos (by omega), rd_nat pos i hip, rd_nat row i hi, if_neg e, decide_eq_false ht, Bool.and_false])
  exact key 0 () (Nat.zero_le _) (fun j hj => by omega)
 ·rw [decide_eq_false h]
  exact Ev.pos (by omega) (Ev.ret rfl)
theorem roff_ev (op : S27) (o : Int) (after : Bool) (ho : OpOk op) (h1 : -1152921504606846976 ≤ o) (h2 : o ≤ 1152921504606846976) :
  Ev (fun k => vinculumref13_offset.f k op.f0 op.f1 op.f2 op.f3 op.f4 op.f5 op.f6 op.f7 o after) (offS op.f0 op.f2 op.f3 (op.f4.length : Int) op.f5 after o) := by
 have a1 := ho.at1
 have a2 := ho.at2
 have n1 := ho.n1
 have n2 := ho.n2
 have hn := ho.nodes
 have e1 : wrap64 (o + (op.f4.length : Int)) = o + op.f4.length := wrap_id (by omega) (by omega)
 have e2 : wrap64 (op.f2 + (op.f4.length : Int)) = op.f2 + op.f4.length := wrap_id (by omega) (by omega)
 have e3 : wrap64 (op.f2 + op.f3) = op.f2 + op.f3 := wrap_id (by omega) (by omega)
 have e4 : wrap64 (o - 1) = o - 1 := wrap_id (by omega) (by omega)
 have e5 : wrap64 (o - 1 + op.f3) = o - 1 + op.f3 := wrap_id (by omega) (by omega)
 have e6 : wrap64 (o - (op.f4.length : Int)) = o - op.f4.length := wrap_id (by omega) (by omega)
 have e7 : wrap64 (o - op.f2) = o - op.f2 := wrap_id (by omega) (by omega)
 have e8 : wrap64 (o - op.f3) = o - op.f3 := wrap_id (by omega) (by omega)
 have e9 : wrap64 (o - op.f3 + 1) = o - op.f3 + 1 := wrap_id (by omega) (by omega)
 have e10 : wrap64 (op.f2 + 1) = op.f2 + 1 := wrap_id (by omega) (by omega)
 have j0 : ∀ b : Bool, Ev (fun k => vinculumref13_offset.j0 k o (op.f4.length : Int) b op.f0 op.f1 op.f2 op.f3 op.f4 op.f5 op.f6 op.f7) (if b = true then [op.f2] else if o > op.f2 then [o - op.f4.length] else [o]) := fun b => by
  refine Ev.step (f := fun _ => some (if b = true then [op.f2] else if o > op.f2 then [o - op.f4.length] else [o])) (fun k => ?_) (Ev.now _)
  simp only [vinculumref13_offset.j0]
  rw [e6]
  split
  ·rfl
  ·split <;> rfl
 have j1 : ∀ b : Bool, Ev (fun k => vinculumref13_offset.j1 k o after b op.f0 op.f1 op.f2 op.f3 op.f4 op.f5 op.f6 op.f7) (if b = true then [op.f2, op.f5, o - op.f2] else if o > op.f2 then [o - op.f3 + 1] else if o = op.f2 ∧ op.f3 = 0 ∧ after = true then [op.f2 + 1] else [o]) := fun b => by
  refine Ev.step (f := fun _ => some (if b = true then [op.f2, op.f5, o - op.f2] else if o > op.f2 then [o - op.f3 + 1] else if o = op.f2 ∧ op.f3 = 0 ∧ after = true then [op.f2 + 1] else [o])) (fun k => ?_) (Ev.now _)
  simp only [vinculumref13_offset.j1]
  rw [e7, e8, e9, e10]
  split
  ·rfl
  ·split
   ·rfl
   ·by_cases c1 : o = op.f2
    ·by_cases c2 : op.f3 = 0
     ·by_cases c3 : after = true
      ·rw [if_pos c1, if_pos c2, if_pos c3, if_pos ⟨c1, c2, c3⟩]
      ·rw [if_pos c1, if_pos c2, if_neg c3, if_neg (fun h => c3 h.2.2)]
     ·rw [if_pos c1, if_neg c2, if_neg (fun h => c2 h.2.1)]
    ·rw [if_neg c1, if_neg (fun h => c1 h.1)]
 unfold vinculumref13_offset.f offS
 rw [e1, e2, e3, e4, e5]
 by_cases k1 : op.f0 = 1
 ·rw [if_pos k1]
  refine Ev.pos k1 ?_
  by_cases c1 : o > op.f2
  ·rw [if_pos (show o > op.f2 ∨ (o = op.f2 ∧ after = true) from .inl c1)]; exact Ev.pos c1 (Ev.now _)
  ·refine Ev.neg c1 ?_
   by_cases c2 : o = op.f2
   ·refine Ev.pos c2 ?_
    by_cases c3 : after = true
    ·rw [if_pos (show o > op.f2 ∨ (o = op.f2 ∧ after = true) from .inr ⟨c2, c3⟩)]; exact Ev.pos c3 (Ev.now _)
    ·rw [if_neg (show ¬ (o > op.f2 ∨ (o = op.f2 ∧ after = true)) by simp [c1, c3])]; exact Ev.neg c3 (Ev.now _)
   ·rw [if_neg (show ¬ (o > op.f2 ∨ (o = op.f2 ∧ after = true)) by simp [c1, c2])]; exact Ev.neg c2 (Ev.now _)
 ·rw [if_neg k1]
  refine Ev.neg k1 ?_
  by_cases k2 : op.f0 = 2
  ·rw [if_pos k2]
   refine Ev.pos k2 ?_
   by_cases c1 : o > op.f2
   ·refine Ev.pos c1 ?_
    by_cases c2 : o < op.f2 + op.f4.length
    ·rw [if_pos ⟨c1, c2⟩, decide_eq_true c2]; exact j0 true
    ·rw [if_neg (fun h => c2 h.2), decide_eq_false c2]; exact j0 false
   ·rw [if_neg (fun h => c1 h.1)]; exact Ev.neg c1 (j0 false)
  ·rw [if_neg k2]
   refine Ev.neg k2 ?_
   by_cases k3 : op.f0 = 3
   ·rw [if_pos k3]
    refine Ev.pos k3 ?_
    by_cases c1 : o > op.f2
    ·refine Ev.pos c1 ?_
     by_cases c2 : o < op.f2 + op.f3
     ·rw [if_pos ⟨c1, c2⟩, decide_eq_true c2]; exact j1 true
     ·rw [if_neg (fun h => c2 h.2), decide_eq_false c2]; exact j1 false
    ·rw [if_neg (fun h => c1 h.1)]; exact Ev.neg c1 (j1 false)
   ·rw [if_neg k3]
    refine Ev.neg k3 ?_
    refine Ev.ite (fun k4 => ?_) (fun k4 => ?_)
    ·rw [if_pos k4]
     refine Ev.ite (fun c1 => ?_) (fun c1 => ?_)
     ·rw [if_pos c1]; exact Ev.now _
     ·rw [if_neg c1]; exact Ev.now _
    ·rw [if_neg k4]
     exact Ev.now _
theorem app_some (y : List Int) (s : Int) (r : List Int) (hy : y.length ≤ 1000) (hr : r.length ≤ 1000000) :
  (if y.length < 17592186044416 then ((some (y ++ [s] : List Int)).bind fun y2 => (if y2.length + r.length < 17592186044416 then (some (y2 ++ r)) else (none))) else (none)) = some (y ++ s :: r) := by
 rw [if_pos (by omega), Option.bind_some, if_pos (by simp; omega)]
 simp
theorem rins_ev (op : S27) (i s : Int) (r : List Int) (ho : OpOk op) (h1 : -1152921504606846976 ≤ i) (h2 : i ≤ 1152921504606846976) (hr : r.length ≤ 1000000) (hrb : ∀ x ∈ r, -1152921504606846976 ≤ x ∧ x ≤ 1152921504606846976) (hr0 : 0 < r.length) :
  Ev (fun k => vinculumref13_inside.f k op.f0 op.f1 op.f2 op.f3 op.f4 op.f5 op.f6 op.f7 i s r) (inS op.f0 op.f2 op.f3 (op.f4.length : Int) op.f5 i s r) := by
 have a1 := ho.at1
 have a2 := ho.at2
 have n1 := ho.n1
 have n2 := ho.n2
 have hn := ho.nodes
 have h0 : rd r 0 = r[0]'hr0 := rd_nat r 0 hr0
 have hb0 := hrb _ (List.getElem_mem hr0)
 have e1 : wrap64 (i + (op.f4.length : Int)) = i + op.f4.length := wrap_id (by omega) (by omega)
 have e2 : wrap64 (op.f2 + (op.f4.length : Int)) = op.f2 + op.f4.length := wrap_id (by omega) (by omega)
 have e3 : wrap64 (op.f2 + op.f3) = op.f2 + op.f3 := wrap_id (by omega) (by omega)
 have e4 : wrap64 (i - 1) = i - 1 := wrap_id (by omega) (by omega)
 have e5 : wrap64 (i - 1 + op.f3) = i - 1 + op.f3 := wrap_id (by omega) (by omega)
 have e6 : wrap64 (i - (op.f4.length : Int)) = i - op.f4.length := wrap_id (by omega) (by omega)
 have e7 : wrap64 (i - op.f2) = i - op.f2 := wrap_id (by omega) (by omega)
 have e8 : wrap64 (i - op.f3) = i - op.f3 := wrap_id (by omega) (by omega)
 have e9 : wrap64 (i - op.f3 + 1) = i - op.f3 + 1 := wrap_id (by omega) (by omega)
 have e10 : wrap64 (op.f2 + rd r 0) = op.f2 + rd r 0 := wrap_id (by omega) (by omega)
 have j4 : ∀ b : Bool, Ev (fun k => vinculumref13_inside.j4 k i s r [i] b op.f0 op.f1 op.f2 op.f3 op.f4 op.f5 op.f6 op.f7) (if b = true then (op.f2 + rd r 0) :: r.drop 1 else if op.f0 = 4 then (i - 1 + op.f3) :: s :: r else i :: s :: r) := fun b => by
  refine Ev.step (f := fun _ => some (if b = true then (op.f2 + rd r 0) :: r.drop 1 else if op.f0 = 4 then (i - 1 + op.f3) :: s :: r else i :: s :: r)) (fun k => ?_) (Ev.now _)
  simp only [vinculumref13_inside.j4]
  rw [e10, e4, e5]
  by_cases c : b = true
  ·rw [if_pos c, if_pos c, if_pos (by omega), Option.bind_some, if_pos (by omega), if_pos (by simp; omega)]
   rfl
  ·rw [if_neg c, if_neg c]
   by_cases k4 : op.f0 = 4
   ·rw [if_pos k4, if_pos k4, Option.bind_some, app_some _ _ _ (by simp) hr]; rfl
   ·rw [if_neg k4, if_neg k4, app_some _ _ _ (by simp) hr]; rfl
 have j3 : ∀ b : Bool, Ev (fun k => vinculumref13_inside.j3 k i s r [i] b op.f0 op.f1 op.f2 op.f3 op.f4 op.f5 op.f6 op.f7) (if b = true then [op.f2 + op.f3] else if op.f0 = 4 ∧ i = op.f2 then (op.f2 + rd r 0) :: r.drop 1 else if op.f0 = 4 then (i - 1 + op.f3) :: s :: r else i :: s :: r) := fun b => by
  by_cases c : b = true
  ·rw [if_pos c]
   exact Ev.step (f := fun _ => some [op.f2 + op.f3]) (fun k => by simp only [vinculumref13_inside.j3]; rw [e3, if_pos c]) (Ev.now _)
  ·rw [if_neg c]
   by_cases k4 : op.f0 = 4
   ·refine Ev.step (f := fun k => vinculumref13_inside.j4 k i s r [i] (i == op.f2) op.f0 op.f1 op.f2 op.f3 op.f4 op.f5 op.f6 op.f7) (fun k => by simp only [vinculumref13_inside.j3]; rw [if_neg c, if_pos k4]) ?_
    by_cases c2 : i = op.f2
    ·rw [if_pos ⟨k4, c2⟩, show (i == op.f2) = true by simpa using c2]; exact j4 true
    ·rw [if_neg (fun h => c2 h.2), show (i == op.f2) = false by simpa using c2]; exact j4 false
   ·rw [if_neg (fun h => k4 h.1)]
    exact Ev.step (f := fun k => vinculumref13_inside.j4 k i s r [i] false op.f0 op.f1 op.f2 op.f3 op.f4 op.f5 op.f6 op.f7) (fun k => by simp only [vinculumref13_inside.j3]; rw [if_neg c, if_neg k4]) (j4 false)
 have j2 : ∀ b : Bool, Ev (fun k => vinculumref13_inside.j2 k i s r [i] b op.f0 op.f1 op.f2 op.f3 op.f4 op.f5 op.f6 op.f7) (if b = true then [op.f2] else if (op.f0 = 4 ∧ i = op.f2) ∧ s > op.f5 then [op.f2 + op.f3] else if op.f0 = 4 ∧ i = op.f2 then (op.f2 + rd r 0) :: r.drop 1 else if op.f0 = 4 then (i - 1 + op.f3) :: s :: r else i :: s :: r) := fun b => by
  by_cases c : b = true
  ·rw [if_pos c]
   exact Ev.step (f := fun _ => some [op.f2]) (fun k => by simp only [vinculumref13_inside.j2]; rw [if_pos c]) (Ev.now _)
  ·rw [if_neg c]
   by_cases k4 : op.f0 = 4
   ·by_cases c2 : i = op.f2
    ·refine Ev.step (f := fun k => vinculumref13_inside.j3 k i s r [i] (decide (s > op.f5)) op.f0 op.f1 op.f2 op.f3 op.f4 op.f5 op.f6 op.f7) (fun k => by simp only [vinculumref13_inside.j2]; rw [if_neg c, if_pos k4, if_pos c2]) ?_
     by_cases c3 : s > op.f5
     ·rw [if_pos ⟨⟨k4, c2⟩, c3⟩, decide_eq_true c3]; exact j3 true
     ·rw [if_neg (fun h => c3 h.2), decide_eq_false c3]; exact j3 false
    ·rw [if_neg (fun h => c2 h.1.2)]
     exact Ev.step (f := fun k => vinculumref13_inside.j3 k i s r [i] false op.f0 op.f1 op.f2 op.f3 op.f4 op.f5 op.f6 op.f7) (fun k => by simp only [vinculumref13_inside.j2]; rw [if_neg c, if_pos k4, if_neg c2]) (j3 false)
   ·rw [if_neg (fun h => k4 h.1.1)]
    exact Ev.step (f := fun k => vinculumref13_inside.j3 k i s r [i] false op.f0 op.f1 op.f2 op.f3 op.f4 op.f5 op.f6 op.f7) (fun k => by simp only [vinculumref13_inside.j2]; rw [if_neg c, if_neg k4]) (j3 false)
 have j1 : ∀ b : Bool, Ev (fun k => vinculumref13_inside.j1 k i s r [i] b op.f0 op.f1 op.f2 op.f3 op.f4 op.f5 op.f6 op.f7) (if b = true then op.f2 :: op.f5 :: (i - op.f2) :: s :: r else if op.f0 = 3 then (i - op.f3 + 1) :: s :: r else if (op.f0 = 4 ∧ i = op.f2) ∧ s < op.f5 then [op.f2] else if (op.f0 = 4 ∧ i = op.f2) ∧ s > op.f5 then [op.f2 + op.f3] else if op.f0 = 4 ∧ i = op.f2 then (op.f2 + rd r 0) :: r.drop 1 else if op.f0 = 4 then (i - 1 + op.f3) :: s :: r else i :: s :: r) := fun b => by
  by_cases c : b = true
  ·rw [if_pos c]
   exact Ev.step (f := fun _ => some (op.f2 :: op.f5 :: (i - op.f2) :: s :: r)) (fun k => by simp only [vinculumref13_inside.j1]; rw [if_pos c, e7, Option.bind_some, app_some _ _ _ (by simp) hr]; rfl) (Ev.now _)
  ·rw [if_neg c]
   by_cases k3 : op.f0 = 3
   ·rw [if_pos k3]
    exact Ev.step (f := fun _ => some ((i - op.f3 + 1) :: s :: r)) (fun k => by simp only [vinculumref13_inside.j1]; rw [if_neg c, if_pos k3, e8, e9, Option.bind_some, app_some _ _ _ (by simp) hr]; rfl) (Ev.now _)
   ·rw [if_neg k3]
    by_cases k4 : op.f0 = 4
    ·by_cases c2 : i = op.f2
     ·refine Ev.step (f := fun k => vinculumref13_inside.j2 k i s r [i] (decide (s < op.f5)) op.f0 op.f1 op.f2 op.f3 op.f4 op.f5 op.f6 op.f7) (fun k => by simp only [vinculumref13_inside.j1]; rw [if_neg c, if_neg k3, if_pos k4, if_pos c2]) ?_
      by_cases c3 : s < op.f5
      ·rw [if_pos ⟨⟨k4, c2⟩, c3⟩, decide_eq_true c3]; exact j2 true
      ·rw [if_neg (fun h => c3 h.2), decide_eq_false c3]; exact j2 false
     ·rw [if_neg (fun h => c2 h.1.2)]
      exact Ev.step (f := fun k => vinculumref13_inside.j2 k i s r [i] false op.f0 op.f1 op.f2 op.f3 op.f4 op.f5 op.f6 op.f7) (fun k => by simp only [vinculumref13_inside.j1]; rw [if_neg c, if_neg k3, if_pos k4, if_neg c2]) (j2 false)
    ·rw [if_neg (fun h => k4 h.1.1)]
     exact Ev.step (f := fun k => vinculumref13_inside.j2 k i s r [i] false op.f0 op.f1 op.f2 op.f3 op.f4 op.f5 op.f6 op.f7) (fun k => by simp only [vinculumref13_inside.j1]; rw [if_neg c, if_neg k3, if_neg k4]) (j2 false)
 have j0 : ∀ b : Bool, Ev (fun k => vinculumref13_inside.j0 k i s r (op.f4.length : Int) [i] b op.f0 op.f1 op.f2 op.f3 op.f4 op.f5 op.f6 op.f7) (if b = true then [op.f2] else if op.f0 = 2 then (i - op.f4.length) :: s :: r else if op.f0 = 3 ∧ i < op.f2 + op.f3 then op.f2 :: op.f5 :: (i - op.f2) :: s :: r else if op.f0 = 3 then (i - op.f3 + 1) :: s :: r else if (op.f0 = 4 ∧ i = op.f2) ∧ s < op.f5 then [op.f2] else if (op.f0 = 4 ∧ i = op.f2) ∧ s > op.f5 then [op.f2 + op.f3] else if op.f0 = 4 ∧ i = op.f2 then (op.f2 + rd r 0) :: r.drop 1 else if op.f0 = 4 then (i - 1 + op.f3) :: s :: r else i :: s :: r) := fun b => by
  by_cases c : b = true
  ·rw [if_pos c]
   exact Ev.step (f := fun _ => some [op.f2]) (fun k => by simp only [vinculumref13_inside.j0]; rw [if_pos c]) (Ev.now _)
  ·rw [if_neg c]
   by_cases k2 : op.f0 = 2
   ·rw [if_pos k2]
    exact Ev.step (f := fun _ => some ((i - op.f4.length) :: s :: r)) (fun k => by simp only [vinculumref13_inside.j0]; rw [if_neg c, if_pos k2, e6, Option.bind_some, app_some _ _ _ (by simp) hr]; rfl) (Ev.now _)
   ·rw [if_neg k2]
    by_cases k3 : op.f0 = 3
    ·refine Ev.step (f := fun k => vinculumref13_inside.j1 k i s r [i] (decide (i < op.f2 + op.f3)) op.f0 op.f1 op.f2 op.f3 op.f4 op.f5 op.f6 op.f7) (fun k => by simp only [vinculumref13_inside.j0]; rw [if_neg c, if_neg k2, if_pos k3, e3]) ?_
     by_cases c3 : i < op.f2 + op.f3
     ·rw [if_pos ⟨k3, c3⟩, decide_eq_true c3]; exact j1 true
     ·rw [if_neg (fun h => c3 h.2), decide_eq_false c3]; exact j1 false
    ·rw [if_neg (fun h => k3 h.1)]
     exact Ev.step (f := fun k => vinculumref13_inside.j1 k i s r [i] false op.f0 op.f1 op.f2 op.f3 op.f4 op.f5 op.f6 op.f7) (fun k => by simp only [vinculumref13_inside.j0]; rw [if_neg c, if_neg k2, if_neg k3]) (j1 false)
 unfold vinculumref13_inside.f inS
 rw [e1, e2]
 refine Ev.bindO (a := [i]) rfl ?_
 by_cases c1 : i < op.f2
 ·rw [if_pos c1]
  refine Ev.pos c1 ?_
  rw [app_some _ _ _ (by simp) hr]
  exact Ev.now _
 ·rw [if_neg c1]
  refine Ev.neg c1 ?_
  by_cases k1 : op.f0 = 1
  ·rw [if_pos k1]
   refine Ev.pos k1 (Ev.bindO rfl ?_)
   rw [app_some _ _ _ (by simp) hr]
   exact Ev.now _
  ·rw [if_neg k1]
   refine Ev.neg k1 ?_
   by_cases k2 : op.f0 = 2
   ·rw [if_pos k2]
    refine Ev.pos k2 ?_
    by_cases c2 : i < op.f2 + op.f4.length
    ·rw [if_pos c2, decide_eq_true c2]; exact j0 true
    ·rw [if_neg c2, decide_eq_false c2]
     have := j0 false
     rwa [if_neg (by simp), if_pos k2] at this
   ·rw [if_neg k2]
    refine Ev.neg k2 ?_
    have := j0 false
    rw [if_neg (by simp), if_neg k2] at this
    by_cases k3 : op.f0 = 3
    ·rw [if_pos k3]
     by_cases c3 : i < op.f2 + op.f3
     ·rw [if_pos c3]; rwa [if_pos ⟨k3, c3⟩] at this
     ·rw [if_neg c3]; rwa [if_neg (fun h => c3 h.2), if_pos k3] at this
    ·rw [if_neg k3]
     rw [if_neg (fun h => k3 h.1), if_neg k3] at this
     by_cases k4 : op.f0 = 4
     ·rw [if_pos k4]
      by_cases c2 : i = op.f2
      ·rw [if_pos c2]
       by_cases c3 : s < op.f5
       ·rw [if_pos c3]; rwa [if_pos ⟨⟨k4, c2⟩, c3⟩] at this
       ·rw [if_neg c3]; rw [if_neg (fun h => c3 h.2)] at this
        by_cases c4 : s > op.f5
        ·rw [if_pos c4]; rwa [if_pos ⟨⟨k4, c2⟩, c4⟩] at this
        ·rw [if_neg c4]; rwa [if_neg (fun h => c4 h.2), if_pos ⟨k4, c2⟩] at this
      ·rw [if_neg c2]; rwa [if_neg (fun h => c2 h.1.2), if_neg (fun h => c2 h.1.2), if_neg (fun h => c2 h.2), if_pos k4] at this
     ·rw [if_neg k4]; rwa [if_neg (fun h => k4 h.1.1), if_neg (fun h => k4 h.1.1), if_neg (fun h => k4 h.1), if_neg k4] at this
theorem rmap_ev (op : S27) (pos : List Int) (after : Bool) (ho : OpOk op) (hp : PosOk 1152921504606846976 1000000 pos) :
  Ev (fun k => vinculumref13_Map.f k op.f0 op.f1 op.f2 op.f3 op.f4 op.f5 op.f6 op.f7 pos after) (mapS op pos after) := by
 have hlen := hp.len
 have hrow := ho.row
 unfold vinculumref13_Map.f mapS
 refine Ev.bind (within_ev pos op.f1 (by omega)) ?_
 by_cases hb : cutB op.f1 pos = true
 ·obtain ⟨b1, b2, b3⟩ := cutB_true hb
  have hi := rd_bound hp op.f1.length b1
  have e1 : wrap64 ((op.f1.length : Int) + 1) = (op.f1.length : Int) + 1 := wrap_id (by omega) (by omega)
  have e2 : wrap64 ((op.f1.length : Int) + 2) = (op.f1.length : Int) + 2 := wrap_id (by omega) (by omega)
  refine Ev.pos hb (Ev.bindO (a := []) rfl (Ev.pos (by simp; omega) (Ev.bindO (a := op.f1) (by simp) ?_)))
  rw [if_pos hb, e1, e2]
  unfold tailS
  by_cases h1 : pos.length = op.f1.length + 1
  ·rw [if_pos h1]
   have hl : ∀ x : List Int, x = offS op.f0 op.f2 op.f3 (op.f4.length : Int) op.f5 after (rd pos (op.f1.length : Int)) → x.length ≤ 3 := by
    intro x hx
    rw [hx]
    unfold offS
    repeat' split
    all_goals simp
   refine Ev.pos (by omega) (Ev.pos (by omega) (Ev.pos (by omega) (Ev.bind (roff_ev op _ after ho hi.1 hi.2) (Ev.pos ?_ (Ev.now _)))))
   have := hl _ rfl
   omega
  ·rw [if_neg h1]
   have hs := rd_bound1 hp op.f1.length (by omega)
   have hdl : (pos.drop (op.f1.length + 2)).length = pos.length - (op.f1.length + 2) := List.length_drop
   have hl : ∀ x : List Int, x = inS op.f0 op.f2 op.f3 (op.f4.length : Int) op.f5 (rd pos (op.f1.length : Int)) (rd pos ((op.f1.length : Int) + 1)) (pos.drop (op.f1.length + 2)) → x.length ≤ 1000010 := by
    intro x hx
    rw [hx]
    unfold inS
    repeat' split
    all_goals (simp; try omega)
   have hd : pos.drop ((op.f1.length : Int) + 2 : Int).toNat = pos.drop (op.f1.length + 2) := by congr 1
   rw [hd]
   refine Ev.neg (by omega) (Ev.pos (by omega) (Ev.pos (by omega) (Ev.pos (by omega) (Ev.pos (by omega) (Ev.pos (by omega) (Ev.pos (by omega) (Ev.bind (rins_ev op _ _ _ ho hi.1 hi.2 (by omega) (drop_bound hp _) (by omega)) (Ev.pos ?_ (Ev.now _)))))))))
   have := hl _ rfl
   omega
 ·rw [if_neg hb]
  refine Ev.neg hb (Ev.bindO (a := []) rfl (Ev.pos (by simp; omega) (Ev.ret (by simp))))
/-! ### the image's numbers -/
theorem mapS_ok (op : S27) (pos : List Int) (after : Bool) {M L : Int} (ho : OpOk op) (hM : 1099511627776 ≤ M) (hp : PosOk M L pos) (hL : 0 ≤ L) : PosOk (M + 2199023255752) (L + 2) (mapS op pos after) := by
 have hlen := hp.len
 have a1 := ho.at1
 have a2 := ho.at2
 have n1 := ho.n1
 have n2 := ho.n2
 have s1 := ho.s1
 have s2 := ho.s2
 have hn := ho.nodes
 unfold mapS
 by_cases hb : cutB op.f1 pos = true
 ·rw [if_pos hb]
  obtain ⟨b1, b2, b3⟩ := cutB_true hb
  have hi := rd_bound hp op.f1.length b1
  have hrow : ∀ x ∈ op.f1, -(M + 2199023255752) ≤ x ∧ x ≤ M + 2199023255752 := fun x hx => by have := ho.rown x hx; omega
  have key : (tailS op pos after).length + op.f1.length ≤ pos.length + 2 ∧ ∀ x ∈ tailS op pos after, -(M + 2199023255752) ≤ x ∧ x ≤ M + 2199023255752 := by
   unfold tailS
   by_cases h1 : pos.length = op.f1.length + 1
   ·rw [if_pos h1]
    generalize rd pos (op.f1.length : Int) = i at hi
    unfold offS
    constructor
    ·repeat' split
     all_goals (simp; try omega)
    ·repeat' split
     all_goals (intro x hx; simp at hx; omega)
   ·rw [if_neg h1]
    have hs := rd_bound1 hp op.f1.length (by omega)
    have hdl : (pos.drop (op.f1.length + 2)).length = pos.length - (op.f1.length + 2) := List.length_drop
    have hdb := drop_bound hp (op.f1.length + 2)
    generalize rd pos ((op.f1.length : Int) + 1) = s at hs
    generalize rd pos (op.f1.length : Int) = i at hi
    generalize pos.drop (op.f1.length + 2) = r at hdl hdb
    have h0 : rd r 0 = r[0]'(by omega) := rd_nat r 0 (by omega)
    have hb0 := hdb _ (List.getElem_mem (show 0 < r.length by omega))
    rw [← h0] at hb0
    have hall : ∀ (v : Int), (-(M + 2199023255752) ≤ v ∧ v ≤ M + 2199023255752) → ∀ x ∈ v :: s :: r, -(M + 2199023255752) ≤ x ∧ x ≤ M + 2199023255752 := fun v hv x hx => by
     rcases List.mem_cons.1 hx with h | h
     ·omega
     ·rcases List.mem_cons.1 h with h | h
      ·omega
      ·have := hdb x h; omega
    unfold inS
    constructor
    ·repeat' split
     all_goals (simp; try omega)
    ·split
     ·exact hall i (by omega)
     ·split
      ·exact hall _ (by omega)
      ·split
       ·split
        ·intro x hx; simp at hx; omega
        ·exact hall _ (by omega)
       ·split
        ·split
         ·intro x hx
          rcases List.mem_cons.1 hx with h | h
          ·omega
          ·rcases List.mem_cons.1 h with h | h
           ·omega
           ·exact hall _ (by omega) x h
         ·exact hall _ (by omega)
        ·split
         ·split
          ·split
           ·intro x hx; simp at hx; omega
           ·split
            ·intro x hx; simp at hx; omega
            ·intro x hx
             rcases List.mem_cons.1 hx with h | h
             ·omega
             ·have := hdb x (List.mem_of_mem_drop h); omega
          ·exact hall _ (by omega)
         ·exact hall _ (by omega)
  refine ⟨by rw [List.length_append]; omega, fun x hx => ?_⟩
  rcases List.mem_append.1 hx with h | h
  ·exact hrow x h
  ·exact key.2 x h
 ·rw [if_neg hb]
  exact ⟨by omega, fun x hx => by have := hp.num x hx; omega⟩
theorem PosOk.mono {M L M' L' : Int} {pos : List Int} (h : PosOk M L pos) (hM : M ≤ M') (hL : L ≤ L') : PosOk M' L' pos := ⟨by have := h.len; omega, fun x hx => by have := h.num x hx; omega⟩
end Go.Proofs.Ytikgflpobacndaa.P
