--m
/- Map, MapAll and Lost of layer 13, and of its reference: what they answer. No program in sight. -/
import Derived.Test.YtikgflpobacndaaPoB
import Derived.Test.YtikgflpobacndaaP0
import Derived.Test.YtikgflpobacndaaP1
import Derived.Test.YtikgflpobacndaaP12
import Derived.Test.YtikgflpobacndaaP3
import Derived.Test.YtikgflpobacndaaP4
namespace Go.Proofs.Ytikgflpobacndaa.P
open Go.RowKit Go.Proofs.YtikgflpobacndaaW.PrintWords Go.Proofs.YtikgflpobacndaaW.PrintLast Go.Proofs.YtikgflpobacndaaW.PrintMore
set_option linter.unusedSimpArgs false
set_option linter.unusedVariables false
/-- The image of an offset. -/
def offS (K at_ n kn slot : Int) (after : Bool) (o : Int) : List Int :=
 if K = 1 then (if o > at_ ∨ (o = at_ ∧ after = true) then [o + kn] else [o])
 else if K = 2 then (if o > at_ ∧ o < at_ + kn then [at_] else if o > at_ then [o - kn] else [o])
 else if K = 3 then (if o > at_ ∧ o < at_ + n then [at_, slot, o - at_] else if o > at_ then [o - n + 1] else if o = at_ ∧ n = 0 ∧ after = true then [at_ + 1] else [o])
 else if K = 4 then (if o > at_ then [o - 1 + n] else [o])
 else [o]
/-- The image of a position inside the item i, in the slot s. -/
def inS (K at_ n kn slot : Int) (i s : Int) (r : List Int) : List Int :=
 if i < at_ then i :: s :: r
 else if K = 1 then (i + kn) :: s :: r
 else if K = 2 then (if i < at_ + kn then [at_] else (i - kn) :: s :: r)
 else if K = 3 then (if i < at_ + n then at_ :: slot :: (i - at_) :: s :: r else (i - n + 1) :: s :: r)
 else if K = 4 then (if i = at_ then (if s < slot then [at_] else if s > slot then [at_ + n] else (at_ + rd r 0) :: r.drop 1) else (i - 1 + n) :: s :: r)
 else i :: s :: r
def tailS (op : S27) (pos : List Int) (after : Bool) : List Int :=
 if pos.length = op.f1.length + 1 then offS op.f0 op.f2 op.f3 (op.f4.length : Int) op.f5 after (rd pos (op.f1.length : Int)) else inS op.f0 op.f2 op.f3 (op.f4.length : Int) op.f5 (rd pos (op.f1.length : Int)) (rd pos ((op.f1.length : Int) + 1)) (pos.drop (op.f1.length + 2))
def mapS (op : S27) (pos : List Int) (after : Bool) : List Int := if cutB op.f1 pos = true then op.f1 ++ tailS op pos after else pos
/-- Is the place of a position taken away? -/
def lostS (op : S27) (pos : List Int) : Bool :=
 if cutB op.f1 pos = true then
  (if op.f0 = 2 then (if pos.length = op.f1.length + 1 then decide (rd pos (op.f1.length : Int) > op.f2) && decide (rd pos (op.f1.length : Int) < op.f2 + op.f4.length) else decide (rd pos (op.f1.length : Int) ≥ op.f2) && decide (rd pos (op.f1.length : Int) < op.f2 + op.f4.length))
  else if op.f0 = 4 then (if pos.length = op.f1.length + 1 then false else decide (rd pos (op.f1.length : Int) = op.f2) && (rd pos ((op.f1.length : Int) + 1) != op.f5))
  else false)
 else false
theorem cutB_true {row pos : List Int} (h : cutB row pos = true) : row.length < pos.length ∧ ¬ pos.length = row.length + 2 ∧ pos.take row.length = row := by simpa [cutB] using h
/-- The numbers of an operation are small. -/
structure OpOk (op : S27) : Prop where
 at1 : -1099511627776 ≤ op.f2
 at2 : op.f2 ≤ 1099511627776
 n1 : -1099511627776 ≤ op.f3
 n2 : op.f3 ≤ 1099511627776
 s1 : -1099511627776 ≤ op.f5
 s2 : op.f5 ≤ 1099511627776
 row : op.f1.length ≤ 60
 rown : ∀ x ∈ op.f1, -1099511627776 ≤ x ∧ x ≤ 1099511627776
 nodes : op.f4.length ≤ 100
structure PosOk (M L : Int) (pos : List Int) : Prop where
 len : (pos.length : Int) ≤ L
 num : ∀ x ∈ pos, -M ≤ x ∧ x ≤ M
theorem OpOk.of {op : S27} {pos : List Int} (h : opOkB pos op = true) : OpOk op := by
 unfold opOkB opFewB at h
 simp only [Bool.and_eq_true, decide_eq_true_eq] at h
 obtain ⟨⟨h1, h2⟩, h3, h4, _⟩ := h
 have h3' := (nearB_iff _).1 h3
 have hc := cN_eq (rowN op.f4)
 have hl := cNK_len op.f4
 have hr : (rowN op.f4).f3 = op.f4 := rfl
 rw [hr] at hc
 have a := h3' op.f2 (by simp)
 have b := h3' op.f3 (by simp)
 have c := h3' op.f5 (by simp)
 exact ⟨a.1, a.2, b.1, b.2, c.1, c.2, h2, (nearB_iff _).1 h4, by omega⟩
theorem rd_bound {M L : Int} {pos : List Int} (h : PosOk M L pos) (i : Nat) (hi : i < pos.length) : -M ≤ rd pos (i : Int) ∧ rd pos (i : Int) ≤ M := by
 rw [rd_nat pos i hi]
 exact h.num _ (List.getElem_mem hi)
theorem rd_bound1 {M L : Int} {pos : List Int} (h : PosOk M L pos) (i : Nat) (hi : i + 1 < pos.length) : -M ≤ rd pos ((i : Int) + 1) ∧ rd pos ((i : Int) + 1) ≤ M := by
 have := rd_bound h (i + 1) hi
 rwa [show ((i + 1 : Nat) : Int) = (i : Int) + 1 by omega] at this
theorem drop_bound {M L : Int} {pos : List Int} (h : PosOk M L pos) (i : Nat) : ∀ x ∈ pos.drop i, -M ≤ x ∧ x ≤ M := fun x hx => h.num x (List.mem_of_mem_drop hx)
theorem pos_split {row pos : List Int} (h : cutB row pos = true) : pos = row ++ (if pos.length = row.length + 1 then [rd pos (row.length : Int)] else rd pos (row.length : Int) :: rd pos ((row.length : Int) + 1) :: pos.drop (row.length + 2)) := by
 obtain ⟨b1, b2, b3⟩ := cutB_true h
 have e0 : pos = pos.take row.length ++ pos.drop row.length := (List.take_append_drop _ _).symm
 rw [b3, List.drop_eq_getElem_cons b1, ← rd_nat pos row.length b1] at e0
 by_cases h1 : pos.length = row.length + 1
 ·rw [if_pos h1]
  rw [List.drop_eq_nil_of_le (by omega)] at e0
  exact e0
 ·rw [if_neg h1]
  have h2 : row.length + 1 < pos.length := by omega
  rw [List.drop_eq_getElem_cons h2, ← rd_nat pos (row.length + 1) h2, show ((row.length + 1 : Nat) : Int) = (row.length : Int) + 1 by omega] at e0
  exact e0
/-! ### the program -/
theorem map_ev (op : S27) (pos : List Int) (after : Bool) (ho : OpOk op) (hp : PosOk 1152921504606846976 1000000 pos) :
  Ev (fun k => posmap_Map.f k op.f0 op.f1 op.f2 op.f3 op.f4 op.f5 op.f6 op.f7 pos after) (mapS op pos after) := by
 have hlen := hp.len
 have hrow := ho.row
 have hcut : posmap_cut.f op.f0 op.f1 op.f2 op.f3 op.f4 op.f5 op.f6 op.f7 pos = some (if cutB op.f1 pos = true then (op.f0, op.f1, op.f2, op.f3, op.f4, op.f5, op.f6, op.f7, rd pos (op.f1.length : Int), if pos.length = op.f1.length + 1 then 0 else rd pos ((op.f1.length : Int) + 1), pos.drop (op.f1.length + 2), true) else (0, [], 0, 0, [], 0, ⟨#[]⟩, ⟨#[]⟩, 0, 0, [], false)) := by
  unfold posmap_cut.f
  rw [if_pos ⟨by omega, by omega⟩]
 have hcl : slices_Clone_int_int.f pos = some pos := clone_some pos (by omega)
 unfold posmap_Map.f mapS
 refine Ev.bindO hcut ?_
 by_cases hb : cutB op.f1 pos = true
 ·rw [if_pos hb, if_pos hb]
  obtain ⟨b1, b2, b3⟩ := cutB_true hb
  dsimp only
  have hi := rd_bound hp op.f1.length b1
  generalize hiv : rd pos (op.f1.length : Int) = i at hi
  generalize hsv : (if pos.length = op.f1.length + 1 then 0 else rd pos ((op.f1.length : Int) + 1)) = s
  have hrl : (pos.drop (op.f1.length + 2)).length = pos.length - (op.f1.length + 2) := List.length_drop
  have hrb := drop_bound hp (op.f1.length + 2)
  have hrr : (pos.drop (op.f1.length + 2)).length = 0 ↔ pos.length = op.f1.length + 1 := by rw [hrl]; omega
  have ht : tailS op pos after = if (pos.drop (op.f1.length + 2)).length = 0 then offS op.f0 op.f2 op.f3 (op.f4.length : Int) op.f5 after i else inS op.f0 op.f2 op.f3 (op.f4.length : Int) op.f5 i s (pos.drop (op.f1.length + 2)) := by
   unfold tailS
   rw [hiv]
   by_cases h1 : pos.length = op.f1.length + 1
   ·rw [if_pos h1, if_pos (hrr.2 h1)]
   ·rw [if_neg h1, if_neg (fun e => h1 (hrr.1 e))]
    rw [if_neg h1] at hsv
    rw [hsv]
  rw [ht]
  have hps : pos = op.f1 ++ (if (pos.drop (op.f1.length + 2)).length = 0 then [i] else i :: s :: pos.drop (op.f1.length + 2)) := by
   have := pos_split hb
   rw [hiv] at this
   by_cases h1 : pos.length = op.f1.length + 1
   ·rw [if_pos h1] at this; rw [if_pos (hrr.2 h1)]; exact this
   ·rw [if_neg h1] at this hsv; rw [if_neg (fun e => h1 (hrr.1 e)), ← hsv]; exact this
  generalize pos.drop (op.f1.length + 2) = rest at hrl hrb hrr hps ⊢
  have a1 := ho.at1
  have a2 := ho.at2
  have n1 := ho.n1
  have n2 := ho.n2
  have hn := ho.nodes
  refine Ev.pos rfl ?_
  refine Ev.ite (fun hK => ?_) (fun hK1 => ?_)
  ·refine Ev.bind (insert_ev op.f0 op.f1 op.f2 op.f3 op.f4 op.f5 op.f6 op.f7 i s rest after (by omega) (by omega) (by omega) (by omega) (by omega)) (Ev.ret ?_)
   unfold mvS offS inS
   rw [if_pos hK, if_pos hK]
   congr 1
   by_cases c : rest.length = 0
   ·rw [if_pos c, if_pos c]
    by_cases c1 : i > op.f2 ∨ (i = op.f2 ∧ after = true)
    ·have hn1 : ¬ (i < op.f2 ∨ (rest.length = 0 ∧ i = op.f2 ∧ after = false)) := by
      intro h
      rcases h with h | ⟨_, _, h2⟩
      ·rcases c1 with c1 | ⟨c1, _⟩ <;> omega
      ·rcases c1 with c1 | ⟨_, c2⟩
       ·omega
       ·rw [h2] at c2; cases c2
     rw [if_pos c1, if_neg hn1]
    ·rw [if_neg c1, if_pos]
     by_cases c2 : i < op.f2
     ·exact .inl c2
     ·refine .inr ⟨c, by omega, ?_⟩
      cases after with
      | true => exact absurd (.inr ⟨by omega, rfl⟩) c1
      | false => rfl
   ·rw [if_neg c, if_neg c]
    by_cases c1 : i < op.f2
    ·rw [if_pos (.inl c1), if_pos c1]
    ·rw [if_neg (by omega), if_neg c1]
  ·refine Ev.ite (fun hK => ?_) (fun hK2 => ?_)
   ·refine Ev.bind (remove_ev op.f0 op.f1 op.f2 op.f3 op.f4 op.f5 op.f6 op.f7 i s rest (by omega) (by omega) (by omega) (by omega) (by omega) (by omega) (by omega)) (Ev.ret ?_)
    unfold mvS offS inS
    rw [if_neg hK1, if_pos hK, if_neg hK1, if_pos hK]
    by_cases c : rest.length = 0
    ·simp only [c, if_true, true_and]
     by_cases c1 : i < op.f2 ∨ i = op.f2
     ·rw [if_pos c1, if_neg (by omega), if_neg (by omega)]
     ·rw [if_neg c1]
      by_cases c2 : i < op.f2 + op.f4.length
      ·rw [if_pos c2, if_pos ⟨by omega, c2⟩]
      ·rw [if_neg c2, if_neg (by omega), if_pos (by omega)]
    ·simp only [c, if_false, false_and, or_false]
     by_cases c1 : i < op.f2
     ·rw [if_pos c1, if_pos c1]
     ·rw [if_neg c1, if_neg c1]
      by_cases c2 : i < op.f2 + op.f4.length
      ·rw [if_pos c2, if_pos c2]
      ·rw [if_neg c2, if_neg c2]
   ·refine Ev.ite (fun hK => ?_) (fun hK3 => ?_)
    ·refine Ev.bind (wrap_ev op.f0 op.f1 op.f2 op.f3 op.f4 op.f5 op.f6 op.f7 i s rest after (by omega) (by omega) (by omega) (by omega) (by omega) (by omega) (by omega) (by omega)) (Ev.ret ?_)
     unfold mvS offS inS
     rw [if_neg hK1, if_neg hK2, if_pos hK, if_neg hK1, if_neg hK2, if_pos hK]
     by_cases c : rest.length = 0
     ·simp only [c, if_true, true_and]
      by_cases c1 : i = op.f2 ∧ op.f3 = 0 ∧ after = true
      ·rw [if_pos c1, if_neg (by omega), if_neg (by omega), if_pos c1]
      ·rw [if_neg c1]
       by_cases c2 : i < op.f2 ∨ i = op.f2
       ·rw [if_pos c2, if_neg (by omega), if_neg (by omega), if_neg c1]
       ·rw [if_neg c2]
        by_cases c3 : i < op.f2 + op.f3
        ·rw [if_pos c3, if_pos ⟨by omega, c3⟩]
        ·rw [if_neg c3, if_neg (by omega), if_pos (by omega)]
     ·simp only [c, if_false, false_and, or_false]
      by_cases c1 : i < op.f2
      ·rw [if_pos c1, if_pos c1]
      ·rw [if_neg c1, if_neg c1]
       by_cases c2 : i < op.f2 + op.f3
       ·rw [if_pos c2, if_pos c2]
       ·rw [if_neg c2, if_neg c2]
    ·refine Ev.ite (fun hK => ?_) (fun hK4 => ?_)
     ·refine Ev.bind (unwrap_ev op.f0 op.f1 op.f2 op.f3 op.f4 op.f5 op.f6 op.f7 i s rest (by omega) (by omega) (by omega) (by omega) (by omega) (by omega) (by omega) (by omega) hrb) (Ev.ret ?_)
      unfold mvS offS inS
      rw [if_neg hK1, if_neg hK2, if_neg hK3, if_pos hK, if_neg hK1, if_neg hK2, if_neg hK3, if_pos hK]
      by_cases c : rest.length = 0
      ·simp only [c, if_true, true_and, true_or]
       by_cases c1 : i < op.f2 ∨ i = op.f2
       ·rw [if_pos c1, if_neg (by omega)]
       ·rw [if_neg c1, if_pos (by omega)]
      ·simp only [c, if_false, false_and, or_false, false_or]
       by_cases c1 : i < op.f2
       ·rw [if_pos c1, if_pos c1]
       ·rw [if_neg c1, if_neg c1]
        by_cases c2 : i = op.f2
        ·rw [if_neg (by omega), if_pos c2]
         by_cases c3 : s < op.f5
         ·rw [if_pos c3, if_pos c3]
         ·rw [if_neg c3, if_neg c3]
          by_cases c4 : s > op.f5
          ·rw [if_pos c4, if_pos c4]
          ·rw [if_neg c4, if_neg c4]
        ·rw [if_pos (by omega), if_neg c2]
     ·refine Ev.bindO hcl (Ev.ret ?_)
      unfold offS inS
      rw [if_neg hK1, if_neg hK2, if_neg hK3, if_neg hK4, if_neg hK1, if_neg hK2, if_neg hK3, if_neg hK4, ite_self]
      exact hps
 ·rw [if_neg hb, if_neg hb]
  exact Ev.neg (by simp) (Ev.bindO hcl (Ev.now _))
end Go.Proofs.Ytikgflpobacndaa.P
