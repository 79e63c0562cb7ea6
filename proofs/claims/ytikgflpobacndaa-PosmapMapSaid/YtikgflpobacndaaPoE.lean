--m
/- Lost of layer 13 and of its reference. No program in sight. -/
import Derived.Test.YtikgflpobacndaaPoD
import Derived.Test.YtikgflpobacndaaP0
import Derived.Test.YtikgflpobacndaaP3
import Derived.Test.YtikgflpobacndaaP49
import Derived.Test.YtikgflpobacndaaP58
namespace Go.Proofs.Ytikgflpobacndaa.P
open Go.RowKit Go.Proofs.YtikgflpobacndaaW.PrintWords Go.Proofs.YtikgflpobacndaaW.PrintLast Go.Proofs.YtikgflpobacndaaW.PrintMore
set_option linter.unusedSimpArgs false
set_option linter.unusedVariables false
theorem lost_some (op : S27) (pos : List Int) (ho : OpOk op) (hp : PosOk 1152921504606846976 1000000 pos) :
  posmap_Lost.f op.f0 op.f1 op.f2 op.f3 op.f4 op.f5 op.f6 op.f7 pos = some (lostS op pos) := by
 have hlen := hp.len
 have hrow := ho.row
 have a1 := ho.at1
 have a2 := ho.at2
 have hn := ho.nodes
 have hcut : posmap_cut.f op.f0 op.f1 op.f2 op.f3 op.f4 op.f5 op.f6 op.f7 pos = some (if cutB op.f1 pos = true then (op.f0, op.f1, op.f2, op.f3, op.f4, op.f5, op.f6, op.f7, rd pos (op.f1.length : Int), if pos.length = op.f1.length + 1 then 0 else rd pos ((op.f1.length : Int) + 1), pos.drop (op.f1.length + 2), true) else (0, [], 0, 0, [], 0, ⟨#[]⟩, ⟨#[]⟩, 0, 0, [], false)) := by
  unfold posmap_cut.f
  rw [if_pos ⟨by omega, by omega⟩]
 unfold posmap_Lost.f lostS
 rw [hcut, Option.bind_some]
 by_cases hb : cutB op.f1 pos = true
 ·rw [if_pos hb, if_pos hb]
  obtain ⟨b1, b2, b3⟩ := cutB_true hb
  have hrl : (pos.drop (op.f1.length + 2)).length = pos.length - (op.f1.length + 2) := List.length_drop
  have e1 : wrap64 (op.f2 + (op.f4.length : Int)) = op.f2 + op.f4.length := wrap_id (by omega) (by omega)
  dsimp only
  rw [offset_some, e1, if_pos rfl]
  simp only [Option.bind_some]
  by_cases k2 : op.f0 = 2
  ·rw [if_pos k2, if_pos k2]
   by_cases h1 : pos.length = op.f1.length + 1
   ·simp only [if_pos h1]; rw [decide_eq_true (show (pos.drop (op.f1.length + 2)).length = 0 by omega)]
    by_cases c1 : rd pos (op.f1.length : Int) ≥ op.f2
    ·rw [if_pos c1]
     by_cases c2 : rd pos (op.f1.length : Int) < op.f2 + op.f4.length
     ·rw [if_pos c2, if_pos rfl, decide_eq_true c2, Bool.and_true]
     ·rw [if_neg c2, decide_eq_false c2, Bool.and_false]
    ·rw [if_neg c1, decide_eq_false (by omega)]; rfl
   ·simp only [if_neg h1]; rw [decide_eq_false (show ¬ (pos.drop (op.f1.length + 2)).length = 0 by omega)]
    by_cases c1 : rd pos (op.f1.length : Int) ≥ op.f2
    ·rw [if_pos c1, decide_eq_true c1]
     by_cases c2 : rd pos (op.f1.length : Int) < op.f2 + op.f4.length
     ·rw [if_pos c2, if_neg (by simp), decide_eq_true c2]; rfl
     ·rw [if_neg c2, decide_eq_false c2]; rfl
    ·rw [if_neg c1, decide_eq_false c1]; rfl
  ·rw [if_neg k2, if_neg k2]
   by_cases k4 : op.f0 = 4
   ·rw [if_pos k4, if_pos k4]
    by_cases h1 : pos.length = op.f1.length + 1
    ·simp only [if_pos h1]; rw [decide_eq_true (show (pos.drop (op.f1.length + 2)).length = 0 by omega), if_pos rfl]
    ·simp only [if_neg h1]; rw [decide_eq_false (show ¬ (pos.drop (op.f1.length + 2)).length = 0 by omega), if_neg (by simp)]
     by_cases c1 : rd pos (op.f1.length : Int) = op.f2
     ·rw [if_pos c1, decide_eq_true c1]; rfl
     ·rw [if_neg c1, decide_eq_false c1]; rfl
   ·rw [if_neg k4, if_neg k4]
 ·rw [if_neg hb, if_neg hb, if_neg (by simp)]
theorem rlost_ev (op : S27) (pos : List Int) (ho : OpOk op) (hp : PosOk 1152921504606846976 1000000 pos) :
  Ev (fun k => vinculumref13_Lost.f k op.f0 op.f1 op.f2 op.f3 op.f4 op.f5 op.f6 op.f7 pos) (lostS op pos) := by
 have hlen := hp.len
 have hrow := ho.row
 have a1 := ho.at1
 have a2 := ho.at2
 have hn := ho.nodes
 have e1 : wrap64 (op.f2 + (op.f4.length : Int)) = op.f2 + op.f4.length := wrap_id (by omega) (by omega)
 unfold vinculumref13_Lost.f lostS
 refine Ev.bind (within_ev pos op.f1 (by omega)) ?_
 by_cases hb : cutB op.f1 pos = true
 ·obtain ⟨b1, b2, b3⟩ := cutB_true hb
  have e2 : wrap64 ((op.f1.length : Int) + 1) = (op.f1.length : Int) + 1 := wrap_id (by omega) (by omega)
  rw [e1, e2]
  refine Ev.pos hb (Ev.pos (by omega) (Ev.pos (by omega) ?_))
  rw [if_pos hb]
  generalize rd pos (op.f1.length : Int) = i
  generalize rd pos ((op.f1.length : Int) + 1) = s
  refine Ev.ite (fun k2 => ?_) (fun k2 => ?_)
  ·rw [if_pos k2]
   refine Ev.ite (fun h1 => ?_) (fun h1 => ?_)
   ·rw [if_pos (show pos.length = op.f1.length + 1 by omega)]
    refine Ev.ite (fun c1 => ?_) (fun c1 => ?_)
    ·rw [decide_eq_true c1, Bool.true_and]; exact Ev.now _
    ·rw [decide_eq_false c1, Bool.false_and]; exact Ev.now _
   ·rw [if_neg (show ¬ pos.length = op.f1.length + 1 by omega)]
    refine Ev.ite (fun c1 => ?_) (fun c1 => ?_)
    ·rw [decide_eq_true c1, Bool.true_and]; exact Ev.now _
    ·rw [decide_eq_false c1, Bool.false_and]; exact Ev.now _
  ·rw [if_neg k2]
   refine Ev.ite (fun k4 => ?_) (fun k4 => ?_)
   ·rw [if_pos k4]
    refine Ev.ite (fun h1 => ?_) (fun h1 => ?_)
    ·rw [if_neg (show ¬ pos.length = op.f1.length + 1 by omega)]
     refine Ev.ite (fun c1 => ?_) (fun c1 => ?_)
     ·rw [decide_eq_true c1, Bool.true_and]
      exact Ev.pos (by omega) (Ev.pos (by omega) (Ev.now _))
     ·rw [decide_eq_false c1, Bool.false_and]; exact Ev.now _
    ·rw [if_pos (show pos.length = op.f1.length + 1 by omega)]; exact Ev.now _
   ·rw [if_neg k4]; exact Ev.now _
 ·refine Ev.neg hb ?_
  rw [if_neg hb]
  exact Ev.now _
end Go.Proofs.Ytikgflpobacndaa.P
