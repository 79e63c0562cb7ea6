/- GlueMeasures: the pure statement of the law GlueMeasures is proved: for every input its printed function answers true. No condition beyond those of the row. -/
import Derived.Test.YtojcnndkdopahaaSayGlueMeasures
import Derived.Test.YtojcnndkdopahaaPoD
namespace Go.Proofs.Ytojcnndkdopahaa.P
open Go.RowKit Go.Proofs.YtojcnndkdopahaaW.PrintWords Go.Proofs.YtojcnndkdopahaaW.PrintLast Go.Proofs.YtojcnndkdopahaaW.PrintMore
theorem GlueMeasures.pure : GlueMeasures.Pure := by
  intro l o hl _ _
  refine Ev.rounds (g := fun k => vinculumlaw27_GlueMeasures.f k l o) ?_
  unfold vinculumlaw27_GlueMeasures.f
  refine Ev.bind awake_ev (Ev.pos rfl ?_)
  by_cases h : (l.length : Int) > 300
  · exact Ev.pos h (Ev.now _)
  · have hl' : l.length ≤ 4398046511104 := by omega
    exact Ev.neg h (Ev.bind (valid_ev l hl') (Ev.bind (refValid_ev l hl') (Ev.pos (by simp) (Ev.bind (natural_ev l hl') (Ev.bind (refNatural_ev l hl') (Ev.pos rfl (Ev.bind (stretch_ev l o hl') (Ev.bind (refStretch_ev l o hl') (Ev.pos rfl (Ev.bind (shrink_ev l hl') (Ev.bind (refShrink_ev l hl') (Ev.ret (by simp)))))))))))))
end Go.Proofs.Ytojcnndkdopahaa.P
