/- GlueSet: the pure statement of the law GlueSet is proved: for every input its printed function answers true. No condition beyond those of the row. -/
import Derived.Test.YtojcnndkdopahaaSayGlueSet
import Derived.Test.YtojcnndkdopahaaPoD
namespace Go.Proofs.Ytojcnndkdopahaa.P
open Go.RowKit Go.Proofs.YtojcnndkdopahaaW.PrintWords Go.Proofs.YtojcnndkdopahaaW.PrintLast Go.Proofs.YtojcnndkdopahaaW.PrintMore
theorem GlueSet.pure : GlueSet.Pure := by
  intro l w hl _ _
  refine Ev.rounds (g := fun k => vinculumlaw27_GlueSet.f k l w) ?_
  unfold vinculumlaw27_GlueSet.f
  refine Ev.bind awake_ev (Ev.pos rfl ?_)
  by_cases h : (l.length : Int) > 300
  · exact Ev.pos h (Ev.now _)
  · have hl' : l.length ≤ 4398046511104 := by omega
    refine Ev.neg h (Ev.bind (set_ev l w hl') (Ev.bind (refSet_ev l w hl') (Ev.pos rfl (Ev.pos rfl (Ev.bind (same_ev _ ?_) (Ev.now _))))))
    unfold setV
    split
    · rw [setW_len]; exact hl'
    · simp
end Go.Proofs.Ytojcnndkdopahaa.P
