/- GlueBadness: the pure statement of the law GlueBadness is proved: for every input its printed function answers true. No condition beyond those of the row. -/
import Derived.Test.YtojcnndkdopahaaSayGlueBadness
import Derived.Test.YtojcnndkdopahaaPoD
namespace Go.Proofs.Ytojcnndkdopahaa.P
open Go.RowKit Go.Proofs.YtojcnndkdopahaaW.PrintWords Go.Proofs.YtojcnndkdopahaaW.PrintLast Go.Proofs.YtojcnndkdopahaaW.PrintMore
theorem GlueBadness.pure : GlueBadness.Pure := by
  intro l w hl _ _
  refine Ev.rounds (g := fun k => vinculumlaw27_GlueBadness.f k l w) ?_
  unfold vinculumlaw27_GlueBadness.f
  refine Ev.bind awake_ev (Ev.pos rfl ?_)
  by_cases h : (l.length : Int) > 300
  · exact Ev.pos h (Ev.now _)
  · have hl' : l.length ≤ 4398046511104 := by omega
    exact Ev.neg h (Ev.bind (bad_ev l w hl') (Ev.bind (refBad_ev l w hl') (Ev.pos rfl (Ev.ret (by simp)))))
end Go.Proofs.Ytojcnndkdopahaa.P
