/- BoxValid: the pure statement of the law BoxValid is proved: for every input its printed function answers true. No condition beyond those of the row. -/
import Derived.Test.YtnnhhkjcjkinpaaSayBoxValid
import Derived.Test.YtnnhhkjcjkinpaaPoB
namespace Go.Proofs.Ytnnhhkjcjkinpaa.P
open Go.RowKit Go.Proofs.YtnnhhkjcjkinpaaW.PrintWords Go.Proofs.YtnnhhkjcjkinpaaW.PrintLast Go.Proofs.YtnnhhkjcjkinpaaW.PrintMore
theorem cnt_some (x : S28) : box_Count.f x.f0 x.f1 x.f2 x.f3 x.f4 x.f5 x.f6 x.f7 x.f8 x.f9 x.f10 = some (cntV (flatV x 0 0)) := by
  cases x
  rfl
theorem vld_some (x : S28) : box_Valid.f x.f0 x.f1 x.f2 x.f3 x.f4 x.f5 x.f6 x.f7 x.f8 x.f9 x.f10 = some (vldB x) := by
  cases x
  rfl
theorem BoxValid.pure : BoxValid.Pure := by
  intro x hw
  refine Ev.rounds (g := fun k => vinculumlaw28_BoxValid.f k x.f0 x.f1 x.f2 x.f3 x.f4 x.f5 x.f6 x.f7 x.f8 x.f9 x.f10) ?_
  unfold vinculumlaw28_BoxValid.f
  refine Ev.bind awake_ev (Ev.pos rfl (Ev.bind (few_ev x hw 300 (by omega) (by omega)) ?_))
  by_cases h : (cntT x : Int) ≤ 300
  · refine Ev.pos (by simpa using h) ?_
    have hc : cntT x ≤ 1000000 := by omega
    refine Ev.bindO (vld_some x) (Ev.bind (refValid_ev x hw hc) (Ev.pos (by simp) (Ev.bindO (cnt_some x) (Ev.bind (count_ev x hc) (Ev.ret ?_)))))
    rw [cntV_len _ (show (flatV x 0 0).length ≤ 1000000 from hc)]
    simp [cntT]
  · exact Ev.neg (by simpa using h) (Ev.now _)
end Go.Proofs.Ytnnhhkjcjkinpaa.P
