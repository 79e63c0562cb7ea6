/- BoxEqual: the pure statement of the law BoxEqual is proved: for every input its printed function answers true. No condition beyond those of the row. -/
import Derived.Test.YtnnhhkjcjkinpaaSayBoxEqual
import Derived.Test.YtnnhhkjcjkinpaaPoC
namespace Go.Proofs.Ytnnhhkjcjkinpaa.P
open Go.RowKit Go.Proofs.YtnnhhkjcjkinpaaW.PrintWords Go.Proofs.YtnnhhkjcjkinpaaW.PrintLast Go.Proofs.YtnnhhkjcjkinpaaW.PrintMore
theorem eql_some (x y : S28) : box_Equal.f x.f0 x.f1 x.f2 x.f3 x.f4 x.f5 x.f6 x.f7 x.f8 x.f9 x.f10 y.f0 y.f1 y.f2 y.f3 y.f4 y.f5 y.f6 y.f7 y.f8 y.f9 y.f10 = some (eqB x y) := by
  cases x
  cases y
  rfl
theorem awake_eq : Ev (fun k => vinculumlaw28_awake.f k) true := Ev.of (fun k => vinculumlaw28_awake.mono k) (k := 10) (by kernel_rfl)
theorem BoxEqual.pure : BoxEqual.Pure := by
  intro x y hw hw2
  refine Ev.rounds (g := fun k => vinculumlaw28_BoxEqual.f k x.f0 x.f1 x.f2 x.f3 x.f4 x.f5 x.f6 x.f7 x.f8 x.f9 x.f10 y.f0 y.f1 y.f2 y.f3 y.f4 y.f5 y.f6 y.f7 y.f8 y.f9 y.f10) ?_
  unfold vinculumlaw28_BoxEqual.f
  refine Ev.bind awake_eq (Ev.pos rfl (Ev.bind (few_ev x hw 300 (by omega) (by omega)) ?_))
  by_cases h : (cntT x : Int) ≤ 300
  · refine Ev.pos (by simpa using h) (Ev.bind (few_ev y hw2 300 (by omega) (by omega)) ?_)
    by_cases h2 : (cntT y : Int) ≤ 300
    · refine Ev.pos (by simpa using h2) (Ev.bindO (eql_some x y) (Ev.bind (refEqual_ev x y hw) (Ev.pos (by simp) (Ev.bindO (eql_some x x) (Ev.ret (eqB_refl x))))))
    · exact Ev.neg (by simpa using h2) (Ev.now _)
  · exact Ev.neg (by simpa using h) (Ev.now _)
end Go.Proofs.Ytnnhhkjcjkinpaa.P
