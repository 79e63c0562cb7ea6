/- OpdictKeeps: the pure statement of the law OpdictKeeps is proved: for every input its printed function answers true. No condition beyond those of the row. -/
import Derived.Test.YtomogpiahcnmjaaSayOpdictKeeps
import Derived.Test.YtomogpiahcnmjaaPoE
namespace Go.Proofs.Ytomogpiahcnmjaa.P
open Go.RowKit Go.Proofs.YtomogpiahcnmjaaW.PrintWords Go.Proofs.YtomogpiahcnmjaaW.PrintLast Go.Proofs.YtomogpiahcnmjaaW.PrintMore
theorem OpdictKeeps.pure : OpdictKeeps.Pure := by
  intro l e t hl hw he _
  refine Ev.rounds (g := fun k => vinculumlaw08_OpdictKeeps.f k l e.f0 e.f1 e.f2 e.f3 t) ?_
  unfold vinculumlaw08_OpdictKeeps.f
  refine Ev.bindO awake_eq ?_
  refine Ev.pos rfl ?_
  refine Ev.ite (fun _ => Ev.ret rfl) (fun h => ?_)
  refine Ev.bind (with_ev l e (by omega)) ?_
  refine Ev.ite (fun h0 => ?_) (fun h0 => ?_)
  · obtain ⟨hd, hm, hf, hp, hlen⟩ := withS_ok h0
    generalize hmm : (withS l e).1 = m at *
    have hw2 := withS_there hd hm hp
    refine Ev.bind (with_ev m e (by omega)) ?_
    rw [hw2]
    refine Ev.pos rfl ?_
    refine Ev.bind (same_ev m (by omega)) ?_
    refine Ev.pos rfl ?_
    refine Ev.bindO (valid_eq m (by omega)) ?_
    refine Ev.pos ((validB_iff m).2 hd) ?_
    refine Ev.bindO (find_eq m e.f0) ?_
    rw [findS_mem hd.2.1 hm]
    refine Ev.step (f := fun k => if t.toList = e.f0.toList then some true else ((opdict_Find.f m t).bind fun bt231 => ((opdict_Find.f l t).bind fun bt235 => (some (bt231.1.toList == bt235.1.toList && (bt231.2.1 == bt235.2.1 && (bt231.2.2.1 == bt235.2.2.1 && (bt231.2.2.2 == bt235.2.2.2)))))))) (fun k => ?_) ?_
    · simp only [vinculumlaw08_OpdictKeeps.j0]
      rw [if_neg (by simp)]
    · refine Ev.ite (fun _ => Ev.now true) (fun hne => ?_)
      refine Ev.bindO (find_eq m t) ?_
      refine Ev.bindO (find_eq l t) ?_
      rw [hf t (fun h => hne (by rw [h]))]
      exact Ev.ret (by simp)
  · rw [withS_bad h0]
    exact Ev.now true
end Go.Proofs.Ytomogpiahcnmjaa.P
