--m
/- PosmapMap: the pure statement of the law PosmapMap is proved: for every input its printed function answers true. No condition beyond those of the row. -/
import Derived.Test.YtikgflpobacndaaSayPosmapMap
import Derived.Test.YtikgflpobacndaaPoE
namespace Go.Proofs.Ytikgflpobacndaa.P
open Go.RowKit Go.Proofs.YtikgflpobacndaaW.PrintWords Go.Proofs.YtikgflpobacndaaW.PrintLast Go.Proofs.YtikgflpobacndaaW.PrintMore
theorem zn_wf2 : wf24 ⟨0, ⟨#[]⟩, 0, []⟩ := fun n => by
 cases n with
 | zero => trivial
 | succ n =>
  simp only [wfN24]
  exact ⟨by decide, by decide, by decide, by simp, by simp⟩
theorem PosmapMap.pure : PosmapMap.Pure := by
 intro op pos after hw hp hpw
 refine Ev.rounds (g := fun k => vinculumlaw13_PosmapMap.f k op.f0 op.f1 op.f2 op.f3 op.f4 op.f5 op.f6 op.f7 pos after) ?_
 unfold vinculumlaw13_PosmapMap.f
 refine Ev.bind awake13_ev (Ev.pos rfl (Ev.bind (few13_ev ⟨0, ⟨#[]⟩, 0, []⟩ zn_wf2 pos (by omega) [op] (by simp) (fun o ho => by rw [List.mem_singleton] at ho; subst ho; exact hw)) ?_))
 cases hb : fewB ⟨0, ⟨#[]⟩, 0, []⟩ pos [op] with
 | false => exact Ev.step (f := fun k => (vinculumlaw13_awake.f k).bind fun t => some t) (fun k => by simp only [vinculumlaw13_PosmapMap.j0]; rfl) (Ev.bind awake13_ev (Ev.now _))
 | true =>
  unfold fewB at hb
  simp only [Bool.and_eq_true, decide_eq_true_eq, List.all_eq_true] at hb
  obtain ⟨h1, h2, h3, h4⟩ := hb
  have hok := h1 op (by simp)
  have hn : nearB pos = true := by
   unfold opOkB at hok
   simp only [Bool.and_eq_true] at hok
   exact hok.2.2.2
  have hP : PosOk 1099511627776 60 pos := ⟨by omega, (nearB_iff pos).1 hn⟩
  have hO := OpOk.of hok
  have hP2 : PosOk 1152921504606846976 1000000 pos := hP.mono (by omega) (by omega)
  have hlen := (mapS_ok op pos after hO (by omega) hP (by omega)).len
  refine Ev.step (f := fun k => (posmap_Map.f k op.f0 op.f1 op.f2 op.f3 op.f4 op.f5 op.f6 op.f7 pos after).bind fun t1 => ((vinculumref13_Map.f k op.f0 op.f1 op.f2 op.f3 op.f4 op.f5 op.f6 op.f7 pos after).bind fun t2 => ((vinculumref10_Same.f k t1 t2).bind fun t3 => (if t3 = true then ((posmap_Lost.f op.f0 op.f1 op.f2 op.f3 op.f4 op.f5 op.f6 op.f7 pos).bind fun t4 => ((vinculumref13_Lost.f k op.f0 op.f1 op.f2 op.f3 op.f4 op.f5 op.f6 op.f7 pos).bind fun t5 => (some (t4 == t5)))) else (none))))) (fun k => by simp only [vinculumlaw13_PosmapMap.j0]; rfl) ?_
  exact Ev.bind (map_ev op pos after hO hP2) (Ev.bind (rmap_ev op pos after hO hP2) (Ev.bind (same_refl _ (by omega)) (Ev.pos rfl (Ev.bindO (lost_some op pos hO hP2) (Ev.bind (rlost_ev op pos hO hP2) (Ev.ret (by simp)))))))
end Go.Proofs.Ytikgflpobacndaa.P
