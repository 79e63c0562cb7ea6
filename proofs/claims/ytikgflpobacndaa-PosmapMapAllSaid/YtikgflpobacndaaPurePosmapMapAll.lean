--m
/- PosmapMapAll: the pure statement of the law PosmapMapAll is proved: for every input its printed function answers true. No condition beyond those of the row. -/
import Derived.Test.YtikgflpobacndaaSayPosmapMapAll
import Derived.Test.YtikgflpobacndaaPoD
namespace Go.Proofs.Ytikgflpobacndaa.P
open Go.RowKit Go.Proofs.YtikgflpobacndaaW.PrintWords Go.Proofs.YtikgflpobacndaaW.PrintLast Go.Proofs.YtikgflpobacndaaW.PrintMore
theorem zn_wf : wf24 ⟨0, ⟨#[]⟩, 0, []⟩ := fun n => by
 cases n with
 | zero => trivial
 | succ n =>
  simp only [wfN24]
  exact ⟨by decide, by decide, by decide, by simp, by simp⟩
theorem PosmapMapAll.pure : PosmapMapAll.Pure := by
 intro ops pos after hl hw hp hpw
 refine Ev.rounds (g := fun k => vinculumlaw13_PosmapMapAll.f k ops pos after) ?_
 unfold vinculumlaw13_PosmapMapAll.f
 refine Ev.bind awake13_ev (Ev.pos rfl (Ev.bind (few13_ev ⟨0, ⟨#[]⟩, 0, []⟩ zn_wf pos (by omega) ops (by omega) hw) ?_))
 cases hb : fewB ⟨0, ⟨#[]⟩, 0, []⟩ pos ops with
 | false => exact Ev.step (f := fun k => (vinculumlaw13_awake.f k).bind fun t => some t) (fun k => by simp only [vinculumlaw13_PosmapMapAll.j0]; rfl) (Ev.bind awake13_ev (Ev.now _))
 | true =>
  refine Ev.step (f := fun k => (posmap_MapAll.f k ops pos after).bind fun t1 => ((vinculumref13_MapAll.f k ops pos after).bind fun t2 => ((vinculumref10_Same.f k t1 t2).bind fun t3 => (some t3)))) (fun k => by simp only [vinculumlaw13_PosmapMapAll.j0]; rfl) ?_
  unfold fewB at hb
  simp only [Bool.and_eq_true, decide_eq_true_eq, List.all_eq_true] at hb
  obtain ⟨h1, h2, h3, h4⟩ := hb
  by_cases h0 : ops.length = 0
  ·have h00 : ops = [] := List.eq_nil_of_length_eq_zero h0
   subst h00
   have c1 : Ev (fun k => posmap_MapAll.f k [] pos after) pos := by
    unfold posmap_MapAll.f
    refine Ev.bindO (clone_some pos (by omega)) (Ev.step (f := fun _ => some pos) (fun k => by simp only [posmap_MapAll.l0]; rfl) (Ev.now _))
   have c2 : Ev (fun k => vinculumref13_MapAll.f k [] pos after) pos := by
    unfold vinculumref13_MapAll.f
    refine Ev.bindO (a := []) rfl (Ev.pos (by simp; omega) ?_)
    rw [List.nil_append]
    exact Ev.step (f := fun _ => some pos) (fun k => by simp only [vinculumref13_MapAll.l0]; rfl) (Ev.now _)
   exact Ev.bind c1 (Ev.bind c2 (Ev.bind (same_refl pos (by omega)) (Ev.now _)))
  ·have hok := h1 _ (List.getElem_mem (show 0 < ops.length by omega))
   have hn : nearB pos = true := by
    unfold opOkB at hok
    simp only [Bool.and_eq_true] at hok
    exact hok.2.2.2
   have hP : PosOk 1099511627776 60 pos := ⟨by omega, (nearB_iff pos).1 hn⟩
   have hO : ∀ op ∈ ops, OpOk op := fun op ho => OpOk.of (h1 op ho)
   have hlen := (mapAllS_ok ops pos after hO hP ops.length (Nat.le_refl _)).len
   rw [List.take_length] at hlen
   exact Ev.bind (mapAll_ev ops pos after hO hP h3) (Ev.bind (rmapAll_ev ops pos after hO hP h3) (Ev.bind (same_refl _ (by omega)) (Ev.now _)))
end Go.Proofs.Ytikgflpobacndaa.P
