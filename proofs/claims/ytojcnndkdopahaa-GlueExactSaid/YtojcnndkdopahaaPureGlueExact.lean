/- GlueExact: the pure statement of the law GlueExact is proved: for every input its printed function answers true. No condition beyond those of the row. -/
import Derived.Test.YtojcnndkdopahaaSayGlueExact
import Derived.Test.YtojcnndkdopahaaPoE
namespace Go.Proofs.Ytojcnndkdopahaa.P
open Go.RowKit Go.Proofs.YtojcnndkdopahaaW.PrintWords Go.Proofs.YtojcnndkdopahaaW.PrintLast Go.Proofs.YtojcnndkdopahaaW.PrintMore
theorem GlueExact.pure : GlueExact.Pure := by
  intro l w hl _ _
  have hl' : l.length ≤ 4398046511104 := by omega
  refine Ev.rounds (g := fun k => vinculumlaw27_GlueExact.f k l w) ?_
  unfold vinculumlaw27_GlueExact.f
  refine Ev.bind awake_ev (Ev.pos rfl (Ev.bind (right_ev l w hl') ?_))
  by_cases h : errV l w = 0
  · refine Ev.pos (by simpa using h) (Ev.bind (set_ev l w hl') ?_)
    have hv := (errV_ok h).1
    have hlen := validB_len hv
    have hb := excV_bound h
    unfold setV
    rw [if_pos h]
    refine Ev.pos rfl ?_
    have hne : (((setW l w).length : Int) != (l.length : Int)) = false := by rw [setW_len]; simp
    simp only [hne]
    refine Ev.step (f := fun k => vinculumlaw27_GlueExact.l0 k l w (setW l w) (setR l w) (setR l w) 0) (fun k => by simp [vinculumlaw27_GlueExact.j0]) ?_
    have hsr := shr_nonneg hv
    have hR : -4294967296 ≤ setR l w ∧ setR l w ≤ 4294967296 := by unfold setR; (repeat' split) <;> omega
    have key := ev_upE (fun k i s => vinculumlaw27_GlueExact.l0 k l w (setW l w) (setR l w) s i) l.length (fun _ _ => true) (fun i s => s = setR l w + posV l w i)
      (fun s hI => by
        simp only [vinculumlaw27_GlueExact.l0]
        refine Ev.neg (by rw [setW_len]; omega) ?_
        rw [hI, posV_end h]
        refine Ev.pos rfl ?_
        by_cases hr : setR l w ≤ 0
        · exact Ev.pos hr (Ev.now _)
        · refine Ev.neg hr (Ev.bind (refOrder_ev l hv) (Ev.ret (decide_eq_true ?_)))
          unfold setR at hr
          by_cases hx : 0 < excV l w
          · simp only [hx, if_true] at hr
            by_cases ho : ordV l < 0
            · exact ho
            · simp only [ho, if_false] at hr; omega
          · simp only [hx, if_false] at hr; omega)
      (fun i s hi hI => .inr ⟨setR l w + posV l w (i + 1), rfl, fun r hr => by
        have hp1 := posV_bound h (i := i) (by omega)
        have hp2 := posV_bound h (i := i + 1) (by omega)
        have hw := rd_setW l w i hi
        have hs : wrap64 (s + rd (setW l w) (i : Int)) = setR l w + posV l w (i + 1) := by rw [hI, hw, wrap_id (by omega) (by omega)]; omega
        simp only [vinculumlaw27_GlueExact.l0]
        refine Ev.pos (by rw [setW_len]; omega) ?_
        by_cases hneg : setR l w < 0
        · refine Ev.pos hneg (Ev.pos (by omega) (Ev.pos (by omega) (Ev.pos ?_ ?_)))
          · rw [rdT36_nat l i hi]
            have hB := vB_spec (validB_at hv i hi)
            rw [wrap_id (by omega) (by omega)]
            have ha := at0_lt (q := (·.f0)) hi
            have hc := at0_lt (q := (·.f2)) hi
            rw [← ha, ← hc]
            rcases diff_cases h hi with ⟨h1, _, h2, h3⟩ | ⟨h1, _, _, h2, h3⟩ | ⟨h1, ht, hs2, h2, h3⟩ | ⟨h1, ht, h2, h3⟩
            · omega
            · omega
            · rw [h2]
              have hm : min (-(excV l w)) (shrV l) = shrV l := by omega
              rw [hm]
              have : shv (shrV l) (shrV l) (·.f2) l i = at0 (·.f2) l i := by
                unfold shv
                rw [tdiv_self_mul ht, tdiv_self_mul ht]
                simp only [preS]
                omega
              rw [this]
            · rw [h2, preS_last (small_shr hv) (by unfold shrV at ht; omega) hi]
              omega
          · rw [hs, wrap_succ (by omega)]
            exact hr
        · refine Ev.neg hneg (Ev.pos (by omega) ?_)
          rw [hs, wrap_succ (by omega)]
          exact hr, rfl⟩)
    exact key 0 _ (Nat.zero_le _) (by rw [posV_zero]; omega)
  · exact Ev.neg (by simpa using h) (Ev.now _)
end Go.Proofs.Ytojcnndkdopahaa.P
