/- GluePlaces: the pure statement of the law GluePlaces is proved: for every input its printed function answers true. No condition beyond those of the row. -/
import Derived.Test.YtojcnndkdopahaaSayGluePlaces
import Derived.Test.YtojcnndkdopahaaPoE
namespace Go.Proofs.Ytojcnndkdopahaa.P
open Go.RowKit Go.Proofs.YtojcnndkdopahaaW.PrintWords Go.Proofs.YtojcnndkdopahaaW.PrintLast Go.Proofs.YtojcnndkdopahaaW.PrintMore
theorem GluePlaces.pure : GluePlaces.Pure := by
  intro l w by_ hl _ _ hby
  have hl' : l.length ≤ 4398046511104 := by omega
  have hby' : 0 ≤ by_ ∧ by_ ≤ 65535 := by have e1 : IntKind.u16.min = 0 := rfl; have e2 : IntKind.u16.max = 65535 := rfl; simp [Lit.wf] at hby; omega
  refine Ev.rounds (g := fun k => vinculumlaw27_GluePlaces.f k l w by_) ?_
  unfold vinculumlaw27_GluePlaces.f
  refine Ev.bind awake_ev (Ev.pos rfl (Ev.bind (right_ev l w hl') ?_))
  have hT : Ev (fun k => vinculumlaw27_GluePlaces.j0 k l w by_ true) true := Ev.step (f := fun _ => some true) (fun k => by simp [vinculumlaw27_GluePlaces.j0]) (Ev.now _)
  by_cases h : errV l w = 0
  · refine Ev.pos (by simpa using h) ?_
    by_cases hw : w > 536870912
    · rw [decide_eq_true hw]; exact hT
    · rw [decide_eq_false hw]
      obtain ⟨hv, h1, h2⟩ := errV_ok h
      have hlen := validB_len hv
      have e1 : wrap64 by_ = by_ := wrap_id (by omega) (by omega)
      have e2 : wrap64 (w + by_) = w + by_ := wrap_id (by omega) (by omega)
      have h' : errV l (w + by_) = 0 := by unfold errV; rw [if_pos hv, if_neg (by omega), if_neg (by omega)]
      have hle : ∀ i, i ≤ l.length → posV l w i ≤ posV l (w + by_) i := by
        intro i hi
        have hp := preS_bound (small_shr hv) i
        unfold posV
        have hex : excV l (w + by_) = excV l w + by_ := by unfold excV; omega
        rw [hex]
        by_cases hx : 0 < excV l w
        · have hx' : 0 < excV l w + by_ := by omega
          simp only [hx, hx', if_true]
          by_cases ho : ordV l < 0
          · simp only [ho, if_true]; omega
          · simp only [ho, if_false]
            have hs := sh_str h hx ho
            have hq := (preS_bound hs.small i).1
            have hm := Int.mul_le_mul_of_nonneg_right (show excV l w ≤ excV l w + by_ by omega) hq
            have hT' : 0 < strV l (ordV l) := hs.pos
            have := Int.ediv_le_ediv hT' hm
            rw [Int.tdiv_eq_ediv_of_nonneg (Int.mul_nonneg (by omega) hq), Int.tdiv_eq_ediv_of_nonneg (Int.mul_nonneg (by omega) hq)]
            omega
        · simp only [hx, if_false]
          by_cases hx' : 0 < excV l w + by_
          · simp only [hx', if_true]
            have hup : preW l i ≤ (if ordV l < 0 then preW l i else preW l i + Int.tdiv ((excV l w + by_) * preS (qStr (ordV l)) l i) (strV l (ordV l))) := by
              by_cases ho : ordV l < 0
              · rw [if_pos ho]; omega
              · rw [if_neg ho]
                have hs := sh_str (w := w + by_) h' (by rw [hex]; exact hx') ho
                have := (hs.cut hi).1
                rw [hex] at this
                have e : preS (qStr (ordV l)) l l.length = strV l (ordV l) := rfl
                rw [e] at this
                omega
            by_cases ht : 0 < shrV l
            · simp only [ht, if_true]
              have := ((sh_shr h hx ht).cut hi).1
              have e : preS (·.f2) l l.length = shrV l := rfl
              rw [e] at this
              omega
            · simp only [ht, if_false]; omega
          · simp only [hx', if_false]
            by_cases ht : 0 < shrV l
            · simp only [ht, if_true]
              have hm := Int.mul_le_mul_of_nonneg_right (show min (-(excV l w + by_)) (shrV l) ≤ min (-(excV l w)) (shrV l) by omega) hp.1
              have := Int.ediv_le_ediv ht hm
              rw [Int.tdiv_eq_ediv_of_nonneg (Int.mul_nonneg (by omega) hp.1), Int.tdiv_eq_ediv_of_nonneg (Int.mul_nonneg (by omega) hp.1)]
              omega
            · simp only [ht, if_false]; omega
      refine Ev.step (f := fun k => (glue_Set.f k l w).bind fun bt => (glue_Set.f k l (w + by_)).bind fun bu => (if bt.2.2 = 0 then (if bu.2.2 = 0 then (if (bt.1.length : Int) = (l.length : Int) then (vinculumlaw27_GluePlaces.j1 k l bt.1 bu.1 ((bu.1.length : Int) != (l.length : Int))) else (vinculumlaw27_GluePlaces.j1 k l bt.1 bu.1 true)) else (vinculumlaw27_GluePlaces.j1 k l bt.1 bu.1 true)) else (vinculumlaw27_GluePlaces.j1 k l bt.1 bu.1 true))) (fun k => by simp [vinculumlaw27_GluePlaces.j0, e1, e2]) ?_
      refine Ev.bind (set_ev l w hl') (Ev.bind (set_ev l (w + by_) hl') ?_)
      unfold setV
      rw [if_pos h, if_pos h']
      have hne : (((setW l (w + by_)).length : Int) != (l.length : Int)) = false := by rw [setW_len]; simp
      simp only [hne]
      refine Ev.pos trivial (Ev.pos trivial (Ev.pos (by rw [setW_len]) ?_))
      refine Ev.step (f := fun k => vinculumlaw27_GluePlaces.l0 k l (setW l w) (setW l (w + by_)) 0 0 0) (fun k => by simp [vinculumlaw27_GluePlaces.j1]) ?_
      have key := ev_up (fun k i (s : Int × Int) => vinculumlaw27_GluePlaces.l0 k l (setW l w) (setW l (w + by_)) s.1 s.2 i) l.length (fun _ _ => true) (fun i s => s = (posV l w i, posV l (w + by_) i))
        (fun s hI k => by simp only [vinculumlaw27_GluePlaces.l0]; rw [if_neg (by omega)])
        (fun i s hi hI => .inr ⟨(posV l w (i + 1), posV l (w + by_) (i + 1)), rfl, fun k => by
          have p1 := posV_bound h (i := i) (by omega)
          have p2 := posV_bound h (i := i + 1) (by omega)
          have p3 := posV_bound h' (i := i) (by omega)
          have p4 := posV_bound h' (i := i + 1) (by omega)
          have hc := hle (i + 1) (by omega)
          have q1 : wrap64 (posV l w i + (posV l w (i + 1) - posV l w i)) = posV l w (i + 1) := by rw [wrap_id (by omega) (by omega)]; omega
          have q2 : wrap64 (posV l (w + by_) i + (posV l (w + by_) (i + 1) - posV l (w + by_) i)) = posV l (w + by_) (i + 1) := by rw [wrap_id (by omega) (by omega)]; omega
          simp only [vinculumlaw27_GluePlaces.l0]
          rw [if_pos (by omega), if_pos (by omega), if_pos (by rw [setW_len]; omega), if_pos (by rw [setW_len]; omega), hI]
          simp only
          rw [rd_setW l w i hi, rd_setW l (w + by_) i hi, q1, q2, if_neg (by omega), wrap_succ (by omega)], rfl⟩)
      exact key 0 (0, 0) (Nat.zero_le _) (by rw [posV_zero, posV_zero])
  · exact Ev.neg (by simpa using h) hT
end Go.Proofs.Ytojcnndkdopahaa.P
