/- GlueLimits: the pure statement of the law GlueLimits is proved: for every input its printed function answers true. No condition beyond those of the row. -/
import Derived.Test.YtojcnndkdopahaaSayGlueLimits
import Derived.Test.YtojcnndkdopahaaPoE
namespace Go.Proofs.Ytojcnndkdopahaa.P
open Go.RowKit Go.Proofs.YtojcnndkdopahaaW.PrintWords Go.Proofs.YtojcnndkdopahaaW.PrintLast Go.Proofs.YtojcnndkdopahaaW.PrintMore
/-- What the walk asks of one element, by cases. -/
theorem limits_fact {l : List S36} {w : Int} (h : errV l w = 0) {i : Nat} (hi : i < l.length) (p t : Int)
    (hp : (0 ≤ excV l w → p = at0 (qStr (ordV l)) l i ∧ t = strV l (ordV l)) ∧ (excV l w < 0 → p = at0 (·.f2) l i ∧ t = shrV l)) :
    -(at0 (·.f2) l i) ≤ rd (setW l w) (i : Int) - at0 (·.f0) l i ∧ (0 ≤ excV l w → 0 ≤ rd (setW l w) (i : Int) - at0 (·.f0) l i) ∧ (excV l w ≤ 0 → rd (setW l w) (i : Int) - at0 (·.f0) l i ≤ 0) ∧
    -4294967296 ≤ rd (setW l w) (i : Int) - at0 (·.f0) l i ∧ rd (setW l w) (i : Int) - at0 (·.f0) l i ≤ 4294967296 ∧
    (t = 0 → rd (setW l w) (i : Int) - at0 (·.f0) l i = 0) ∧ 0 ≤ t ∧ t ≤ 209715200 ∧ 0 ≤ p ∧ p ≤ 1048576 ∧
    (t ≠ 0 → -t < (excV l w - setR l w) * p - (rd (setW l w) (i : Int) - at0 (·.f0) l i) * t ∧ (excV l w - setR l w) * p - (rd (setW l w) (i : Int) - at0 (·.f0) l i) * t < t) := by
  have hv := (errV_ok h).1
  have hb := excV_bound h
  have hsr := shr_nonneg hv
  have hlen := validB_len hv
  have h2 := at0_small (small_shr hv) i
  have hst : 0 ≤ strV l (ordV l) ∧ strV l (ordV l) ≤ 209715200 := ⟨(preS_bound (small_str hv _) _).1, preS_le (small_str hv _) hlen (Nat.le_refl _)⟩
  have hq := at0_small (small_str hv (ordV l)) i
  rcases diff_cases h hi with ⟨h1, ho, e, hR⟩ | ⟨h1, ho, hs, e, hR⟩ | ⟨h1, ht, hs, e, hR⟩ | ⟨h1, ht, e, hR⟩
  · obtain ⟨rfl, rfl⟩ := hp.1 (by omega)
    rw [e, hR]
    have hz := str_neg hv ho
    have hd : at0 (·.f0) l i - at0 (·.f0) l i = 0 := by omega
    rw [hd, hz]
    refine ⟨by omega, by omega, by omega, by omega, by omega, fun _ => rfl, by omega, by omega, by omega, by omega, fun h0 => absurd rfl h0⟩
  · obtain ⟨rfl, rfl⟩ := hp.1 (by omega)
    have e1 : preS (qStr (ordV l)) l l.length = strV l (ordV l) := rfl
    have hx := shv_exact hs hi
    have hsv := hs.shv hi
    have hpos := hs.pos
    rw [e1] at hx hsv hpos
    rw [e, hR]
    have hd : at0 (·.f0) l i + shv (excV l w) (strV l (ordV l)) (qStr (ordV l)) l i - at0 (·.f0) l i = shv (excV l w) (strV l (ordV l)) (qStr (ordV l)) l i := by omega
    rw [hd, Int.sub_zero]
    exact ⟨by omega, by omega, by omega, by omega, by omega, by omega, by omega, by omega, by omega, by omega, fun _ => hx⟩
  · have e2 : preS (·.f2) l l.length = shrV l := rfl
    have hx := shv_exact hs hi
    have hsv := hs.shv hi
    have hle := shv_le hs (by rw [e2]; omega) hi
    rw [e2] at hx hsv hle
    rw [e, hR]
    have hd : at0 (·.f0) l i - shv (min (-(excV l w)) (shrV l)) (shrV l) (·.f2) l i - at0 (·.f0) l i = -(shv (min (-(excV l w)) (shrV l)) (shrV l) (·.f2) l i) := by omega
    have hd2 : excV l w - (excV l w + min (-(excV l w)) (shrV l)) = -(min (-(excV l w)) (shrV l)) := by omega
    rw [hd, hd2]
    by_cases hneg : excV l w < 0
    · obtain ⟨rfl, rfl⟩ := hp.2 hneg
      refine ⟨by omega, by omega, by omega, by omega, by omega, by omega, by omega, by omega, by omega, by omega, fun _ => ?_⟩
      rw [Int.neg_mul, Int.neg_mul]
      omega
    · obtain ⟨rfl, rfl⟩ := hp.1 (by omega)
      have hG : min (-(excV l w)) (shrV l) = 0 := by omega
      have hs0 : shv (min (-(excV l w)) (shrV l)) (shrV l) (·.f2) l i = 0 := by omega
      rw [hs0, hG]
      refine ⟨by omega, by omega, by omega, by omega, by omega, by omega, by omega, by omega, by omega, by omega, fun _ => ?_⟩
      simp
      omega
  · rw [e, hR]
    have hd : at0 (·.f0) l i - at0 (·.f0) l i = 0 := by omega
    have hd2 : excV l w - excV l w = 0 := by omega
    rw [hd, hd2]
    have hpt : 0 ≤ t ∧ t ≤ 209715200 ∧ 0 ≤ p ∧ p ≤ 1048576 := by
      by_cases hneg : excV l w < 0
      · obtain ⟨rfl, rfl⟩ := hp.2 hneg; omega
      · obtain ⟨rfl, rfl⟩ := hp.1 (by omega); omega
    refine ⟨by omega, by omega, by omega, by omega, by omega, by omega, by omega, by omega, by omega, by omega, fun _ => ?_⟩
    simp
    omega
theorem mul_abs {a b A B : Int} (h1 : -A ≤ a) (h2 : a ≤ A) (h3 : 0 ≤ b) (h4 : b ≤ B) (hA : 0 ≤ A) : -(A * B) ≤ a * b ∧ a * b ≤ A * B := by
  have u1 := Int.mul_le_mul_of_nonneg_right h2 h3
  have u2 := Int.mul_le_mul_of_nonneg_left h4 hA
  have u3 := Int.mul_le_mul_of_nonneg_right h1 h3
  rw [Int.neg_mul] at u3
  omega
theorem GlueLimits.pure : GlueLimits.Pure := by
  intro l w hl _ _
  have hl' : l.length ≤ 4398046511104 := by omega
  refine Ev.rounds (g := fun k => vinculumlaw27_GlueLimits.f k l w) ?_
  unfold vinculumlaw27_GlueLimits.f
  refine Ev.bind awake_ev (Ev.pos rfl (Ev.bind (right_ev l w hl') ?_))
  by_cases h : errV l w = 0
  · refine Ev.pos (by simpa using h) (Ev.bind (set_ev l w hl') ?_)
    have hv := (errV_ok h).1
    have hlen := validB_len hv
    have hb := excV_bound h
    unfold setV
    rw [if_pos h]
    refine Ev.pos rfl ?_
    have hne : (((setW l w).length : Int) != (l.length : Int)) = false := by rw [setW_len]; simp
    simp only [hne]
    have hw : wrap64 (w - natV l) = excV l w := by unfold excV at hb ⊢; exact wrap_id (by omega) (by omega)
    have hR : -4294967296 ≤ setR l w ∧ setR l w ≤ 4294967296 := by
      have hsr := shr_nonneg hv
      unfold setR; (repeat' split) <;> omega
    refine Ev.step (f := fun k => (vinculumref27_Natural.f k l).bind fun t244 => (vinculumref27_Order.f k l).bind fun t245 => vinculumlaw27_GlueLimits.l0 k l (setW l w) (setR l w) (wrap64 (w - t244)) t245 0) (fun k => by simp [vinculumlaw27_GlueLimits.j0]) ?_
    refine Ev.bind (a := natV l) (by have := refNatural_ev l hl'; rwa [if_pos hv] at this) (Ev.bind (refOrder_ev l hv) ?_)
    rw [hw]
    have hstep : ∀ (i : Nat) (hi : i < l.length) (p t : Int) r, ((0 ≤ excV l w → p = at0 (qStr (ordV l)) l i ∧ t = strV l (ordV l)) ∧ (excV l w < 0 → p = at0 (·.f2) l i ∧ t = shrV l)) →
        Ev (fun k => vinculumlaw27_GlueLimits.l0 k l (setW l w) (setR l w) (excV l w) (ordV l) ((i + 1 : Nat) : Int)) r →
        Ev (fun k => vinculumlaw27_GlueLimits.j2 k l (setW l w) (setR l w) (excV l w) (ordV l) (i : Int) (rd (setW l w) (i : Int) - at0 (·.f0) l i) p t) r := by
      intro i hi p t r hpt hr
      obtain ⟨f1, f2, f3, f4, f5, f6, f7, f8, f9, f10, f11⟩ := limits_fact h hi p t hpt
      have h2 := at0_small (small_shr hv) i
      have hc := at0_lt (q := (·.f2)) hi
      have hj3 : Ev (fun k => vinculumlaw27_GlueLimits.j3 k l (setW l w) (setR l w) (excV l w) (ordV l) (i : Int) (rd (setW l w) (i : Int) - at0 (·.f0) l i) p t false) r := by
        refine Ev.step (f := fun k => vinculumlaw27_GlueLimits.l0 k l (setW l w) (setR l w) (excV l w) (ordV l) ((i + 1 : Nat) : Int)) (fun k => ?_) hr
        simp only [vinculumlaw27_GlueLimits.j3]
        rw [if_neg (by simp)]
        by_cases ht : t = 0
        · rw [if_pos ht, if_pos (f6 ht), wrap_succ (by omega)]
        · have hx := f11 ht
          have m1 := mul_abs (a := excV l w - setR l w) (b := p) (A := 8589934592) (B := 1048576) (by omega) (by omega) f9 f10 (by omega)
          have m2 := mul_abs (a := rd (setW l w) (i : Int) - at0 (·.f0) l i) (b := t) (A := 4294967296) (B := 209715200) (by omega) (by omega) f7 f8 (by omega)
          have w1 : wrap64 (excV l w - setR l w) = excV l w - setR l w := wrap_id (by omega) (by omega)
          have w2 : wrap64 ((excV l w - setR l w) * p) = (excV l w - setR l w) * p := wrap_id (by omega) (by omega)
          have w3 : wrap64 ((rd (setW l w) (i : Int) - at0 (·.f0) l i) * t) = (rd (setW l w) (i : Int) - at0 (·.f0) l i) * t := wrap_id (by omega) (by omega)
          have w4 : wrap64 ((excV l w - setR l w) * p - (rd (setW l w) (i : Int) - at0 (·.f0) l i) * t) = (excV l w - setR l w) * p - (rd (setW l w) (i : Int) - at0 (·.f0) l i) * t := wrap_id (by omega) (by omega)
          have w5 : wrap64 (-t) = -t := wrap_id (by omega) (by omega)
          rw [if_neg ht, w1, w2, w3, w4, w5, if_neg (by omega), if_neg (by omega), wrap_succ (by omega)]
      refine Ev.step (f := fun k => vinculumlaw27_GlueLimits.j3 k l (setW l w) (setR l w) (excV l w) (ordV l) (i : Int) (rd (setW l w) (i : Int) - at0 (·.f0) l i) p t false) (fun k => ?_) hj3
      simp only [vinculumlaw27_GlueLimits.j2]
      rw [if_pos (by omega), if_pos (by omega), rdT36_nat l i hi]
      rw [← hc, wrap_id (x := -(at0 (·.f2) l i)) (by omega) (by omega), if_neg (by omega)]
      have hd : 0 ≥ excV l w → decide (rd (setW l w) (i : Int) - at0 (·.f0) l i > 0) = false := fun h0 => decide_eq_false (by have := f3 h0; omega)
      by_cases h0 : excV l w ≥ 0
      · rw [if_pos h0, if_neg (by have := f2 h0; omega)]
        by_cases h1 : excV l w ≤ 0
        · rw [if_pos h1, hd h1]
        · rw [if_neg h1]
      · rw [if_neg h0, if_pos (by omega), hd (by omega)]
    have key := ev_upE (fun k i (_ : Unit) => vinculumlaw27_GlueLimits.l0 k l (setW l w) (setR l w) (excV l w) (ordV l) i) l.length (fun _ _ => true) (fun _ _ => True)
      (fun s _ => by
        simp only [vinculumlaw27_GlueLimits.l0]
        exact Ev.neg (by rw [setW_len]; omega) (Ev.now _))
      (fun i s hi _ => .inr ⟨(), trivial, fun r hr => by
        simp only [vinculumlaw27_GlueLimits.l0]
        refine Ev.pos (by rw [setW_len]; omega) (Ev.pos (by omega) (Ev.pos (by omega) (Ev.bind (a := shrV l) (by have := refShrink_ev l hl'; rwa [if_pos hv] at this) ?_)))
        have ha := at0_lt (q := (·.f0)) hi
        have hc := at0_lt (q := (·.f2)) hi
        have hq := at0_lt (q := qStr (ordV l)) hi
        have p1 := posV_bound h (i := i) (by omega)
        have p2 := posV_bound h (i := i + 1) (by omega)
        have hw0 := at0_w hv i
        have hdw : wrap64 (rd (setW l w) (i : Int) - l[i].f0) = rd (setW l w) (i : Int) - at0 (·.f0) l i := by
          rw [← ha]
          exact wrap_id (by rw [rd_setW l w i hi]; omega) (by rw [rd_setW l w i hi]; omega)
        rw [rdT36_nat l i hi, hdw]
        unfold qStr at hq
        by_cases hx : excV l w ≥ 0
        · refine Ev.pos hx (Ev.bind (a := strV l (ordV l)) (by have := refStretch_ev l (ordV l) hl'; rwa [if_pos hv] at this) ?_)
          by_cases ho : l[i].f3 = ordV l
          · rw [if_pos ho] at hq
            exact Ev.pos ho (hstep i hi _ _ r ⟨fun _ => ⟨hq.symm, rfl⟩, fun hn => by omega⟩ hr)
          · rw [if_neg ho] at hq
            exact Ev.neg ho (hstep i hi _ _ r ⟨fun _ => ⟨hq.symm, rfl⟩, fun hn => by omega⟩ hr)
        · exact Ev.neg hx (hstep i hi _ _ r ⟨fun hn => by omega, fun _ => ⟨hc.symm, rfl⟩⟩ hr), rfl⟩)
    exact key 0 () (Nat.zero_le _) trivial
  · exact Ev.neg (by simpa using h) (Ev.now _)
end Go.Proofs.Ytojcnndkdopahaa.P
