/- GlueShift: the pure statement is proved: for every input its printed function answers true. No condition beyond those of the row. -/
import Derived.Test.YtojcnndkdopahaaSayGlueShift
import Derived.Test.YtojcnndkdopahaaPoE
import Derived.Test.YtojcnndkdopahaaP0
import Derived.Test.YtojcnndkdopahaaP38
namespace Go.Proofs.Ytojcnndkdopahaa.P
open Go.RowKit Go.Proofs.YtojcnndkdopahaaW.PrintWords Go.Proofs.YtojcnndkdopahaaW.PrintLast Go.Proofs.YtojcnndkdopahaaW.PrintMore
set_option linter.unusedSimpArgs false
set_option linter.unusedVariables false
theorem rdShift_nat (l : List S36) (k : Nat) (h : k < l.length) : rd_T36 l (k : Int) = l[k] := by
  unfold rd_T36
  rw [Int.toNat_natCast, List.getD_eq_getElem?_getD, List.getElem?_eq_getElem h]
  rfl
/-- The list with d added to the width of element t. -/
def shl (l : List S36) (t : Nat) (ht : t < l.length) (d : Int) : List S36 := l.set t ⟨l[t].f0 + d, l[t].f1, l[t].f2, l[t].f3⟩
theorem shl_len (l : List S36) (t : Nat) (ht : t < l.length) (d : Int) : (shl l t ht d).length = l.length := by simp [shl]
theorem shl_at0 (q : S36 → Int) (l : List S36) (t : Nat) (ht : t < l.length) (d c : Int) (hq : q ⟨l[t].f0 + d, l[t].f1, l[t].f2, l[t].f3⟩ = q l[t] + c) (j : Nat) : at0 q (shl l t ht d) j = at0 q l j + if j = t then c else 0 := by
  by_cases hj : j < l.length
  · rw [at0_lt (by rw [shl_len]; exact hj), at0_lt hj]
    unfold shl
    rw [List.getElem_set]
    by_cases e : t = j
    · subst e
      rw [if_pos rfl, if_pos rfl, hq]
    · rw [if_neg e, if_neg (fun h => e h.symm), Int.add_zero]
  · rw [at0_ge (by rw [shl_len]; exact hj), at0_ge hj, if_neg (by omega)]
    rfl
theorem shl_preS (q : S36 → Int) (l : List S36) (t : Nat) (ht : t < l.length) (d c : Int) (hq : q ⟨l[t].f0 + d, l[t].f1, l[t].f2, l[t].f3⟩ = q l[t] + c) : ∀ j, preS q (shl l t ht d) j = preS q l j + if t < j then c else 0
  | 0 => by simp [preS]
  | j + 1 => by
    show preS q (shl l t ht d) j + at0 q (shl l t ht d) j = preS q l j + at0 q l j + _
    rw [shl_preS q l t ht d c hq j, shl_at0 q l t ht d c hq j]
    by_cases h1 : t < j
    · rw [if_pos h1, if_neg (by omega), if_pos (by omega)]; omega
    · by_cases h2 : j = t
      · rw [if_neg h1, if_pos h2, if_pos (by omega)]; omega
      · rw [if_neg h1, if_neg h2, if_neg (by omega)]; omega
theorem shl_same (q : S36 → Int) (l : List S36) (t : Nat) (ht : t < l.length) (d : Int) (hq : q ⟨l[t].f0 + d, l[t].f1, l[t].f2, l[t].f3⟩ = q l[t]) (j : Nat) : preS q (shl l t ht d) j = preS q l j := by
  rw [shl_preS q l t ht d 0 (by rw [hq]; omega) j]
  split <;> omega
theorem shl_str (l : List S36) (t : Nat) (ht : t < l.length) (d o : Int) : strV (shl l t ht d) o = strV l o := by
  unfold strV
  rw [shl_same _ _ _ _ _ rfl, shl_len]
theorem shl_shr (l : List S36) (t : Nat) (ht : t < l.length) (d : Int) : shrV (shl l t ht d) = shrV l := by
  unfold shrV
  rw [shl_same _ _ _ _ _ rfl, shl_len]
theorem shl_ord (l : List S36) (t : Nat) (ht : t < l.length) (d : Int) : ordV (shl l t ht d) = ordV l := by
  unfold ordV
  simp only [shl_str]
theorem shl_exc (l : List S36) (t : Nat) (ht : t < l.length) (d w : Int) : excV (shl l t ht d) (w + d) = excV l w := by
  unfold excV natV
  rw [shl_preS (·.f0) l t ht d d rfl, shl_len, if_pos ht]
  omega
theorem shl_setR (l : List S36) (t : Nat) (ht : t < l.length) (d w : Int) : setR (shl l t ht d) (w + d) = setR l w := by
  unfold setR
  rw [shl_exc, shl_ord, shl_shr]
theorem shl_pos (l : List S36) (t : Nat) (ht : t < l.length) (d w : Int) (i : Nat) : posV (shl l t ht d) (w + d) i = posV l w i + if t < i then d else 0 := by
  unfold posV preW
  rw [shl_exc, shl_ord, shl_shr, shl_str, shl_preS (·.f0) l t ht d d rfl, shl_same (qStr (ordV l)) l t ht d rfl, shl_same (·.f2) l t ht d rfl]
  split <;> split <;> omega
theorem shl_rd (l : List S36) (t : Nat) (ht : t < l.length) (d w : Int) (i : Nat) (hi : i < l.length) : rd (setW (shl l t ht d) (w + d)) (i : Int) = rd (setW l w) (i : Int) + if i = t then d else 0 := by
  rw [rd_setW _ _ _ (by rw [shl_len]; exact hi), rd_setW _ _ _ hi, shl_pos, shl_pos]
  by_cases h1 : i = t
  · rw [if_pos h1, if_pos (by omega), if_neg (by omega)]; omega
  · by_cases h2 : t < i
    · rw [if_neg h1, if_pos (by omega), if_pos h2]; omega
    · rw [if_neg h1, if_neg (by omega), if_neg h2]; omega
theorem GlueShift.pure : GlueShift.Pure := by
  intro l w y hl _ hw hy
  obtain ⟨ha, hd⟩ := hy
  refine Ev.rounds (g := fun k => vinculumlaw27_GlueShift.f k l w y.f0 y.f1) ?_
  generalize y.f0 = a at ha
  generalize y.f1 = d at hd
  have ba : -32768 ≤ a ∧ a ≤ 32767 := by simpa [Lit.wf, IntKind.min, IntKind.max, IntKind.bits, IntKind.signed] using ha
  have bd : -32768 ≤ d ∧ d ≤ 32767 := by simpa [Lit.wf, IntKind.min, IntKind.max, IntKind.bits, IntKind.signed] using hd
  have hl' : l.length ≤ 4398046511104 := by omega
  unfold vinculumlaw27_GlueShift.f
  refine Ev.bind awake_ev (Ev.pos rfl (Ev.bind (right_ev l w hl') ?_))
  have hT : Ev (fun k => vinculumlaw27_GlueShift.j0 k l w true a d) true := Ev.step (f := fun _ => some true) (fun k => by simp [vinculumlaw27_GlueShift.j0]) (Ev.now _)
  refine Ev.ite (fun h => ?_) (fun _ => hT)
  have he : errV l w = 0 := of_decide_eq_true h
  by_cases h0 : l.length = 0
  · rw [show ((l.length : Int) == 0) = true by simp [h0]]
    exact hT
  · rw [show ((l.length : Int) == 0) = false by simp; exact fun h => h0 (by simp [h])]
    obtain ⟨hv, bw⟩ := errV_ok he
    have h200 := validB_len hv
    obtain ⟨t, hte, ht⟩ : ∃ t : Nat, Int.tmod (wrap64 (wrap64 a + 32768)) (l.length : Int) = (t : Int) ∧ t < l.length := by
      refine ⟨((a + 32768) % (l.length : Int)).toNat, ?_, ?_⟩
      · rw [wrap_id (x := a) (by omega) (by omega), wrap_id (x := a + 32768) (by omega) (by omega), Int.tmod_eq_emod_of_nonneg (by omega)]
        have := Int.emod_nonneg (a + 32768) (show (l.length : Int) ≠ 0 by omega)
        omega
      · have h1 := Int.emod_nonneg (a + 32768) (show (l.length : Int) ≠ 0 by omega)
        have h2 := Int.emod_lt_of_pos (a + 32768) (show (0 : Int) < l.length by omega)
        omega
    have eD : wrap64 d = d := wrap_id (by omega) (by omega)
    have bt := vB_spec (validB_at hv t ht)
    have eW : wrap64 (w + d) = w + d := wrap_id (by omega) (by omega)
    apply Ev.step (f := fun k => vinculumlaw27_GlueShift.j0 (k + 1) l w false a d) (fun _ => rfl)
    simp only [vinculumlaw27_GlueShift.j0]
    rw [hte, eD, eW]
    refine Ev.neg (by decide) (Ev.neg (by omega) (Ev.bindO rfl (Ev.pos (by simp; omega) (Ev.bindO rfl ?_))))
    simp only [List.nil_append]
    refine Ev.pos (by omega) (Ev.pos (by omega) (Ev.bindO rfl ?_))
    have eM : l.set (t : Int).toNat (⟨wrap64 ((rd_T36 l (t : Int)).f0 + d), (rd_T36 l (t : Int)).f1, (rd_T36 l (t : Int)).f2, (rd_T36 l (t : Int)).f3⟩ : S36) = shl l t ht d := by
      rw [rdShift_nat l t ht, wrap_id (x := l[t].f0 + d) (by omega) (by omega), Int.toNat_natCast]
      rfl
    rw [eM]
    have hml := shl_len l t ht d
    refine Ev.bind (right_ev (shl l t ht d) (w + d) (by omega)) (Ev.ite (fun h2 => ?_) (fun _ => Ev.ret rfl))
    have he2 : errV (shl l t ht d) (w + d) = 0 := of_decide_eq_true h2
    refine Ev.bind (set_ev l w hl') (Ev.bind (set_ev (shl l t ht d) (w + d) (by omega)) ?_)
    unfold setV
    rw [if_pos he, if_pos he2]
    refine Ev.pos rfl (Ev.pos rfl (Ev.pos (by rw [setW_len]) (Ev.pos (by rw [setW_len, hml]) ?_)))
    simp only [shl_setR]
    rw [show (setR l w != setR l w) = false by simp]
    refine Ev.step (f := fun k => vinculumlaw27_GlueShift.l0 k (t : Int) (setW l w) (setW (shl l t ht d) (w + d)) 0 a d) (fun k => by simp [vinculumlaw27_GlueShift.j1]) ?_
    have k1 := ev_up (fun k i (_ : Unit) => vinculumlaw27_GlueShift.l0 k (t : Int) (setW l w) (setW (shl l t ht d) (w + d)) i a d) l.length (fun _ _ => true) (fun _ _ => True)
      (fun s _ k => by simp only [vinculumlaw27_GlueShift.l0]; rw [if_neg (by rw [setW_len]; omega)])
      (fun i s hi _ => .inr ⟨(), trivial, fun k => by
        have b1 := posV_bound he (i := i + 1) (by omega)
        have b2 := posV_bound he (i := i) (by omega)
        have r1 := rd_setW l w i hi
        have r2 := shl_rd l t ht d w i hi
        simp only [vinculumlaw27_GlueShift.l0]
        rw [if_pos (by rw [setW_len]; omega), if_pos (by omega), eD, wrap_id (x := rd (setW l w) (i : Int) + d) (by omega) (by omega), wrap_succ (by omega)]
        by_cases e : i = t
        · rw [if_pos (by omega), if_pos (by rw [setW_len, hml]; omega), if_pos (by rw [r2, if_pos e])]
        · rw [if_neg (by omega), if_pos (by rw [setW_len, hml]; omega), if_pos (by rw [r2, if_neg e]; omega)], rfl⟩)
    exact k1 0 () (Nat.zero_le _) trivial
end Go.Proofs.Ytojcnndkdopahaa.P
