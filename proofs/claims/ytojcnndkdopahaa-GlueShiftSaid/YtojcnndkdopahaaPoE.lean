/- The laws of shares and of the places where elements end. No program in sight. -/
import Derived.Test.YtojcnndkdopahaaPoD
import Derived.Test.YtojcnndkdopahaaP0
namespace Go.Proofs.Ytojcnndkdopahaa.P
open Go.RowKit Go.Proofs.YtojcnndkdopahaaW.PrintWords Go.Proofs.YtojcnndkdopahaaW.PrintLast Go.Proofs.YtojcnndkdopahaaW.PrintMore
set_option linter.unusedSimpArgs false
/-- The place where element i begins. -/
def posV (l : List S36) (w : Int) (i : Nat) : Int :=
  if 0 < excV l w then (if ordV l < 0 then preW l i else preW l i + Int.tdiv (excV l w * preS (qStr (ordV l)) l i) (strV l (ordV l)))
  else (if 0 < shrV l then preW l i - Int.tdiv (min (-(excV l w)) (shrV l) * preS (·.f2) l i) (shrV l) else preW l i)
theorem preW_step (l : List S36) (i : Nat) : preW l (i + 1) = preW l i + at0 (·.f0) l i := rfl
theorem rd_map (l : List S36) (i : Nat) (hi : i < l.length) : rd (l.map (·.f0)) (i : Int) = at0 (·.f0) l i := by
  rw [map_tab, rd_tab _ _ _ hi]
theorem rd_upd (f : Int → Int → Int) (G : Int) (q : S36 → Int) (l : List S36) (i : Nat) (hi : i < l.length) : rd (updV f G q l l.length) (i : Int) = f (at0 (·.f0) l i) (shv G (preS q l l.length) q l i) := by
  unfold updV
  rw [rd_tab _ _ _ hi, if_pos hi]
theorem rd_setW (l : List S36) (w : Int) (i : Nat) (hi : i < l.length) : rd (setW l w) (i : Int) = posV l w (i + 1) - posV l w i := by
  have e1 : ∀ o, preS (qStr o) l l.length = strV l o := fun _ => rfl
  have e2 : preS (·.f2) l l.length = shrV l := rfl
  unfold setW posV
  by_cases hx : 0 < excV l w
  · simp only [hx, if_true]
    by_cases ho : ordV l < 0
    · simp only [ho, if_true]; rw [rd_map _ _ hi, preW_step]; omega
    · simp only [ho, if_false]
      rw [rd_upd _ _ _ _ _ hi, preW_step, e1]
      unfold shv
      omega
  · simp only [hx, if_false]
    by_cases ht : 0 < shrV l
    · simp only [ht, if_true]
      rw [rd_upd _ _ _ _ _ hi, preW_step, e2]
      unfold shv
      omega
    · simp only [ht, if_false]; rw [rd_map _ _ hi, preW_step]; omega
theorem posV_zero (l : List S36) (w : Int) : posV l w 0 = 0 := by
  unfold posV preW preS
  simp
theorem posV_bound {l : List S36} {w : Int} (h : errV l w = 0) {i : Nat} (hi : i ≤ l.length) : -8589934592 ≤ posV l w i ∧ posV l w i ≤ 8589934592 := by
  have hv := (errV_ok h).1
  have hb := excV_bound h
  have hp := preW_bound hv i
  have hlen := validB_len hv
  unfold posV
  by_cases hx : 0 < excV l w
  · simp only [hx, if_true]
    by_cases ho : ordV l < 0
    · simp only [ho, if_true]; omega
    · simp only [ho, if_false]
      have h1 := (sh_str h hx ho).cut hi
      have e1 : preS (qStr (ordV l)) l l.length = strV l (ordV l) := rfl
      rw [e1] at h1
      omega
  · simp only [hx, if_false]
    by_cases ht : 0 < shrV l
    · simp only [ht, if_true]
      have h1 := (sh_shr h hx ht).cut hi
      have e2 : preS (·.f2) l l.length = shrV l := rfl
      rw [e2] at h1
      omega
    · simp only [ht, if_false]; omega
theorem tdiv_self_mul {T x : Int} (hT : 0 < T) : Int.tdiv (T * x) T = x := Int.mul_tdiv_cancel_left x (by omega)
theorem tdiv_mul_self {T x : Int} (hT : 0 < T) : Int.tdiv (x * T) T = x := Int.mul_tdiv_cancel x (by omega)
/-- The widths and the rest add up to the width. -/
theorem posV_end {l : List S36} {w : Int} (h : errV l w = 0) : setR l w + posV l w l.length = w := by
  have e0 : preW l l.length = natV l := rfl
  unfold setR posV
  by_cases hx : 0 < excV l w
  · simp only [hx, if_true]
    by_cases ho : ordV l < 0
    · simp only [ho, if_true]; unfold excV; omega
    · simp only [ho, if_false]
      have e1 : preS (qStr (ordV l)) l l.length = strV l (ordV l) := rfl
      rw [e1, tdiv_mul_self (ordV_pos (by omega)), e0]; unfold excV; omega
  · simp only [hx, if_false]
    have e2 : preS (·.f2) l l.length = shrV l := rfl
    by_cases ht : 0 < shrV l
    · simp only [ht, if_true]
      rw [e2, tdiv_mul_self ht, e0]; unfold excV; omega
    · simp only [ht, if_false]
      have h0 := (shr_nonneg (errV_ok h).1).1
      have : min (-(excV l w)) (shrV l) = 0 := by omega
      rw [e0, this]; unfold excV; omega
/-- The law of a share: it differs from the exact one by less than 1. -/
theorem shv_exact {G : Int} {q : S36 → Int} {l : List S36} (h : Sh G q l) {k : Nat} (_ : k < l.length) :
    -(preS q l l.length) < G * at0 q l k - shv G (preS q l l.length) q l k * preS q l l.length ∧ G * at0 q l k - shv G (preS q l l.length) q l k * preS q l l.length < preS q l l.length := by
  have hT := h.pos
  have hG := h.G0
  have hS := (preS_bound h.small k).1
  have ha := (at0_small h.small k).1
  generalize hTT : preS q l l.length = T at *
  have e1 := Int.mul_ediv_add_emod (G * preS q l (k + 1)) T
  have e0 := Int.mul_ediv_add_emod (G * preS q l k) T
  have r1 := Int.emod_nonneg (G * preS q l (k + 1)) (show T ≠ 0 by omega)
  have r2 := Int.emod_lt_of_pos (G * preS q l (k + 1)) hT
  have r3 := Int.emod_nonneg (G * preS q l k) (show T ≠ 0 by omega)
  have r4 := Int.emod_lt_of_pos (G * preS q l k) hT
  have hm : G * preS q l (k + 1) = G * preS q l k + G * at0 q l k := by simp only [preS]; exact Int.mul_add _ _ _
  have n0 := Int.mul_nonneg hG hS
  have n1 : 0 ≤ G * preS q l (k + 1) := by have := Int.mul_nonneg hG ha; omega
  unfold shv
  rw [Int.tdiv_eq_ediv_of_nonneg n0, Int.tdiv_eq_ediv_of_nonneg n1, Int.sub_mul, Int.mul_comm _ T, Int.mul_comm _ T]
  omega
/-- A share is no more than the part, where no more is shared out than all parts. -/
theorem shv_le {G : Int} {q : S36 → Int} {l : List S36} (h : Sh G q l) (hGT : G ≤ preS q l l.length) {k : Nat} (hk : k < l.length) : shv G (preS q l l.length) q l k ≤ at0 q l k := by
  have h1 := shv_exact h hk
  have ha := (at0_small h.small k).1
  have hT := h.pos
  have h2 := Int.mul_le_mul_of_nonneg_right hGT ha
  -- (share - part) T < T
  have h3 : (shv G (preS q l l.length) q l k - at0 q l k) * preS q l l.length < 1 * preS q l l.length := by
    rw [Int.sub_mul, Int.mul_comm (at0 q l k)]
    omega
  have := Int.lt_of_mul_lt_mul_right h3 (by omega)
  omega
theorem preS_last {q : S36 → Int} {l : List S36} (h : Small q l) (h0 : ¬ 0 < preS q l l.length) {k : Nat} (hk : k < l.length) : at0 q l k = 0 := by
  have h1 := preS_mono h (show k + 1 ≤ l.length by omega)
  have h2 := (preS_bound h k).1
  have h3 := (at0_small h k).1
  simp only [preS] at h1
  omega
/-- The Stretches of an order below 0. -/
theorem str_neg {l : List S36} (h : validB l = true) {o : Int} (ho : o < 0) : strV l o = 0 := by
  have key : ∀ k, k ≤ l.length → preS (qStr o) l k = 0 := by
    intro k
    induction k with
    | zero => intro _; rfl
    | succ k ih =>
      intro hk
      have hv := vB_spec (validB_at h k (by omega))
      simp only [preS]
      rw [ih (by omega), at0_lt (show k < l.length by omega)]
      unfold qStr
      rw [if_neg (by omega)]
      rfl
  exact key _ (Nat.le_refl _)
/-- d: what is added to element i. -/
theorem diff_cases {l : List S36} {w : Int} (h : errV l w = 0) {i : Nat} (hi : i < l.length) :
    (0 < excV l w ∧ ordV l < 0 ∧ rd (setW l w) (i : Int) = at0 (·.f0) l i ∧ setR l w = excV l w) ∨
    (0 < excV l w ∧ 0 ≤ ordV l ∧ Sh (excV l w) (qStr (ordV l)) l ∧ rd (setW l w) (i : Int) = at0 (·.f0) l i + shv (excV l w) (strV l (ordV l)) (qStr (ordV l)) l i ∧ setR l w = 0) ∨
    (excV l w ≤ 0 ∧ 0 < shrV l ∧ Sh (min (-(excV l w)) (shrV l)) (·.f2) l ∧ rd (setW l w) (i : Int) = at0 (·.f0) l i - shv (min (-(excV l w)) (shrV l)) (shrV l) (·.f2) l i ∧ setR l w = excV l w + min (-(excV l w)) (shrV l)) ∨
    (excV l w ≤ 0 ∧ shrV l = 0 ∧ rd (setW l w) (i : Int) = at0 (·.f0) l i ∧ setR l w = excV l w) := by
  have hv := (errV_ok h).1
  have hsr := shr_nonneg hv
  have e1 : ∀ o, preS (qStr o) l l.length = strV l o := fun _ => rfl
  have e2 : preS (·.f2) l l.length = shrV l := rfl
  unfold setW setR
  by_cases hx : 0 < excV l w
  · simp only [hx, if_true]
    by_cases ho : ordV l < 0
    · simp only [ho, if_true]
      exact .inl ⟨trivial, trivial, rd_map _ _ hi, trivial⟩
    · simp only [ho, if_false]
      exact .inr (.inl ⟨trivial, by omega, sh_str h hx ho, by rw [rd_upd _ _ _ _ _ hi, e1], trivial⟩)
  · simp only [hx, if_false]
    by_cases ht : 0 < shrV l
    · simp only [ht, if_true]
      exact .inr (.inr (.inl ⟨by omega, trivial, sh_shr h hx ht, by rw [rd_upd _ _ _ _ _ hi, e2], trivial⟩))
    · simp only [ht, if_false]
      exact .inr (.inr (.inr ⟨by omega, by omega, rd_map _ _ hi, by omega⟩))
end Go.Proofs.Ytojcnndkdopahaa.P
