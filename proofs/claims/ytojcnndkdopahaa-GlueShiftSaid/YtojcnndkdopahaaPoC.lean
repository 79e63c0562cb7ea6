/- What Set of layer 27 and of its reference answer. No program in sight. -/
import Derived.Test.YtojcnndkdopahaaPoB
import Derived.Test.YtojcnndkdopahaaP0
import Derived.Test.YtojcnndkdopahaaP12
import Derived.Test.YtojcnndkdopahaaP14
import Derived.Test.YtojcnndkdopahaaP22
import Derived.Test.YtojcnndkdopahaaP23
import Derived.Test.YtojcnndkdopahaaP24
import Derived.Test.YtojcnndkdopahaaP25
import Derived.Test.YtojcnndkdopahaaP27
import Derived.Test.YtojcnndkdopahaaP28
import Derived.Test.YtojcnndkdopahaaP9
namespace Go.Proofs.Ytojcnndkdopahaa.P
open Go.RowKit Go.Proofs.YtojcnndkdopahaaW.PrintWords Go.Proofs.YtojcnndkdopahaaW.PrintLast Go.Proofs.YtojcnndkdopahaaW.PrintMore
set_option linter.unusedSimpArgs false
def excV (l : List S36) (w : Int) : Int := w - natV l
/-- What Set answers for a valid list and width. -/
def setW (l : List S36) (w : Int) : List Int :=
  if 0 < excV l w then (if ordV l < 0 then l.map (·.f0) else updV (· + ·) (excV l w) (qStr (ordV l)) l l.length)
  else (if 0 < shrV l then updV (· - ·) (min (-(excV l w)) (shrV l)) (·.f2) l l.length else l.map (·.f0))
def setR (l : List S36) (w : Int) : Int :=
  if 0 < excV l w then (if ordV l < 0 then excV l w else 0) else excV l w + min (-(excV l w)) (shrV l)
def errV (l : List S36) (w : Int) : Int := if validB l = true then (if w < -1073741824 then 2 else if w > 1073741824 then 2 else 0) else 1
def setV (l : List S36) (w : Int) : List Int × Int × Int := if errV l w = 0 then (setW l w, setR l w, 0) else ([], 0, errV l w)
theorem errV_ok {l : List S36} {w : Int} (h : errV l w = 0) : validB l = true ∧ -1073741824 ≤ w ∧ w ≤ 1073741824 := by
  unfold errV at h
  split at h
  · split at h
    · cases h
    · split at h
      · cases h
      · exact ⟨by assumption, by omega, by omega⟩
  · cases h
theorem excV_bound {l : List S36} {w : Int} (h : errV l w = 0) : -1283457024 ≤ excV l w ∧ excV l w ≤ 1283457024 := by
  obtain ⟨hv, h1, h2⟩ := errV_ok h
  have := natV_bound hv
  unfold excV
  omega
theorem check_ev (l : List S36) (w : Int) (hl : l.length ≤ 4398046511104) : Ev (fun k => glue_check.f k l w) (errV l w) := by
  unfold glue_check.f errV
  refine Ev.bind (valid_ev l hl) ?_
  refine ⟨0, fun k _ => ?_⟩
  (repeat' split) <;> first | rfl | omega | contradiction
theorem refCheck_ev (l : List S36) (w : Int) (hl : l.length ≤ 4398046511104) : Ev (fun k => vinculumref27_check.f k l w) (errV l w) := by
  unfold vinculumref27_check.f errV
  refine Ev.bind (refValid_ev l hl) ?_
  refine ⟨0, fun k _ => ?_⟩
  (repeat' split) <;> first | rfl | omega | contradiction
theorem hfadd : ∀ a b : Int, -1048576 ≤ a → a ≤ 1048576 → 0 ≤ b → b ≤ 4294967296 → wrap64 (a + b) = a + b := fun a b h1 h2 h3 h4 => wrap_id (by omega) (by omega)
theorem hfsub : ∀ a b : Int, -1048576 ≤ a → a ≤ 1048576 → 0 ≤ b → b ≤ 4294967296 → wrap64 (a - b) = a - b := fun a b h1 h2 h3 h4 => wrap_id (by omega) (by omega)
theorem shr_nonneg {l : List S36} (h : validB l = true) : 0 ≤ shrV l ∧ shrV l ≤ 209715200 := ⟨(preS_bound (small_shr h) _).1, preS_le (small_shr h) (validB_len h) (Nat.le_refl _)⟩
theorem sh_str {l : List S36} {w : Int} (h : errV l w = 0) (hx : 0 < excV l w) (ho : ¬ ordV l < 0) : Sh (excV l w) (qStr (ordV l)) l := by
  have hb := excV_bound h
  have hv := (errV_ok h).1
  exact ⟨by omega, by omega, validB_len hv, small_str hv _, ordV_pos (by omega)⟩
theorem sh_shr {l : List S36} {w : Int} (h : errV l w = 0) (hx : ¬ 0 < excV l w) (ht : 0 < shrV l) : Sh (min (-(excV l w)) (shrV l)) (·.f2) l := by
  have hb := excV_bound h
  have hv := (errV_ok h).1
  exact ⟨by omega, by omega, validB_len hv, small_shr hv, ht⟩
theorem set_ev (l : List S36) (w : Int) (hl : l.length ≤ 4398046511104) : Ev (fun k => glue_Set.f k l w) (setV l w) := by
  unfold glue_Set.f setV
  refine Ev.bind (check_ev l w hl) ?_
  by_cases h : errV l w = 0
  · rw [if_pos h]
    have hv := (errV_ok h).1
    have hb := excV_bound h
    have hsr := shr_nonneg hv
    refine Ev.pos h (Ev.pos hl (Ev.bind (a := natV l) (by have := natural_ev l hl; rwa [if_pos hv] at this) ?_))
    have hw : wrap64 (w - natV l) = excV l w := by unfold excV at hb ⊢; exact wrap_id (by omega) (by omega)
    rw [hw]
    unfold setW setR
    by_cases hx : 0 < excV l w
    · simp only [hx, if_true]
      refine Ev.bind (order_ev l hv) ?_
      by_cases ho : ordV l < 0
      · simp only [ho, if_true]; exact Ev.now _
      · simp only [ho, if_false]
        have hs := sh_str h hx ho
        refine Ev.bind (a := strV l (ordV l)) (by have := stretch_ev l (ordV l) hl; rwa [if_pos hv] at this) (Ev.neg (by have := hs.pos; unfold strV; omega) (Ev.ret ?_))
        have := shRun_gUp (· + ·) (by simp) hfadd (pStr (ordV l)) (qStr (ordV l)) (fun x => by unfold pStr qStr; split <;> rfl) hv hs l.length (Nat.le_refl _)
        unfold strV
        rw [this]
    · simp only [hx, if_false]
      have hn : wrap64 (-(excV l w)) = -(excV l w) := wrap_id (by omega) (by omega)
      have hm : mn (-(excV l w)) (shrV l) = min (-(excV l w)) (shrV l) := by unfold mn; split <;> omega
      rw [hn]
      refine Ev.bind (a := shrV l) (by have := shrink_ev l hl; rwa [if_pos hv] at this) ?_
      rw [hm, wrap_id (x := excV l w + min (-(excV l w)) (shrV l)) (by omega) (by omega)]
      by_cases ht : 0 < shrV l
      · simp only [ht, if_true]
        have hs := sh_shr h hx ht
        refine Ev.ret ?_
        have := shRun_gUp (· - ·) (by simp) hfsub pShr (·.f2) (fun x => rfl) hv hs l.length (Nat.le_refl _)
        have e : preS (·.f2) l l.length = shrV l := rfl
        rw [e] at this
        rw [this]
      · simp only [ht, if_false]; exact Ev.now _
  · rw [if_neg h]
    exact Ev.neg h (Ev.now _)
/-! ### the reference's Set -/
theorem widths_ev (l : List S36) (hl : l.length ≤ 4398046511104) : Ev (fun k => vinculumref27_widths.f k l) (l.map (·.f0)) := by
  unfold vinculumref27_widths.f
  rw [map_tab]
  have key := ev_up (fun k i s => vinculumref27_widths.l0 k l s i) l.length (fun _ _ => tab l.length (at0 (·.f0) l)) (fun i s => s = tab i (at0 (·.f0) l))
    (fun s hI k => by simp only [vinculumref27_widths.l0]; rw [if_neg (by omega), hI])
    (fun i s hi hI => .inr ⟨tab (i + 1) (at0 (·.f0) l), rfl, fun k => by
      simp only [vinculumref27_widths.l0]
      rw [if_pos (by omega), if_pos (by omega), hI, if_pos (by rw [tab_len]; omega), rdT36_nat l i hi, wrap_succ (by omega), ← tab_snoc, at0_lt hi], rfl⟩)
  exact key 0 [] (Nat.zero_le _) rfl
theorem shares_ev {G : Int} {q : S36 → Int} {l : List S36} (h : Sh G q l) : Ev (fun k => vinculumref27_Shares.f k (tab l.length (at0 q l)) G) (tab l.length (shv G (preS q l l.length) q l)) := by
  have hlen := h.len
  unfold vinculumref27_Shares.f
  have k1 := ev_up (fun k i (s : List Int × Int × Int) => vinculumref27_Shares.l1 k (tab l.length (at0 q l)) G (preS q l l.length) s.1 s.2.1 s.2.2 i) l.length (fun _ _ => tab l.length (shv G (preS q l l.length) q l))
    (fun i s => s = (tab i (shv G (preS q l l.length) q l), preS q l i, Int.tdiv (G * preS q l i) (preS q l l.length)))
    (fun s hI k => by simp only [vinculumref27_Shares.l1]; rw [if_neg (by rw [tab_len]; omega), hI])
    (fun i s hi hI => .inr ⟨(tab (i + 1) (shv G (preS q l l.length) q l), preS q l (i + 1), Int.tdiv (G * preS q l (i + 1)) (preS q l l.length)), rfl, fun k => by
      have hst := h.step hi
      have hp := h.pos
      simp only [vinculumref27_Shares.l1]
      rw [if_pos (by rw [tab_len]; omega), if_pos (by omega), if_neg (by omega), hI]
      simp only
      rw [if_pos (by rw [tab_len]; omega), rd_tab _ _ _ hi, wrap_succ (by omega), hst.1, hst.2.1, hst.2.2, tab_snoc], rfl⟩)
  have key := ev_upE (fun k i s => vinculumref27_Shares.l0 k (tab l.length (at0 q l)) G s i) l.length (fun _ _ => tab l.length (shv G (preS q l l.length) q l)) (fun i s => s = preS q l i)
    (fun s hI => by
      simp only [vinculumref27_Shares.l0]
      refine Ev.neg (by rw [tab_len]; omega) ?_
      rw [hI]
      exact k1 0 ([], 0, 0) (Nat.zero_le _) (by simp [tab, preS]))
    (fun i s hi hI => .inr ⟨preS q l (i + 1), rfl, fun r hr => by
      simp only [vinculumref27_Shares.l0]
      refine Ev.pos (by rw [tab_len]; omega) (Ev.pos (by omega) ?_)
      rw [rd_tab _ _ _ hi, wrap_succ (by omega), hI, (h.step hi).1]
      exact hr, rfl⟩)
  exact key 0 0 (Nat.zero_le _) rfl
theorem stretched_ev (l : List S36) (w : Int) (h : errV l w = 0) (hx : 0 ≤ excV l w) : Ev (fun k => vinculumref27_stretched.f k l (excV l w)) (if ordV l < 0 then (l.map (·.f0), excV l w) else (updV (· + ·) (excV l w) (qStr (ordV l)) l l.length, 0)) := by
  have hv := (errV_ok h).1
  have hlen := validB_len hv
  have hl : l.length ≤ 4398046511104 := by omega
  have hb := excV_bound h
  unfold vinculumref27_stretched.f
  refine Ev.bind (widths_ev l hl) (Ev.bind (refOrder_ev l hv) ?_)
  by_cases ho : ordV l < 0
  · rw [if_pos ho]; exact Ev.pos ho (Ev.now _)
  · rw [if_neg ho]
    refine Ev.neg ho ?_
    have hs : Sh (excV l w) (qStr (ordV l)) l := ⟨by omega, by omega, validB_len hv, small_str hv _, ordV_pos (by omega)⟩
    have k1 := ev_up (fun k i s => vinculumref27_stretched.l1 k s (tab l.length (shv (excV l w) (preS (qStr (ordV l)) l l.length) (qStr (ordV l)) l)) i) l.length (fun _ _ => (updV (· + ·) (excV l w) (qStr (ordV l)) l l.length, (0 : Int)))
      (fun i s => s = updV (· + ·) (excV l w) (qStr (ordV l)) l i)
      (fun s hI k => by simp only [vinculumref27_stretched.l1]; rw [hI, if_neg (by rw [updV_len]; omega)])
      (fun i s hi hI => .inr ⟨updV (· + ·) (excV l w) (qStr (ordV l)) l (i + 1), rfl, fun k => by
        have hw := at0_w hv i
        have hsv := hs.shv hi
        have h1 := hs.G1
        simp only [vinculumref27_stretched.l1]
        rw [hI, if_pos (by rw [updV_len]; omega), if_pos (by omega), if_pos (by rw [tab_len]; omega), wrap_succ (by omega), updV_rd _ _ _ _ _ hi, rd_tab _ _ _ hi, Int.toNat_natCast, hfadd _ _ hw.1 hw.2 hsv.1 (by omega), ← updV_set], rfl⟩)
    have key := ev_upE (fun k i s => vinculumref27_stretched.l0 k l (excV l w) (l.map (·.f0)) (ordV l) s i) l.length (fun _ _ => (updV (· + ·) (excV l w) (qStr (ordV l)) l l.length, (0 : Int))) (fun i s => s = tab i (at0 (qStr (ordV l)) l))
      (fun s hI => by
        simp only [vinculumref27_stretched.l0]
        refine Ev.neg (by omega) ?_
        rw [hI]
        refine Ev.bind (shares_ev hs) ?_
        rw [← updV_zero (· + ·) (excV l w) (qStr (ordV l)) l]
        exact k1 0 _ (Nat.zero_le _) rfl)
      (fun i s hi hI => .inr ⟨tab (i + 1) (at0 (qStr (ordV l)) l), rfl, fun r hr => by
        simp only [vinculumref27_stretched.l0]
        refine Ev.pos (by omega) (Ev.pos (by omega) ?_)
        rw [rdT36_nat l i hi, hI, wrap_succ (by omega)]
        have e := tab_snoc i (at0 (qStr (ordV l)) l)
        rw [at0_lt hi] at e
        unfold qStr at e
        by_cases hq : l[i].f3 = ordV l
        · rw [if_pos hq] at e
          refine Ev.pos hq (Ev.pos (by rw [tab_len]; omega) ?_)
          unfold qStr
          rw [e]
          exact hr
        · rw [if_neg hq] at e
          refine Ev.neg hq (Ev.pos (by rw [tab_len]; omega) ?_)
          unfold qStr
          rw [e]
          exact hr, rfl⟩)
    exact key 0 [] (Nat.zero_le _) rfl
theorem shrunk_ev (l : List S36) (w : Int) (h : errV l w = 0) (hx : excV l w < 0) : Ev (fun k => vinculumref27_shrunk.f k l (-(excV l w))) (if 0 < shrV l then (updV (· - ·) (min (-(excV l w)) (shrV l)) (·.f2) l l.length, excV l w + min (-(excV l w)) (shrV l)) else (l.map (·.f0), excV l w)) := by
  have hv := (errV_ok h).1
  have hlen := validB_len hv
  have hl : l.length ≤ 4398046511104 := by omega
  have hb := excV_bound h
  have hsr := shr_nonneg hv
  have hm : mn (-(excV l w)) (shrV l) = min (-(excV l w)) (shrV l) := by unfold mn; split <;> omega
  unfold vinculumref27_shrunk.f
  refine Ev.bind (widths_ev l hl) (Ev.bind (a := shrV l) (by have := refShrink_ev l hl; rwa [if_pos hv] at this) ?_)
  rw [hm]
  by_cases ht : 0 < shrV l
  · rw [if_pos ht]
    refine Ev.neg (by omega) ?_
    have hs := sh_shr h (by omega) ht
    have k1 := ev_up (fun k i s => vinculumref27_shrunk.l1 k (-(excV l w)) s (min (-(excV l w)) (shrV l)) (tab l.length (shv (min (-(excV l w)) (shrV l)) (preS (·.f2) l l.length) (·.f2) l)) i) l.length (fun _ _ => (updV (· - ·) (min (-(excV l w)) (shrV l)) (·.f2) l l.length, excV l w + min (-(excV l w)) (shrV l)))
      (fun i s => s = updV (· - ·) (min (-(excV l w)) (shrV l)) (·.f2) l i)
      (fun s hI k => by
        simp only [vinculumref27_shrunk.l1]
        rw [hI, if_neg (by rw [updV_len]; omega), wrap_id (by omega) (by omega)]
        congr 2
        omega)
      (fun i s hi hI => .inr ⟨updV (· - ·) (min (-(excV l w)) (shrV l)) (·.f2) l (i + 1), rfl, fun k => by
        have hw := at0_w hv i
        have hsv := hs.shv hi
        have h1 := hs.G1
        simp only [vinculumref27_shrunk.l1]
        rw [hI, if_pos (by rw [updV_len]; omega), if_pos (by omega), if_pos (by rw [tab_len]; omega), wrap_succ (by omega), updV_rd _ _ _ _ _ hi, rd_tab _ _ _ hi, Int.toNat_natCast, hfsub _ _ hw.1 hw.2 hsv.1 (by omega), ← updV_set], rfl⟩)
    have key := ev_upE (fun k i s => vinculumref27_shrunk.l0 k l (-(excV l w)) (l.map (·.f0)) (min (-(excV l w)) (shrV l)) s i) l.length (fun _ _ => (updV (· - ·) (min (-(excV l w)) (shrV l)) (·.f2) l l.length, excV l w + min (-(excV l w)) (shrV l))) (fun i s => s = tab i (at0 (·.f2) l))
      (fun s hI => by
        simp only [vinculumref27_shrunk.l0]
        refine Ev.neg (by omega) ?_
        rw [hI]
        refine Ev.bind (shares_ev hs) ?_
        rw [← updV_zero (· - ·) (min (-(excV l w)) (shrV l)) (·.f2) l]
        exact k1 0 _ (Nat.zero_le _) rfl)
      (fun i s hi hI => .inr ⟨tab (i + 1) (at0 (·.f2) l), rfl, fun r hr => by
        simp only [vinculumref27_shrunk.l0]
        refine Ev.pos (by omega) (Ev.pos (by omega) ?_)
        rw [rdT36_nat l i hi, hI, wrap_succ (by omega)]
        refine Ev.pos (by rw [tab_len]; omega) ?_
        have e := tab_snoc i (at0 (·.f2) l)
        rw [at0_lt hi] at e
        rw [e]
        exact hr, rfl⟩)
    exact key 0 [] (Nat.zero_le _) rfl
  · rw [if_neg ht]
    refine Ev.pos (by omega) (Ev.ret ?_)
    rw [wrap_id (by omega) (by omega), Int.neg_neg]
theorem refSet_ev (l : List S36) (w : Int) (hl : l.length ≤ 4398046511104) : Ev (fun k => vinculumref27_Set.f k l w) (setV l w) := by
  unfold vinculumref27_Set.f setV
  refine Ev.bind (refCheck_ev l w hl) ?_
  by_cases h : errV l w = 0
  · rw [if_pos h]
    have hv := (errV_ok h).1
    have hb := excV_bound h
    have hsr := shr_nonneg hv
    refine Ev.pos h (Ev.bind (a := natV l) (by have := refNatural_ev l hl; rwa [if_pos hv] at this) ?_)
    have hw : wrap64 (w - natV l) = excV l w := by unfold excV at hb ⊢; exact wrap_id (by omega) (by omega)
    rw [hw]
    unfold setW setR
    by_cases hx : excV l w < 0
    · refine Ev.pos hx ?_
      rw [wrap_id (x := -(excV l w)) (by omega) (by omega)]
      refine Ev.bind (shrunk_ev l w h hx) (Ev.ret ?_)
      simp only [show ¬ 0 < excV l w by omega, if_false]
      by_cases ht : 0 < shrV l
      · simp only [ht, if_true]
      · simp only [ht, if_false]
        congr 2
        omega
    · refine Ev.neg hx (Ev.bind (stretched_ev l w h (by omega)) (Ev.ret ?_))
      by_cases h0 : 0 < excV l w
      · simp only [h0, if_true]
        by_cases ho : ordV l < 0
        · simp only [ho, if_true]
        · simp only [ho, if_false]
      · have e0 : excV l w = 0 := by omega
        have hmin : min (-(excV l w)) (shrV l) = 0 := by omega
        simp only [h0, if_false, hmin, e0, Int.add_zero]
        -- nothing is shared out
        have hu : ∀ (f : Int → Int → Int) (hf : ∀ a, f a 0 = a) (q : S36 → Int), updV f 0 q l l.length = l.map (·.f0) := fun f hf q => by
          rw [map_tab]
          unfold updV
          refine tab_congr fun i hi => ?_
          rw [if_pos hi]
          unfold shv
          simp [hf]
        have hm0 : min (-(0 : Int)) (shrV l) = 0 := by omega
        rw [hm0, hu _ (by simp), hu _ (by simp)]
        simp
  · rw [if_neg h]
    exact Ev.neg h (Ev.now _)
end Go.Proofs.Ytojcnndkdopahaa.P
