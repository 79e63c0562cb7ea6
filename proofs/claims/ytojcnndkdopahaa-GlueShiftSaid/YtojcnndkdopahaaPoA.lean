/- Plain laws about lists of glue: sums, shares, tables. No program in sight. -/
import Derived.Test.YtojcnndkdopahaaPc
import Derived.Test.YtojcnndkdopahaaP0
import Derived.Test.YtojcnndkdopahaaP1
import Derived.Test.YtojcnndkdopahaaP14
import Derived.Test.YtojcnndkdopahaaP9
namespace Go.Proofs.Ytojcnndkdopahaa.P
open Go.RowKit Go.Proofs.YtojcnndkdopahaaW.PrintWords Go.Proofs.YtojcnndkdopahaaW.PrintLast Go.Proofs.YtojcnndkdopahaaW.PrintMore
/-! ### tables -/
def tab {α : Type} (n : Nat) (F : Nat → α) : List α := (List.range n).map F
theorem tab_len {α : Type} (n : Nat) (F : Nat → α) : (tab n F).length = n := by simp [tab]
theorem tab_get {α : Type} (n : Nat) (F : Nat → α) (i : Nat) (h : i < (tab n F).length) : (tab n F)[i] = F i := by simp [tab]
theorem rd_tab (n : Nat) (F : Nat → Int) (i : Nat) (h : i < n) : rd (tab n F) (i : Int) = F i := by
  rw [rd_nat _ _ (by rw [tab_len]; exact h), tab_get]
theorem tab_congr {α : Type} {n : Nat} {F G : Nat → α} (h : ∀ i, i < n → F i = G i) : tab n F = tab n G := by
  apply List.ext_getElem (by simp [tab_len])
  intro i h1 h2
  rw [tab_get, tab_get]
  exact h i (by simpa [tab_len] using h1)
theorem tab_snoc {α : Type} (n : Nat) (F : Nat → α) : tab n F ++ [F n] = tab (n + 1) F := by simp [tab, List.range_succ]
theorem tab_set {α : Type} (n : Nat) (F : Nat → α) (k : Nat) (v : α) : (tab n F).set k v = tab n (fun i => if i = k then v else F i) := by
  apply List.ext_getElem (by simp [tab_len])
  intro i h1 h2
  rw [List.getElem_set, tab_get]
  by_cases hk : k = i
  · subst hk; simp [tab_get]
  · rw [if_neg hk, tab_get, if_neg (fun e => hk e.symm)]
/-! ### the elements -/
def vB (x : S36) : Bool := decide (-1048576 ≤ x.f0) && decide (x.f0 ≤ 1048576) && decide (0 ≤ x.f1) && decide (x.f1 ≤ 1048576) && decide (0 ≤ x.f2) && decide (x.f2 ≤ 1048576) && decide (0 ≤ x.f3) && decide (x.f3 ≤ 3)
def validB (l : List S36) : Bool := l.all vB && decide (l.length ≤ 200)
theorem vB_spec {x : S36} (h : vB x = true) : -1048576 ≤ x.f0 ∧ x.f0 ≤ 1048576 ∧ 0 ≤ x.f1 ∧ x.f1 ≤ 1048576 ∧ 0 ≤ x.f2 ∧ x.f2 ≤ 1048576 ∧ 0 ≤ x.f3 ∧ x.f3 ≤ 3 := by
  simp [vB] at h; omega
theorem vB_not {x : S36} (h : vB x = false) (h' : -1048576 ≤ x.f0 ∧ x.f0 ≤ 1048576 ∧ 0 ≤ x.f1 ∧ x.f1 ≤ 1048576 ∧ 0 ≤ x.f2 ∧ x.f2 ≤ 1048576 ∧ 0 ≤ x.f3 ∧ x.f3 ≤ 3) : False := by
  have : vB x = true := by simp [vB]; omega
  rw [h] at this; cases this
theorem validB_at {l : List S36} (h : validB l = true) (k : Nat) (hk : k < l.length) : vB l[k] = true := by
  simp only [validB, Bool.and_eq_true] at h
  exact List.all_eq_true.1 h.1 _ (List.getElem_mem hk)
theorem validB_len {l : List S36} (h : validB l = true) : l.length ≤ 200 := by
  simp only [validB, Bool.and_eq_true, decide_eq_true_eq] at h; exact h.2
theorem validB_bad {l : List S36} (k : Nat) (hk : k < l.length) (h : vB l[k] = false) : validB l = false := by
  have : l.all vB = false := by rw [List.all_eq_false]; exact ⟨l[k], List.getElem_mem hk, by simp [h]⟩
  simp [validB, this]
/-- The number q of element i, or 0. -/
def at0 (q : S36 → Int) (l : List S36) (i : Nat) : Int := if h : i < l.length then q l[i] else 0
def preS (q : S36 → Int) (l : List S36) : Nat → Int
  | 0 => 0
  | k + 1 => preS q l k + at0 q l k
def Small (q : S36 → Int) (l : List S36) : Prop := ∀ i, i < l.length → 0 ≤ at0 q l i ∧ at0 q l i ≤ 1048576
theorem at0_lt {q : S36 → Int} {l : List S36} {i : Nat} (h : i < l.length) : at0 q l i = q l[i] := by simp [at0, h]
theorem at0_ge {q : S36 → Int} {l : List S36} {i : Nat} (h : ¬ i < l.length) : at0 q l i = 0 := by simp [at0, h]
theorem at0_small {q : S36 → Int} {l : List S36} (h : Small q l) (i : Nat) : 0 ≤ at0 q l i ∧ at0 q l i ≤ 1048576 := by
  by_cases hi : i < l.length
  · exact h i hi
  · rw [at0_ge hi]; omega
theorem preS_bound {q : S36 → Int} {l : List S36} (h : Small q l) : ∀ k, 0 ≤ preS q l k ∧ preS q l k ≤ k * 1048576
  | 0 => by simp [preS]
  | k + 1 => by
    have h1 := preS_bound h k
    have h2 := at0_small h k
    simp only [preS]
    push_cast
    omega
theorem preS_mono {q : S36 → Int} {l : List S36} (h : Small q l) {i j : Nat} (hij : i ≤ j) : preS q l i ≤ preS q l j := by
  induction hij with
  | refl => exact Int.le_refl _
  | step _ ih => have := at0_small h; simp only [preS]; have := (at0_small h ‹_›).1; omega
theorem preS_le {q : S36 → Int} {l : List S36} (h : Small q l) (hl : l.length ≤ 200) {k : Nat} (hk : k ≤ l.length) : preS q l k ≤ 209715200 := by
  have := (preS_bound h k).2; omega
def preW (l : List S36) : Nat → Int := preS (·.f0) l
def natV (l : List S36) : Int := preS (·.f0) l l.length
def qStr (o : Int) (x : S36) : Int := if x.f3 = o then x.f1 else 0
def strV (l : List S36) (o : Int) : Int := preS (qStr o) l l.length
def shrV (l : List S36) : Int := preS (·.f2) l l.length
theorem small_str {l : List S36} (h : validB l = true) (o : Int) : Small (qStr o) l := by
  intro i hi
  have := vB_spec (validB_at h i hi)
  rw [at0_lt hi]
  unfold qStr
  split <;> omega
theorem small_shr {l : List S36} (h : validB l = true) : Small (·.f2) l := by
  intro i hi
  have := vB_spec (validB_at h i hi)
  rw [at0_lt hi]
  omega
theorem at0_w {l : List S36} (h : validB l = true) (i : Nat) : -1048576 ≤ at0 (·.f0) l i ∧ at0 (·.f0) l i ≤ 1048576 := by
  by_cases hi : i < l.length
  · have := vB_spec (validB_at h i hi)
    rw [at0_lt hi]; omega
  · rw [at0_ge hi]; omega
theorem preW_bound {l : List S36} (h : validB l = true) : ∀ k : Nat, -((k : Int) * 1048576) ≤ preW l k ∧ preW l k ≤ k * 1048576
  | 0 => by simp [preW, preS]
  | k + 1 => by
    have h1 := preW_bound h k
    have h2 := at0_w h k
    unfold preW at h1 ⊢
    simp only [preS]
    push_cast
    omega
theorem natV_bound {l : List S36} (h : validB l = true) : -209715200 ≤ natV l ∧ natV l ≤ 209715200 := by
  have := preW_bound h l.length
  have := validB_len h
  unfold preW at *
  unfold natV
  omega
/-! ### what comes of a list, added up -/
theorem sumG_gUp (p : S36 → Option Int) (q : S36 → Int) (hpq : ∀ x, q x = (p x).getD 0) {l : List S36} (hs : Small q l) (hl : l.length ≤ 200) : ∀ k, k ≤ l.length → sumG (gUp p l k) = preS q l k
  | 0, _ => rfl
  | k + 1, hk => by
    have ih := sumG_gUp p q hpq hs hl k (by omega)
    have hlt : k < l.length := hk
    have hb := preS_bound hs k
    have ha := at0_small hs k
    simp only [preS]
    rw [at0_lt hlt] at ha ⊢
    rw [hpq] at ha ⊢
    cases hp : p l[k] with
    | none => rw [gUp_none hlt hp, ih]; simp
    | some v =>
      rw [hp] at ha
      rw [gUp_some hlt hp, sumG_snoc, ih]
      simp only [Option.getD_some] at ha ⊢
      exact wrap_id (by omega) (by omega)
def ordV (l : List S36) : Int := if 0 < strV l 3 then 3 else if 0 < strV l 2 then 2 else if 0 < strV l 1 then 1 else if 0 < strV l 0 then 0 else -1
theorem ordV_pos {l : List S36} (h : 0 ≤ ordV l) : 0 < strV l (ordV l) := by
  unfold ordV at h ⊢
  split
  · assumption
  · split
    · assumption
    · split
      · assumption
      · split
        · assumption
        · rename_i h1 h2 h3 h4; simp [h1, h2, h3, h4] at h
/-! ### shares -/
/-- The share of element i in G. -/
def shv (G T : Int) (q : S36 → Int) (l : List S36) (i : Nat) : Int := Int.tdiv (G * preS q l (i + 1)) T - Int.tdiv (G * preS q l i) T
theorem cut_bound {G T x : Int} (hG : 0 ≤ G) (hT : 0 < T) (hx : 0 ≤ x) (hx2 : x ≤ T) : 0 ≤ Int.tdiv (G * x) T ∧ Int.tdiv (G * x) T ≤ G := by
  have h0 : 0 ≤ G * x := Int.mul_nonneg hG hx
  rw [Int.tdiv_eq_ediv_of_nonneg h0]
  refine ⟨Int.ediv_nonneg h0 (by omega), ?_⟩
  refine Int.ediv_le_of_le_mul hT ?_
  exact Int.mul_le_mul_of_nonneg_left hx2 hG
theorem cut_mono {G T x y : Int} (hG : 0 ≤ G) (hT : 0 < T) (hx : 0 ≤ x) (hxy : x ≤ y) : Int.tdiv (G * x) T ≤ Int.tdiv (G * y) T := by
  have h1 := Int.mul_le_mul_of_nonneg_left hxy hG
  rw [Int.tdiv_eq_ediv_of_nonneg (Int.mul_nonneg hG hx), Int.tdiv_eq_ediv_of_nonneg (Int.mul_nonneg hG (by omega))]
  exact Int.ediv_le_ediv hT h1
theorem mul_small {G x : Int} (hG : 0 ≤ G) (hG2 : G ≤ 4294967296) (hx : 0 ≤ x) (hx2 : x ≤ 209715200) : 0 ≤ G * x ∧ G * x ≤ 900719925474099200 := by
  refine ⟨Int.mul_nonneg hG hx, ?_⟩
  have := Int.mul_le_mul hG2 hx2 hx (by omega)
  omega
/-- What shares need: a number that is shared out, and the parts. -/
structure Sh (G : Int) (q : S36 → Int) (l : List S36) : Prop where
  G0 : 0 ≤ G
  G1 : G ≤ 4294967296
  len : l.length ≤ 200
  small : Small q l
  pos : 0 < preS q l l.length
theorem Sh.cut {G : Int} {q : S36 → Int} {l : List S36} (h : Sh G q l) {k : Nat} (hk : k ≤ l.length) : 0 ≤ Int.tdiv (G * preS q l k) (preS q l l.length) ∧ Int.tdiv (G * preS q l k) (preS q l l.length) ≤ G :=
  cut_bound h.G0 h.pos (preS_bound h.small k).1 (preS_mono h.small hk)
theorem Sh.shv {G : Int} {q : S36 → Int} {l : List S36} (h : Sh G q l) {k : Nat} (hk : k < l.length) : 0 ≤ shv G (preS q l l.length) q l k ∧ shv G (preS q l l.length) q l k ≤ G := by
  have h1 := h.cut (k := k) (by omega)
  have h2 := h.cut (k := k + 1) (by omega)
  have h3 := cut_mono h.G0 h.pos (preS_bound h.small k).1 (preS_mono h.small (show k ≤ k + 1 by omega))
  unfold P.shv
  omega
theorem Sh.step {G : Int} {q : S36 → Int} {l : List S36} (h : Sh G q l) {k : Nat} (hk : k < l.length) :
    wrap64 (preS q l k + at0 q l k) = preS q l (k + 1) ∧ wrap64 (Int.tdiv (wrap64 (G * preS q l (k + 1))) (preS q l l.length)) = Int.tdiv (G * preS q l (k + 1)) (preS q l l.length) ∧
    wrap64 (Int.tdiv (G * preS q l (k + 1)) (preS q l l.length) - Int.tdiv (G * preS q l k) (preS q l l.length)) = P.shv G (preS q l l.length) q l k := by
  have h1 := h.cut (k := k) (by omega)
  have h2 := h.cut (k := k + 1) (by omega)
  have h3 := (preS_bound h.small (k + 1)).1
  have h4 := preS_le h.small h.len (k := k + 1) (by omega)
  have h5 := mul_small h.G0 h.G1 h3 h4
  have h6 := h.G1
  have h7 := h.shv hk
  refine ⟨wrap_id (by show _ ≤ preS q l (k + 1); omega) (by show preS q l (k + 1) ≤ _; omega), ?_, wrap_id (by unfold P.shv at h7; omega) (by unfold P.shv at h7; omega)⟩
  rw [wrap_id (x := G * preS q l (k + 1)) (by omega) (by omega)]
  exact wrap_id (by omega) (by omega)
theorem shv_zero {G T : Int} {q : S36 → Int} {l : List S36} {k : Nat} (h : at0 q l k = 0) : P.shv G T q l k = 0 := by
  unfold P.shv
  simp only [preS, h, Int.add_zero, Int.sub_self]
/-- The list when the first k have their shares. -/
def updV (f : Int → Int → Int) (G : Int) (q : S36 → Int) (l : List S36) (k : Nat) : List Int := tab l.length (fun i => if i < k then f (at0 (·.f0) l i) (shv G (preS q l l.length) q l i) else at0 (·.f0) l i)
theorem map_tab (l : List S36) : l.map (·.f0) = tab l.length (at0 (·.f0) l) := by
  apply List.ext_getElem (by simp [tab_len])
  intro i h1 h2
  rw [tab_get, at0_lt (by simpa using h1)]
  simp
theorem updV_zero (f : Int → Int → Int) (G : Int) (q : S36 → Int) (l : List S36) : updV f G q l 0 = l.map (·.f0) := by
  rw [map_tab]; exact tab_congr fun i _ => by simp
theorem updV_len (f : Int → Int → Int) (G : Int) (q : S36 → Int) (l : List S36) (k : Nat) : (updV f G q l k).length = l.length := tab_len _ _
theorem updV_rd (f : Int → Int → Int) (G : Int) (q : S36 → Int) (l : List S36) (k : Nat) (hk : k < l.length) : rd (updV f G q l k) (k : Int) = at0 (·.f0) l k := by
  unfold updV; rw [rd_tab _ _ _ hk]; simp
theorem updV_set (f : Int → Int → Int) (G : Int) (q : S36 → Int) (l : List S36) (k : Nat) : (updV f G q l k).set k (f (at0 (·.f0) l k) (shv G (preS q l l.length) q l k)) = updV f G q l (k + 1) := by
  unfold updV
  rw [tab_set]
  refine tab_congr fun i hi => ?_
  by_cases h : i = k
  · subst h; simp
  · rw [if_neg h]
    by_cases h2 : i < k
    · simp [h2, show i < k + 1 by omega]
    · simp [h2, show ¬ i < k + 1 by omega]
theorem updV_skip (f : Int → Int → Int) (hf : ∀ a, f a 0 = a) (G : Int) (q : S36 → Int) (l : List S36) (k : Nat) (h : at0 q l k = 0) : updV f G q l k = updV f G q l (k + 1) := by
  rw [← updV_set, shv_zero h, hf]
  unfold updV
  rw [tab_set]
  refine tab_congr fun i hi => ?_
  by_cases h : i = k
  · subst h; simp
  · rw [if_neg h]
/-- What the walk of Set does is this. -/
theorem shRun_gUp (f : Int → Int → Int) (hf0 : ∀ a, f a 0 = a) (hf : ∀ a b, -1048576 ≤ a → a ≤ 1048576 → 0 ≤ b → b ≤ 4294967296 → wrap64 (f a b) = f a b) (p : S36 → Option Int) (q : S36 → Int) (hpq : ∀ x, q x = (p x).getD 0) {G : Int} {l : List S36} (hv : validB l = true) (hs : Sh G q l) :
    ∀ k, k ≤ l.length → shRun f G (preS q l l.length) (l.map (·.f0)) (gUp p l k) = (updV f G q l k, preS q l k, Int.tdiv (G * preS q l k) (preS q l l.length))
  | 0, _ => by simp [gUp, shRun_nil, updV_zero, preS]
  | k + 1, hk => by
    have ih := shRun_gUp f hf0 hf p q hpq hv hs k (by omega)
    have hlt : k < l.length := hk
    have hst := hs.step hlt
    have hsv := hs.shv hlt
    have hw := at0_w hv k
    have hG := hs.G1
    have ha : at0 q l k = (p l[k]).getD 0 := by rw [at0_lt hlt, hpq]
    cases hp : p l[k] with
    | none =>
      rw [hp] at ha
      simp only [Option.getD_none] at ha
      rw [gUp_none hlt hp, ih, updV_skip f hf0 G q l k ha]
      simp only [preS, ha, Int.add_zero]
    | some v =>
      rw [hp] at ha
      simp only [Option.getD_some] at ha
      rw [gUp_some hlt hp, shRun_snoc, ih]
      unfold shStep
      simp only
      rw [← ha, hst.1, hst.2.1, hst.2.2, updV_rd _ _ _ _ _ hlt, hf _ _ hw.1 hw.2 hsv.1 (by omega), updV_set]
end Go.Proofs.Ytojcnndkdopahaa.P
