/- OpdictBuilt: the pure statement of the law OpdictBuilt is proved: for every input its printed function answers true. No condition beyond those of the row. -/
import Derived.Test.YtomogpiahcnmjaaSayOpdictBuilt
import Derived.Test.YtomogpiahcnmjaaPoE
namespace Go.Proofs.Ytomogpiahcnmjaa.P
open Go.RowKit Go.Proofs.YtomogpiahcnmjaaW.PrintWords Go.Proofs.YtomogpiahcnmjaaW.PrintLast Go.Proofs.YtomogpiahcnmjaaW.PrintMore
/-- The last entry of a text, or what stood for it before. -/
def lastS (t : ByteArray) (l : List S27) (x : S27) : S27 := l.foldl (fun acc y => if y.f0 = t then y else acc) x
theorem lastS_text (t : ByteArray) (l : List S27) : ∀ x : S27, x.f0 = t → (lastS t l x).f0 = t := by
  induction l with
  | nil => intro x h; exact h
  | cons y ys ih =>
    intro x h
    unfold lastS
    rw [List.foldl_cons]
    by_cases hy : y.f0 = t
    · rw [if_pos hy]; exact ih y hy
    · rw [if_neg hy]; exact ih x h
theorem lastS_take (t : ByteArray) (l : List S27) (x : S27) (i : Nat) (h : i < l.length) : lastS t (l.take (i + 1)) x = if l[i].f0 = t then l[i] else lastS t (l.take i) x := by
  rw [List.take_succ_eq_append_getElem h]
  unfold lastS
  rw [List.foldl_append]
  rfl
theorem lastS_drop (t : ByteArray) (l : List S27) (x : S27) (i : Nat) (h : i < l.length) : lastS t (l.drop i) x = lastS t (l.drop (i + 1)) (if l[i].f0 = t then l[i] else x) := by
  rw [List.drop_eq_getElem_cons h]
  rfl
theorem lastS_split (t : ByteArray) (l : List S27) (x : S27) (i : Nat) : lastS t l x = lastS t (l.drop i) (lastS t (l.take i) x) := by
  unfold lastS
  rw [← List.foldl_append, List.take_append_drop]
theorem lastS_at (l : List S27) (x : S27) (i : Nat) (h : i < l.length) : lastS l[i].f0 l x = lastS l[i].f0 (l.drop i) l[i] := by
  rw [lastS_split _ l x i, lastS_drop _ _ _ _ h, lastS_drop _ _ _ _ h, if_pos rfl, if_pos rfl]
/-- d is what the first m entries build. -/
structure Built (l : List S27) (m : Nat) (d : List S27) : Prop where
  dict : Dict d
  len : d.length ≤ m
  find : ∀ t, findS d t = lastS t (l.take m) ⟨t, 0, false, false⟩
theorem inner_ev (l d : List S27) (hl : l.length ≤ 60) (i : Nat) (hi : i < l.length) (hb : Built l l.length d) (r : Bool) (hr : Ev (fun k => vinculumlaw08_OpdictBuilt.l1 k l d ((i + 1 : Nat) : Int)) r) :
    ∀ (n j : Nat) (x : S27), j + n = l.length → x.f0 = l[i].f0 → lastS l[i].f0 (l.drop j) x = lastS l[i].f0 l ⟨l[i].f0, 0, false, false⟩ →
      Ev (fun k => vinculumlaw08_OpdictBuilt.l2 k l d (i : Int) (j : Int) x.f0 x.f1 x.f2 x.f3) r := by
  have hri := rdT_int l i hi
  intro n
  induction n with
  | zero =>
    intro j x hj hx hlast
    obtain rfl : j = l.length := by omega
    rw [List.drop_eq_nil_of_le (Nat.le_refl _)] at hlast
    refine Ev.step (f := fun k => (opdict_Find.f d l[i].f0).bind fun bt256 => (if (!(bt256.1.toList == x.f0.toList) || (!(bt256.2.1 == x.f1) || (!(bt256.2.2.1 == x.f2) || (!(bt256.2.2.2 == x.f3))))) = true then (some false) else (vinculumlaw08_OpdictBuilt.l1 k l d (wrap64 ((i : Int) + 1))))) (fun k => ?_) ?_
    · simp only [vinculumlaw08_OpdictBuilt.l2, hri]
      rw [if_neg (by omega), if_pos (by omega), if_pos (by omega)]
    · refine Ev.bindO (find_eq d l[i].f0) ?_
      have hf := hb.find l[i].f0
      rw [List.take_length, ← hlast] at hf
      have hf' : findS d l[i].f0 = x := hf
      rw [hf']
      refine Ev.neg (by simp) ?_
      rw [wrap_succ (by omega)]
      exact hr
  | succ n ih =>
    intro j x hj hx hlast
    have hjl : j < l.length := by omega
    have hrj := rdT_int l j hjl
    rw [lastS_drop _ _ _ _ hjl] at hlast
    by_cases hp : l[j].f0 = l[i].f0
    · rw [if_pos hp] at hlast
      refine Ev.step (f := fun k => vinculumlaw08_OpdictBuilt.l2 k l d (i : Int) ((j + 1 : Nat) : Int) l[j].f0 l[j].f1 l[j].f2 l[j].f3) (fun k => ?_) (ih (j + 1) l[j] (by omega) hp hlast)
      simp only [vinculumlaw08_OpdictBuilt.l2, hrj]
      rw [if_pos (by omega), if_pos (by omega), if_pos (by rw [hp, hx]), wrap_succ (by omega)]
    · rw [if_neg hp] at hlast
      refine Ev.step (f := fun k => vinculumlaw08_OpdictBuilt.l2 k l d (i : Int) ((j + 1 : Nat) : Int) x.f0 x.f1 x.f2 x.f3) (fun k => ?_) (ih (j + 1) x (by omega) hx hlast)
      simp only [vinculumlaw08_OpdictBuilt.l2, hrj]
      rw [if_pos (by omega), if_pos (by omega), if_neg (by rw [hx, toList_inj]; exact hp), wrap_succ (by omega)]
theorem outer_ev (l d : List S27) (hl : l.length ≤ 60) (hb : Built l l.length d) : ∀ (n i : Nat), i + n = l.length → Ev (fun k => vinculumlaw08_OpdictBuilt.l1 k l d (i : Int)) true := by
  intro n
  induction n with
  | zero =>
    intro i hi
    refine Ev.step (f := fun _ => some true) (fun k => ?_) (Ev.now true)
    simp only [vinculumlaw08_OpdictBuilt.l1]
    rw [if_neg (by omega)]
  | succ n ih =>
    intro i hi
    have hil : i < l.length := by omega
    have hri := rdT_int l i hil
    refine Ev.step (f := fun k => vinculumlaw08_OpdictBuilt.l2 k l d (i : Int) (i : Int) l[i].f0 l[i].f1 l[i].f2 l[i].f3) (fun k => ?_) (inner_ev l d hl i hil hb true (ih (i + 1) (by omega)) (l.length - i) i l[i] (by omega) rfl (lastS_at l _ i hil).symm)
    simp only [vinculumlaw08_OpdictBuilt.l1, hri]
    rw [if_pos (by omega), if_pos (by omega)]
theorem build_ev (l : List S27) (hl : l.length ≤ 60) : ∀ (n m : Nat) (d : List S27), m + n = l.length → Built l m d → Ev (fun k => vinculumlaw08_OpdictBuilt.l0 k l d (m : Int)) true := by
  intro n
  induction n with
  | zero =>
    intro m d hm hb
    obtain rfl : m = l.length := by omega
    refine Ev.step (f := fun k => (opdict_Valid.f d).bind fun t250 => (if t250 = true then (vinculumlaw08_OpdictBuilt.j1 k l d (decide ((d.length : Int) > (l.length : Int)))) else (vinculumlaw08_OpdictBuilt.j1 k l d true))) (fun k => ?_) ?_
    · simp only [vinculumlaw08_OpdictBuilt.l0]
      rw [if_neg (by omega)]
    · have := hb.len
      refine Ev.bindO (valid_eq d (by omega)) ?_
      refine Ev.pos ((validB_iff d).2 hb.dict) ?_
      rw [show decide ((d.length : Int) > (l.length : Int)) = false by simp; omega]
      refine Ev.step (f := fun k => vinculumlaw08_OpdictBuilt.l1 k l d 0) (fun k => ?_) (outer_ev l d hl hb l.length 0 (by omega))
      simp only [vinculumlaw08_OpdictBuilt.j1]
      rw [if_neg (by simp)]
  | succ n ih =>
    intro m d hm hb
    have hml : m < l.length := by omega
    have hr := rdT_int l m hml
    have hbl := hb.len
    refine Ev.step (f := fun k => (opdict_With.f k d l[m].f0 l[m].f1 l[m].f2 l[m].f3).bind fun bt241 => (if bt241.2 = 0 then (vinculumlaw08_OpdictBuilt.l0 k l bt241.1 ((m + 1 : Nat) : Int)) else (if bt241.2 = 1 then ((opdict_Valid.f [l[m]]).bind fun t249 => (some (!t249))) else (some false)))) (fun k => ?_) ?_
    · simp only [vinculumlaw08_OpdictBuilt.l0, hr]
      rw [if_pos (by omega), if_pos (by omega), wrap_succ (by omega)]
    · refine Ev.bind (with_ev d l[m] (by omega)) ?_
      refine Ev.ite (fun h0 => ?_) (fun h0 => ?_)
      · obtain ⟨hd, he, hf, _, hlen⟩ := withS_ok h0
        refine ih (m + 1) _ (by omega) ⟨hd, by omega, fun t => ?_⟩
        rw [lastS_take t l _ m hml]
        by_cases ht : l[m].f0 = t
        · rw [if_pos ht, ← ht, findS_mem hd.2.1 he]
        · rw [if_neg ht, hf t (Ne.symm ht), hb.find t]
      · rcases withS_cases d l[m] with ⟨h1, h2⟩ | ⟨_, _, ⟨i, hi, _, h1⟩ | ⟨_, ⟨h2, _⟩ | ⟨_, h1⟩⟩⟩
        · rw [h1]
          refine Ev.pos rfl ?_
          refine Ev.bindO (valid_eq [l[m]] (by simp)) ?_
          refine Ev.ret ?_
          have hp : ¬ properB l[m].f0 l[m].f1 = true := fun hp => h2 ⟨(validB_iff d).2 hb.dict, hp⟩
          have : validB [l[m]] = false := by
            rw [Bool.eq_false_iff]
            intro hv
            exact hp (((validB_iff _).1 hv).1 _ (by simp))
          rw [this]
          rfl
        · rw [h1] at h0; exact absurd rfl h0
        · omega
        · rw [h1] at h0; exact absurd rfl h0
theorem OpdictBuilt.pure : OpdictBuilt.Pure := by
  intro l hl hw
  refine Ev.rounds (g := fun k => vinculumlaw08_OpdictBuilt.f k l) ?_
  unfold vinculumlaw08_OpdictBuilt.f
  refine Ev.bindO awake_eq ?_
  refine Ev.pos rfl ?_
  refine Ev.ite (fun _ => Ev.ret rfl) (fun h => ?_)
  refine build_ev l (by omega) l.length 0 [] (by omega) ⟨⟨by simp, by simp, by simp⟩, by simp, fun t => ?_⟩
  rw [findS_none (by simp)]
  rfl
end Go.Proofs.Ytomogpiahcnmjaa.P
