/- What proper and Valid answer, in the program and in the reference: plain lists, no program in sight. -/
import Derived.Test.YtomogpiahcnmjaaPoA
import Derived.Test.YtomogpiahcnmjaaSayOpdictValid
namespace Go.Proofs.Ytomogpiahcnmjaa.P
open Go.RowKit Go.Proofs.YtomogpiahcnmjaaW.PrintWords Go.Proofs.YtomogpiahcnmjaaW.PrintLast Go.Proofs.YtomogpiahcnmjaaW.PrintMore
open Go.Maps
theorem findFrom_any {α : Type} (p : α → Bool) : ∀ (l : List α) (n : Nat), decide (0 ≤ findFrom p l n) = l.any p
  | [], n => rfl
  | x :: xs, n => by
    by_cases hx : p x = true
    · simp [findFrom, hx]
    · have hx' : p x = false := by simpa using hx
      simp only [findFrom, hx', List.any_cons, Bool.false_or]
      exact findFrom_any p xs (n + 1)
theorem bt_eq (s : ByteArray) (i : Nat) (h : i < s.size) : bt s (i : Int) = (bytesOf s)[i]'(by rw [bytesOf_length]; exact h) := by
  have h' : ((i : Int)).toNat < s.size := by simpa using h
  rw [← bt_at s i h']
  simp [bytesOf]
  rfl
theorem properB_eq (t : ByteArray) (c : Int) : properB t c = (!((bytesOf t).any bad_op) && (decide (1 ≤ t.size) && (decide (t.size ≤ 16) && (decide (0 ≤ c) && decide (c ≤ 7))))) := by
  unfold properB
  rw [findFrom_any]
  cases decide (1 ≤ t.size) <;> cases decide (t.size ≤ 16) <;> cases (bytesOf t).any bad_op <;> cases decide (0 ≤ c) <;> rfl
theorem any_drop {α : Type} (p : α → Bool) (l : List α) (i : Nat) (h : i < l.length) : (l.drop i).any p = (p l[i] || (l.drop (i + 1)).any p) := by
  rw [List.drop_eq_getElem_cons h, List.any_cons]
theorem refProper_ev (t : ByteArray) (c : Int) (a b : Bool) (ht : t.size ≤ 9223372036854775807) : Ev (fun k => vinculumref08_proper.f k t c a b) (properB t c) := by
  have key := ev_up (fun k i (_ : Unit) => vinculumref08_proper.l0 k i t c a b) t.size (fun i _ => !(((bytesOf t).drop i).any bad_op) && (decide (1 ≤ t.size) && (decide (t.size ≤ 16) && (decide (0 ≤ c) && decide (c ≤ 7))))) (fun _ _ => True)
    (fun s _ k => by
      simp only [vinculumref08_proper.l0]
      rw [if_neg (by omega), List.drop_eq_nil_of_le (by rw [bytesOf_length]; omega)]
      simp only [List.any_nil, Bool.not_false, Bool.true_and]
      by_cases h1 : 1 ≤ t.size
      · rw [if_pos (by omega)]
        by_cases h2 : t.size ≤ 16
        · rw [if_pos (by omega)]
          by_cases h3 : 0 ≤ c
          · rw [if_pos h3]; simp [h1, h2, h3]
          · rw [if_neg h3]; simp [show decide (0 ≤ c) = false by simpa using h3]
        · rw [if_neg (by omega)]; simp [h2]
      · rw [if_neg (by omega)]; simp [h1])
    (fun i s hi _ => by
      have hb := bt_eq t i hi
      have hl : i < (bytesOf t).length := by rw [bytesOf_length]; exact hi
      by_cases h1 : (bytesOf t)[i] < 33
      · refine .inl fun k => ?_
        simp only [vinculumref08_proper.l0, hb]
        rw [if_pos (by omega), if_pos (by omega), if_pos h1, any_drop _ _ _ hl]
        simp [bad_op, h1]
      · by_cases h2 : (bytesOf t)[i] > 126
        · refine .inl fun k => ?_
          simp only [vinculumref08_proper.l0, hb]
          rw [if_pos (by omega), if_pos (by omega), if_neg h1, if_pos h2, any_drop _ _ _ hl]
          have : decide (126 < (bytesOf t)[i]) = true := by simpa using h2
          simp [bad_op, this]
        · refine .inr ⟨(), trivial, fun k => ?_, ?_⟩
          · simp only [vinculumref08_proper.l0, hb]
            rw [if_pos (by omega), if_pos (by omega), if_neg h1, if_neg h2, wrap_succ (by omega)]
          · rw [any_drop _ _ _ hl]
            have e1 : decide ((bytesOf t)[i] < 33) = false := by simpa using h1
            have e2 : decide (126 < (bytesOf t)[i]) = false := by simpa using h2
            simp [bad_op, e1, e2])
  have := key 0 () (Nat.zero_le _) trivial
  rw [properB_eq]
  simpa [vinculumref08_proper.f] using this
theorem properB_big (t : ByteArray) (c : Int) (h : properB t c = true) : t.size ≤ 16 := properB_size h
/-- One entry behind the other: proper, and its text is new. -/
def chk : List S27 → List S27 → Bool
  | _, [] => true
  | seen, x :: xs => (properB x.f0 x.f1 && !(seen.any fun y => y.f0.toList == x.f0.toList)) && chk (seen ++ [x]) xs
def chkK : List Lit → List Lit → Bool
  | _, [] => true
  | acc, x :: xs => !(acc.any fun y => y.sameKey x) && chkK (acc ++ [x]) xs
theorem fold_le (xs : List Lit) : ∀ acc : List Lit, (xs.foldl addKey acc).length ≤ acc.length + xs.length := by
  induction xs with
  | nil => intro acc; simp
  | cons x xs ih =>
    intro acc
    simp only [List.foldl_cons, List.length_cons]
    have := ih (addKey acc x)
    have h2 : (addKey acc x).length ≤ acc.length + 1 := by unfold addKey; split <;> simp
    omega
theorem fold_eq (xs : List Lit) : ∀ acc : List Lit, ((xs.foldl addKey acc).length == acc.length + xs.length) = chkK acc xs := by
  induction xs with
  | nil => intro acc; simp [chkK]
  | cons x xs ih =>
    intro acc
    simp only [List.foldl_cons, List.length_cons, chkK]
    by_cases h : (acc.any fun y => y.sameKey x) = true
    · have e : addKey acc x = acc := by unfold addKey; rw [if_pos h]
      have := fold_le xs acc
      rw [e, h]
      simp
      omega
    · have e : addKey acc x = acc ++ [x] := by unfold addKey; rw [if_neg h]
      have h' : (acc.any fun y => y.sameKey x) = false := by simpa using h
      rw [e, h', ← ih (acc ++ [x])]
      simp only [List.length_append, List.length_singleton, Bool.not_false, Bool.true_and]
      congr 1
      omega
theorem sameKey_text (x y : S27) : (keyB x).sameKey (keyB y) = (x.f0.toList == y.f0.toList) := by
  rw [ByteArray.toList_eq, ByteArray.toList_eq]
  rfl
theorem chk_split (xs : List S27) : ∀ seen : List S27, chk seen xs = (xs.all (fun x => properB x.f0 x.f1) && chkK (seen.map keyB) (xs.map keyB)) := by
  induction xs with
  | nil => intro seen; rfl
  | cons x xs ih =>
    intro seen
    simp only [chk, chkK, List.map_cons, List.all_cons]
    rw [ih (seen ++ [x]), List.map_append, List.any_map]
    simp only [Function.comp_def, sameKey_text, List.map_cons, List.map_nil]
    cases properB x.f0 x.f1 <;> cases (seen.any fun y => y.f0.toList == x.f0.toList) <;> cases (xs.all fun x => properB x.f0 x.f1) <;> simp
theorem validB_chk (l : List S27) : validB l = (chk [] l && decide (l.length ≤ 200)) := by
  unfold validB
  rw [chk_split, ← fold_eq]
  simp only [List.map_nil, List.length_nil, Nat.zero_add, List.length_map]
  cases (l.all fun x => properB x.f0 x.f1) <;> cases decide (l.length ≤ 200) <;> simp
theorem chk_drop (l : List S27) (i : Nat) (h : i < l.length) : chk (l.take i) (l.drop i) = ((properB l[i].f0 l[i].f1 && !((l.take i).any fun y => y.f0.toList == l[i].f0.toList)) && chk (l.take (i + 1)) (l.drop (i + 1))) := by
  rw [List.drop_eq_getElem_cons h, chk, List.take_succ_eq_append_getElem h]
theorem any_take_succ {α : Type} (p : α → Bool) (l : List α) (i : Nat) (h : i < l.length) : (l.take (i + 1)).any p = ((l.take i).any p || p l[i]) := by
  rw [List.take_succ_eq_append_getElem h, List.any_append]; simp
theorem refInner (l : List S27) (hl : l.length ≤ 4398046511104) (i : Nat) (hi : i < l.length) (r : Bool) (hr : Ev (fun k => vinculumref08_Valid.l0 k l ((i + 1 : Nat) : Int)) r) :
    Ev (fun k => vinculumref08_Valid.l1 k l (i : Int) 0) (!((l.take i).any fun y => y.f0.toList == l[i].f0.toList) && r) := by
  have hri := rdT_int l i hi
  have key := ev_upE (fun k j (_ : Unit) => vinculumref08_Valid.l1 k l (i : Int) j) i (fun j _ => !(((l.take i).drop j).any fun y => y.f0.toList == l[i].f0.toList) && r) (fun _ _ => True)
    (fun s _ => by
      rw [List.drop_eq_nil_of_le (by simp; omega)]
      simp only [List.any_nil, Bool.not_false, Bool.true_and]
      refine Ev.congr (fun k => ?_) hr
      simp only [vinculumref08_Valid.l1]
      rw [if_neg (by omega), wrap_succ (by omega)])
    (fun j s hj _ => by
      have hrj := rdT_int l j (by omega)
      have hjt : j < (l.take i).length := by simp; omega
      have hget : (l.take i)[j] = l[j] := by simp
      by_cases hp : (l[j].f0.toList == l[i].f0.toList) = true
      · refine .inl (Ev.some fun k => ?_)
        simp only [vinculumref08_Valid.l1, hri, hrj]
        rw [if_pos (by omega), if_pos (by omega), if_pos (by omega), if_pos (by omega), if_pos (by omega), if_pos (by simpa using hp), any_drop _ _ _ hjt, hget, hp]
        rfl
      · have hp' : (l[j].f0.toList == l[i].f0.toList) = false := by simpa using hp
        refine .inr ⟨(), trivial, fun r' h => Ev.congr (fun k => ?_) h, ?_⟩
        · simp only [vinculumref08_Valid.l1, hri, hrj]
          rw [if_pos (by omega), if_pos (by omega), if_pos (by omega), if_pos (by omega), if_pos (by omega), if_neg (by simpa using hp), wrap_succ (by omega)]
        · rw [any_drop _ _ _ hjt, hget, hp']
          rfl)
  have := key 0 () (Nat.zero_le _) trivial
  simpa using this
theorem refValid_ev (l : List S27) (hl : l.length ≤ 4398046511104) (hw : ∀ y ∈ l, y.f0.size ≤ 9223372036854775807) : Ev (fun k => vinculumref08_Valid.f k l) (validB l) := by
  have key : ∀ d i, i + d = l.length → Ev (fun k => vinculumref08_Valid.l0 k l (i : Int)) (chk (l.take i) (l.drop i) && decide (l.length ≤ 200)) := by
    intro d
    induction d with
    | zero =>
      intro i hi
      obtain rfl : i = l.length := by omega
      refine Ev.step (f := fun _ => some (chk (l.take l.length) (l.drop l.length) && decide (l.length ≤ 200))) (fun k => ?_) (Ev.now _)
      simp only [vinculumref08_Valid.l0]
      rw [if_neg (by omega), List.drop_eq_nil_of_le (Nat.le_refl _)]
      have e : decide ((l.length : Int) ≤ 200) = decide (l.length ≤ 200) := by rw [Bool.eq_iff_iff]; simp; omega
      rw [e]
      rfl
    | succ d ih =>
      intro i hi
      have hlt : i < l.length := by omega
      have hr := rdT_int l i hlt
      refine Ev.step (f := fun k => (vinculumref08_proper.f k l[i].f0 l[i].f1 l[i].f2 l[i].f3).bind fun t => if t = true then vinculumref08_Valid.l1 k l (i : Int) 0 else some false) (fun k => ?_) ?_
      · simp only [vinculumref08_Valid.l0, hr]
        rw [if_pos (by omega), if_pos (by omega)]
      · refine Ev.bind (refProper_ev _ _ _ _ (hw _ (List.getElem_mem hlt))) ?_
        rw [chk_drop l i hlt]
        cases hp : properB l[i].f0 l[i].f1 with
        | false => exact Ev.neg (by simp) (Ev.ret (by simp))
        | true =>
          refine Ev.pos rfl ?_
          have := refInner l hl i hlt _ (ih (i + 1) (by omega))
          simpa [Bool.and_assoc] using this
  have := key l.length 0 (by omega)
  rw [validB_chk]
  simpa [vinculumref08_Valid.f] using this
theorem valid_eq (l : List S27) (hl : l.length ≤ 4398046511104) : opdict_Valid.f l = some (validB l) := by
  unfold opdict_Valid.f
  rw [if_pos (by omega)]
end Go.Proofs.Ytomogpiahcnmjaa.P
