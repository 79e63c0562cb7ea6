/- What Valid of layer 28 and of its reference answer. No program in sight. -/
import Derived.Test.YtnnhhkjcjkinpaaPoA
namespace Go.Proofs.Ytnnhhkjcjkinpaa.P
open Go.RowKit Go.Proofs.YtnnhhkjcjkinpaaW.PrintWords Go.Proofs.YtnnhhkjcjkinpaaW.PrintLast Go.Proofs.YtnnhhkjcjkinpaaW.PrintMore
set_option linter.unusedSimpArgs false
set_option linter.unusedVariables false
/-! ### the deepest path -/
theorem nested_ev : ∀ (x : S28), cntT x ≤ 1000000 → ∃ r : Nat, 1 ≤ r ∧ r ≤ cntT x ∧ Ev (fun k => vinculumref28_Nested.f k x.f0 x.f1 x.f2 x.f3 x.f4 x.f5 x.f6 x.f7 x.f8 x.f9 x.f10) (r : Int) ∧ ∀ m : Nat, nestF m x = ((min r (m + 1) : Nat) : Int) := by
  refine tree_ind fun x ih hc => ?_
  have hlen := cntK_len x.f8
  have hct := cntT_eq x
  have hkid := fun i hi => cntT_kid x i hi
  -- the greatest of the first i kids
  have hex : ∀ i, i ≤ x.f8.length → ∃ r : Nat, r ≤ cntK (x.f8.take i) ∧ (∀ g : Int → Nat → Nat → Option Int, True) ∧ (∀ m : Nat, nestU m x.f8 i = ((min r (m + 1) : Nat) : Int)) := by
    intro i
    induction i with
    | zero => intro _; exact ⟨0, by omega, fun _ => trivial, fun m => by simp [nestU]⟩
    | succ i ihi =>
      intro hi
      obtain ⟨r, h1, _, h2⟩ := ihi (by omega)
      obtain ⟨q, q1, q2, _, q4⟩ := ih i (by omega) (by have := hkid i (by omega); omega)
      refine ⟨max r q, by rw [cntK_succ _ _ (by omega)]; omega, fun _ => trivial, fun m => ?_⟩
      rw [nestU_succ _ _ _ (by omega), h2, q4]
      unfold mx
      split <;> omega
  -- the run over the kids
  have hrun : ∀ i, i ≤ x.f8.length → ∀ r : Nat, (∀ m : Nat, nestU m x.f8 i = ((min r (m + 1) : Nat) : Int)) → r ≤ cntK (x.f8.take i) → True := fun _ _ _ _ _ => trivial
  obtain ⟨R, hR1, _, hR2⟩ := hex x.f8.length (Nat.le_refl _)
  rw [List.take_length] at hR1
  refine ⟨R + 1, by omega, by omega, ?_, fun m => ?_⟩
  · refine Ev.step (f := fun k => vinculumref28_Nested.l0 k 0 0 x.f0 x.f1 x.f2 x.f3 x.f4 x.f5 x.f6 x.f7 x.f8 x.f9 x.f10) (fun k => by simp only [vinculumref28_Nested.f]) ?_
    have key := ev_upE (fun k i n => vinculumref28_Nested.l0 k n i x.f0 x.f1 x.f2 x.f3 x.f4 x.f5 x.f6 x.f7 x.f8 x.f9 x.f10) x.f8.length (fun _ _ => ((R + 1 : Nat) : Int)) (fun i n => n = nestU 2000000 x.f8 i)
      (fun n hI => by
        simp only [vinculumref28_Nested.l0]
        refine Ev.neg (by omega) (Ev.ret ?_)
        have := hR2 2000000
        rw [hI, this, wrap_id (by omega) (by omega)]
        omega)
      (fun i n hi hI => by
        refine .inr ⟨nestU 2000000 x.f8 (i + 1), rfl, fun r hr => ?_, rfl⟩
        obtain ⟨q, q1, q2, q3, q4⟩ := ih i hi (by have := hkid i hi; omega)
        simp only [vinculumref28_Nested.l0]
        rw [rdT28_nat _ i hi]
        refine Ev.pos (by omega) (Ev.pos (by omega) (Ev.bind q3 ?_))
        rw [wrap_succ (by omega)]
        have hq := q4 2000000
        have hqc := hkid i hi
        have : mx n (q : Int) = nestU 2000000 x.f8 (i + 1) := by
          rw [nestU_succ _ _ _ hi, hI, hq]
          congr 1
          omega
        rw [this]
        exact hr)
    exact key 0 0 (Nat.zero_le _) (by simp [nestU])
  · cases m with
    | zero => simp [nestF]
    | succ m =>
      have := hR2 m
      unfold nestU at this
      rw [List.take_length] at this
      simp only [nestF]
      rw [this]
      omega
/-! ### one box -/
theorem findFrom_neg {α : Type} (p : α → Bool) (l : List α) (n : Nat) : 0 ≤ findFrom p l n ↔ l.any p = true := by
  induction l generalizing n with
  | nil => simp [findFrom]
  | cons x l ih =>
    rw [findFrom, List.any_cons]
    cases p x with
    | true => simp
    | false => simpa using ih (n + 1)
theorem source_ev (x : S28) (hw : wf28 x) : Ev (fun k => vinculumref28_source.f k x.f0 x.f1 x.f2 x.f3 x.f4 x.f5 x.f6 x.f7 x.f8 x.f9 x.f10) (srcB x) := by
  have hl := wf_src hw
  unfold vinculumref28_source.f
  have hbad : ∀ i, ∀ hi : i < x.f10.length, x.f10[i] < 0 → srcB x = false := fun i hi h => by
    have : 0 ≤ findFrom neg_b x.f10 0 := (findFrom_neg _ _ _).2 (List.any_eq_true.2 ⟨_, List.getElem_mem hi, by simpa [neg_b] using h⟩)
    unfold srcB
    rw [decide_eq_true this]
    rfl
  have key := ev_up (fun k i (_ : Unit) => vinculumref28_source.l0 k i x.f0 x.f1 x.f2 x.f3 x.f4 x.f5 x.f6 x.f7 x.f8 x.f9 x.f10) x.f10.length (fun _ _ => srcB x) (fun i _ => ∀ j, j < i → ∀ hj : j < x.f10.length, 0 ≤ x.f10[j])
    (fun s hI k => by
      have hg : ¬ 0 ≤ findFrom neg_b x.f10 0 := fun h => by
        obtain ⟨y, hy, hy2⟩ := List.any_eq_true.1 ((findFrom_neg _ _ _).1 h)
        obtain ⟨j, hj, rfl⟩ := List.getElem_of_mem hy
        have := hI j hj hj
        simp [neg_b] at hy2
        omega
      simp only [vinculumref28_source.l0]
      rw [if_neg (by omega)]
      unfold srcB
      rw [decide_eq_false hg]
      simp only [Bool.not_false, Bool.true_and]
      have hb : ((x.f10.length : Int) == 0) = decide (x.f10.length = 0) := by rw [Bool.eq_iff_iff]; simp
      by_cases e0 : x.f9 = 0
      · rw [if_pos e0, if_pos e0, hb]
      · rw [if_neg e0, if_neg e0]
        by_cases e1 : x.f9 = 1
        · rw [if_pos e1, if_pos e1]
          by_cases hp : x.f10.length % 2 = 0
          · rw [if_pos (by omega), decide_eq_true hp, Bool.true_and]
            congr 1
            exact decide_eq_decide.2 (by omega)
          · rw [if_neg (by omega), decide_eq_false hp]
            rfl
        · rw [if_neg e1, if_neg e1]
          by_cases e2 : x.f9 = 2
          · rw [if_pos e2, if_pos e2]
            by_cases hp : x.f10.length % 2 = 1
            · rw [if_pos (by omega), decide_eq_true hp, Bool.true_and]
              congr 1
              exact decide_eq_decide.2 (by omega)
            · rw [if_neg (by omega), decide_eq_false hp]
              rfl
          · rw [if_neg e2, if_neg e2])
    (fun i s hi hI => by
      by_cases hn : x.f10[i] < 0
      · refine .inl fun k => ?_
        simp only [vinculumref28_source.l0]
        rw [if_pos (by omega), if_pos (by omega), rd_nat _ i hi, if_pos hn, hbad i hi hn]
      · refine .inr ⟨(), fun j hj hl => ?_, fun k => ?_, rfl⟩
        · by_cases e : j = i
          · subst e; omega
          · exact hI j (by omega) hl
        · simp only [vinculumref28_source.l0]
          rw [if_pos (by omega), if_pos (by omega), rd_nat _ i hi, if_neg hn, wrap_succ (by omega)])
  exact key 0 () (Nat.zero_le _) (fun j hj => by omega)
def nameB (s : ByteArray) : Bool := decide (1 ≤ s.size) && (decide (s.size ≤ 16) && !(decide (0 ≤ findFrom bad_ch (bytesOf s) 0)))
theorem name_ev (s : ByteArray) (hs : s.size ≤ 9223372036854775807) : Ev (fun k => vinculumref05_Name.f k s) (nameB s) := by
  unfold vinculumref05_Name.f
  have hbl := bytesOf_length s
  have hget : ∀ i, ∀ hi : i < (bytesOf s).length, bt s (i : Int) = (bytesOf s)[i] := fun i hi => by rw [← rd_bytesOf, rd_nat _ i hi]
  have hbad : ∀ i, ∀ hi : i < (bytesOf s).length, bad_ch (bytesOf s)[i] = true → nameB s = false := fun i hi h => by
    have : 0 ≤ findFrom bad_ch (bytesOf s) 0 := (findFrom_neg _ _ _).2 (List.any_eq_true.2 ⟨_, List.getElem_mem hi, h⟩)
    unfold nameB
    rw [decide_eq_true this]
    simp
  have key := ev_up (fun k i (_ : Unit) => vinculumref05_Name.l0 k s i) s.size (fun _ _ => nameB s) (fun i _ => ∀ j, j < i → ∀ hj : j < (bytesOf s).length, bad_ch (bytesOf s)[j] = false)
    (fun u hI k => by
      have hg : ¬ 0 ≤ findFrom bad_ch (bytesOf s) 0 := fun h => by
        obtain ⟨y, hy, hy2⟩ := List.any_eq_true.1 ((findFrom_neg _ _ _).1 h)
        obtain ⟨j, hj, rfl⟩ := List.getElem_of_mem hy
        rw [hI j (by omega) hj] at hy2
        cases hy2
      simp only [vinculumref05_Name.l0]
      rw [if_neg (by omega)]
      unfold nameB
      rw [decide_eq_false hg]
      by_cases h1 : 1 ≤ s.size
      · rw [if_pos (by omega), decide_eq_true h1]
        simp only [Bool.not_false, Bool.and_true, Bool.true_and]
        congr 1
        exact decide_eq_decide.2 (by omega)
      · rw [if_neg (by omega), decide_eq_false h1]
        rfl)
    (fun i u hi hI => by
      have hi' : i < (bytesOf s).length := by omega
      cases hb : bad_ch (bytesOf s)[i] with
      | true =>
        refine .inl fun k => ?_
        simp only [vinculumref05_Name.l0]
        rw [if_pos (by omega), if_pos (by omega), hget i hi', hbad i hi' hb]
        simp [bad_ch] at hb
        (repeat' split) <;> first | rfl | omega
      | false =>
        refine .inr ⟨(), fun j hj hl => ?_, fun k => ?_, rfl⟩
        · by_cases e : j = i
          · subst e; exact hb
          · exact hI j (by omega) hl
        · simp only [vinculumref05_Name.l0]
          simp [bad_ch] at hb
          rw [if_pos (by omega), if_pos (by omega), hget i hi', if_neg (by omega), if_neg (by omega), wrap_succ (by omega)])
  exact key 0 () (Nat.zero_le _) (fun j hj => by omega)
def allP (x : S28) : Bool := (flatV x 0 0).all (fun q => prpB q.1)
theorem allP_any : ∀ (x : S28) (X Y : Int), (flatV x X Y).all (fun q => prpB q.1) = allP x := by
  refine tree_ind fun x ih X Y => ?_
  unfold allP
  rw [flatV_eq, flatV_eq, List.all_cons, List.all_cons]
  congr 1
  have key : ∀ k, k ≤ x.f8.length → (kidsV (x.f8.take k) X Y).all (fun q => prpB q.1) = (kidsV (x.f8.take k) 0 0).all (fun q => prpB q.1) := by
    intro k
    induction k with
    | zero => intro _; simp [kidsV]
    | succ k ihk =>
      intro hk
      rw [kidsV_succ _ _ _ _ (by omega), kidsV_succ _ _ _ _ (by omega), List.all_append, List.all_append, ihk (by omega), ih k (by omega), ih k (by omega)]
  have := key _ (Nat.le_refl _)
  rwa [List.take_length] at this
theorem allP_eq (x : S28) : allP x = (prpB x && x.f8.all allP) := by
  unfold allP
  rw [flatV_eq, List.all_cons]
  congr 1
  unfold kidsV
  rw [List.all_flatMap]
  congr 1
  funext k
  exact allP_any k _ _
theorem kindB_glyph (x : S28) (h : x.f0 = 1) : kindB x = (nameB x.f1 && (decide (1 ≤ x.f2) && (decide (x.f2 ≤ 1000) && decide (x.f8.length = 0)))) := by
  unfold kindB glyphB nameB
  rw [if_pos h]
  simp [Bool.and_assoc]
theorem proper_ev : ∀ (x : S28), wf28 x → Ev (fun k => vinculumref28_proper.f k x.f0 x.f1 x.f2 x.f3 x.f4 x.f5 x.f6 x.f7 x.f8 x.f9 x.f10) (allP x) := by
  refine tree_ind fun x ih hw => ?_
  have hl := wf_len hw
  -- the kids, then the source
  have hkids : dimB x = true → kindB x = true → Ev (fun k => vinculumref28_proper.l1 k 0 x.f0 x.f1 x.f2 x.f3 x.f4 x.f5 x.f6 x.f7 x.f8 x.f9 x.f10) (allP x) := by
    intro hd hk
    have hval : allP x = (srcB x && x.f8.all allP) := by rw [allP_eq]; unfold prpB; rw [hd, hk]; rfl
    have key := ev_upE (fun k i (_ : Unit) => vinculumref28_proper.l1 k i x.f0 x.f1 x.f2 x.f3 x.f4 x.f5 x.f6 x.f7 x.f8 x.f9 x.f10) x.f8.length (fun _ _ => allP x) (fun i _ => ∀ j, j < i → ∀ hj : j < x.f8.length, allP x.f8[j] = true)
      (fun s hI => by
        simp only [vinculumref28_proper.l1]
        refine Ev.neg (by omega) (Ev.bind (source_ev x hw) (Ev.ret ?_))
        have : x.f8.all allP = true := by
          rw [List.all_eq_true]
          intro y hy
          obtain ⟨j, hj, rfl⟩ := List.getElem_of_mem hy
          exact hI j hj hj
        rw [hval, this, Bool.and_true])
      (fun i s hi hI => by
        cases hp : allP x.f8[i] with
        | false =>
          refine .inl ?_
          simp only [vinculumref28_proper.l1]
          rw [rdT28_nat _ i hi]
          refine Ev.pos (by omega) (Ev.pos (by omega) (Ev.bind (ih i hi (wf_kid hw i hi)) (Ev.neg (by rw [hp]; simp) (Ev.ret ?_))))
          have : x.f8.all allP = false := by rw [List.all_eq_false]; exact ⟨_, List.getElem_mem hi, by simp [hp]⟩
          rw [hval, this, Bool.and_false]
        | true =>
          refine .inr ⟨(), fun j hj hl2 => ?_, fun r hr => ?_, rfl⟩
          · by_cases e : j = i
            · subst e; exact hp
            · exact hI j (by omega) hl2
          · simp only [vinculumref28_proper.l1]
            rw [rdT28_nat _ i hi]
            refine Ev.pos (by omega) (Ev.pos (by omega) (Ev.bind (ih i hi (wf_kid hw i hi)) (Ev.pos hp ?_)))
            rw [wrap_succ (by omega)]
            exact hr)
    exact key 0 () (Nat.zero_le _) (fun j hj => by omega)
  have hj2 : dimB x = true → kindB x = true → Ev (fun k => vinculumref28_proper.j2 k x.f0 x.f1 x.f2 x.f3 x.f4 x.f5 x.f6 x.f7 x.f8 x.f9 x.f10) (allP x) := fun hd hk =>
    Ev.step (f := fun k => vinculumref28_proper.l1 k 0 x.f0 x.f1 x.f2 x.f3 x.f4 x.f5 x.f6 x.f7 x.f8 x.f9 x.f10) (fun k => by simp only [vinculumref28_proper.j2]) (hkids hd hk)
  have hno : kindB x = false → allP x = false := fun hk => by rw [allP_eq]; unfold prpB; rw [hk]; simp
  have hnod : dimB x = false → allP x = false := fun hk => by rw [allP_eq]; unfold prpB; rw [hk]; rfl
  refine Ev.step (f := fun k => vinculumref28_proper.l0 k [x.f3, x.f4, x.f5, x.f6, x.f7] 0 x.f0 x.f1 x.f2 x.f3 x.f4 x.f5 x.f6 x.f7 x.f8 x.f9 x.f10) (fun k => by simp only [vinculumref28_proper.f]) ?_
  have hget : ∀ i : Nat, i < 5 → rd [x.f3, x.f4, x.f5, x.f6, x.f7] (i : Int) = dimN x i := by
    intro i hi
    match i, hi with
    | 0, _ => rfl
    | 1, _ => rfl
    | 2, _ => rfl
    | 3, _ => rfl
    | 4, _ => rfl
  have key := ev_upE (fun k i (_ : Unit) => vinculumref28_proper.l0 k [x.f3, x.f4, x.f5, x.f6, x.f7] i x.f0 x.f1 x.f2 x.f3 x.f4 x.f5 x.f6 x.f7 x.f8 x.f9 x.f10) 5 (fun _ _ => allP x) (fun i _ => ∀ j, j < i → okD (dimN x j) = true)
    (fun s hI => by
      have hd := (dimB_iff x).2 hI
      simp only [vinculumref28_proper.l0]
      refine Ev.neg (by simp) ?_
      by_cases e1 : x.f0 = 1
      · have hkg := kindB_glyph x e1
        refine Ev.pos e1 (Ev.bind (name_ev x.f1 (wf_name hw)) ?_)
        by_cases hn : nameB x.f1 = true
        · rw [hn, Bool.true_and] at hkg
          refine Ev.pos hn ?_
          refine Ev.ite (fun h1 => Ev.ret (hno (by rw [hkg, decide_eq_false (by omega)]; rfl)).symm) (fun h1 => ?_)
          refine Ev.ite (fun h2 => Ev.ret (hno (by rw [hkg, decide_eq_false (show ¬ x.f2 ≤ 1000 by omega)]; simp)).symm) (fun h2 => ?_)
          refine Ev.ite (fun h3 => Ev.ret (hno (by rw [hkg, decide_eq_false (show ¬ x.f8.length = 0 by omega)]; simp)).symm) (fun h3 => ?_)
          exact hj2 hd (by rw [hkg, decide_eq_true (show 1 ≤ x.f2 by omega), decide_eq_true (show x.f2 ≤ 1000 by omega), decide_eq_true (show x.f8.length = 0 by omega)]; rfl)
        · exact Ev.neg hn (Ev.ret (hno (by rw [hkg, Bool.eq_false_iff.2 hn]; rfl)).symm)
      · refine Ev.neg e1 ?_
        have hj1 : ∀ b : Bool, (b = true ↔ (x.f0 = 2 ∨ x.f0 = 3)) → Ev (fun k => vinculumref28_proper.j1 k b x.f0 x.f1 x.f2 x.f3 x.f4 x.f5 x.f6 x.f7 x.f8 x.f9 x.f10) (allP x) := fun b hb => by
          have hnm : x.f1.toList = ([] : List UInt8) ↔ x.f1.size = 0 := by
            rw [ByteArray.toList_eq]
            constructor
            · intro h; have := congrArg List.length h; simpa using this
            · intro h; exact Array.toList_eq_nil_iff.2 (Array.eq_empty_of_size_eq_zero h)
          cases b with
          | false =>
            have hn : ¬ (x.f0 = 2 ∨ x.f0 = 3) := fun h => by have := hb.2 h; cases this
            refine Ev.step (f := fun _ => some false) (fun k => by simp [vinculumref28_proper.j1]) (Ev.ret (hno ?_).symm)
            unfold kindB
            rw [if_neg e1, if_neg (by omega), if_neg (by omega)]
          | true =>
            have hy : x.f0 = 2 ∨ x.f0 = 3 := hb.1 rfl
            refine Ev.step (f := fun k => if x.f1.toList = ([] : List UInt8) then (if x.f2 = 0 then (if x.f0 = 2 then (if (x.f8.length : Int) > 0 then (some false) else (vinculumref28_proper.j2 k x.f0 x.f1 x.f2 x.f3 x.f4 x.f5 x.f6 x.f7 x.f8 x.f9 x.f10)) else (vinculumref28_proper.j2 k x.f0 x.f1 x.f2 x.f3 x.f4 x.f5 x.f6 x.f7 x.f8 x.f9 x.f10)) else (some false)) else (some false)) (fun k => by simp [vinculumref28_proper.j1]) ?_
            refine Ev.ite (fun h1 => ?_) (fun h1 => ?_)
            · have hs := hnm.1 h1
              refine Ev.ite (fun h2 => ?_) (fun h2 => ?_)
              · refine Ev.ite (fun h3 => ?_) (fun h3 => ?_)
                · refine Ev.ite (fun h4 => ?_) (fun h4 => ?_)
                  · refine Ev.ret (hno ?_).symm
                    unfold kindB
                    rw [if_neg e1, if_pos h3, decide_eq_false (show ¬ x.f8.length = 0 by omega)]
                    simp
                  · refine hj2 hd ?_
                    unfold kindB
                    rw [if_neg e1, if_pos h3, decide_eq_true (show x.f8.length = 0 by omega), decide_eq_true hs, decide_eq_true h2]
                    rfl
                · refine hj2 hd ?_
                  unfold kindB
                  rw [if_neg e1, if_neg h3, if_pos (by omega), decide_eq_true hs, decide_eq_true h2]
                  rfl
              · refine Ev.ret (hno ?_).symm
                unfold kindB
                rw [if_neg e1, decide_eq_false h2]
                simp
            · refine Ev.ret (hno ?_).symm
              unfold kindB
              rw [if_neg e1, decide_eq_false (fun h => h1 (hnm.2 h))]
              simp
        refine Ev.ite (fun e2 => hj1 _ (by simp [e2])) (fun e2 => hj1 _ (by simp [e2])))
    (fun i s hi hI => by
      have hokd : okD (dimN x i) = (decide (-1073741824 ≤ dimN x i) && decide (dimN x i ≤ 1073741824)) := rfl
      by_cases hlo : dimN x i < -1073741824
      · refine .inl ?_
        simp only [vinculumref28_proper.l0]
        rw [hget i hi]
        refine Ev.pos (by simp; omega) (Ev.pos (by omega) (Ev.pos hlo (Ev.ret (hnod ?_).symm)))
        cases hd : dimB x with
        | false => rfl
        | true => have := (dimB_iff x).1 hd i hi; rw [hokd] at this; simp at this; omega
      · by_cases hhi : dimN x i > 1073741824
        · refine .inl ?_
          simp only [vinculumref28_proper.l0]
          rw [hget i hi]
          refine Ev.pos (by simp; omega) (Ev.pos (by omega) (Ev.neg hlo (Ev.pos hhi (Ev.ret (hnod ?_).symm))))
          cases hd : dimB x with
          | false => rfl
          | true => have := (dimB_iff x).1 hd i hi; rw [hokd] at this; simp at this; omega
        · refine .inr ⟨(), fun j hj => ?_, fun r hr => ?_, rfl⟩
          · by_cases e : j = i
            · subst e; rw [hokd]; simp; omega
            · exact hI j (by omega)
          · simp only [vinculumref28_proper.l0]
            rw [hget i hi]
            refine Ev.pos (by simp; omega) (Ev.pos (by omega) (Ev.neg hlo (Ev.neg hhi ?_)))
            rw [wrap_succ (by omega)]
            exact hr)
  exact key 0 () (Nat.zero_le _) (fun j hj => by omega)
theorem refValid_ev (x : S28) (hw : wf28 x) (hc : cntT x ≤ 1000000) : Ev (fun k => vinculumref28_Valid.f k x.f0 x.f1 x.f2 x.f3 x.f4 x.f5 x.f6 x.f7 x.f8 x.f9 x.f10) (vldB x) := by
  unfold vinculumref28_Valid.f
  refine Ev.bind (proper_ev x hw) ?_
  obtain ⟨r, r1, r2, r3, r4⟩ := nested_ev x hc
  have hv : vldB x = ((decide (cntT x ≤ 20000) && allP x) && decide (r ≤ 100)) := by
    unfold vldB
    have e : decide (nestF 100 x ≤ 100) = decide (r ≤ 100) := by rw [r4]; exact decide_eq_decide.2 (by omega)
    rw [e]
    rfl
  by_cases hp : allP x = true
  · refine Ev.pos hp (Ev.bind (count_ev x hc) ?_)
    rw [hp, Bool.and_true] at hv
    by_cases h1 : cntT x ≤ 20000
    · rw [decide_eq_true h1, Bool.true_and] at hv
      refine Ev.pos (by omega) (Ev.bind r3 (Ev.ret ?_))
      rw [hv]
      exact decide_eq_decide.2 (by omega)
    · rw [decide_eq_false h1] at hv
      exact Ev.neg (by omega) (Ev.ret (by rw [hv]; rfl))
  · refine Ev.neg hp (Ev.ret ?_)
    rw [hv, Bool.eq_false_iff.2 hp]
    simp
theorem awake_ev : Ev (fun k => vinculumlaw28_awake.f k) true := Ev.of (fun k => vinculumlaw28_awake.mono k) (k := 10) (by kernel_rfl)
end Go.Proofs.Ytnnhhkjcjkinpaa.P
