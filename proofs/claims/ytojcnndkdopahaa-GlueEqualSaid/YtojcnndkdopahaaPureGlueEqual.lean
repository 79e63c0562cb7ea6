/- GlueEqual: the pure statement of the law GlueEqual is proved: for every input its printed function answers true. No condition beyond those of the row. -/
import Derived.Test.YtojcnndkdopahaaSayGlueEqual
import Derived.Test.YtojcnndkdopahaaPoE
namespace Go.Proofs.Ytojcnndkdopahaa.P
open Go.RowKit Go.Proofs.YtojcnndkdopahaaW.PrintWords Go.Proofs.YtojcnndkdopahaaW.PrintLast Go.Proofs.YtojcnndkdopahaaW.PrintMore
theorem diff_one {a b T : Int} (hT : 0 < T) (h : -(2 * T) < a * T - b * T ∧ a * T - b * T < 2 * T) : -1 ≤ a - b ∧ a - b ≤ 1 := by
  have e : (a - b) * T = a * T - b * T := Int.sub_mul _ _ _
  have h1 : (-2) * T < (a - b) * T := by rw [e, Int.neg_mul]; omega
  have h2 : (a - b) * T < 2 * T := by rw [e]; omega
  have := Int.lt_of_mul_lt_mul_right h1 (by omega)
  have := Int.lt_of_mul_lt_mul_right h2 (by omega)
  omega
/-- All elements alike: the widths differ by at most 1. -/
theorem equal_fact {l : List S36} {w : Int} (h : errV l w = 0) {g : S36} (hg : ∀ i, ∀ hi : i < l.length, l[i] = g) {i : Nat} (hi : i < l.length) :
    -1 ≤ rd (setW l w) (i : Int) - rd (setW l w) ((0 : Nat) : Int) ∧ rd (setW l w) (i : Int) - rd (setW l w) ((0 : Nat) : Int) ≤ 1 := by
  have h0 : 0 < l.length := by omega
  have hq : ∀ q : S36 → Int, at0 q l i = at0 q l 0 := fun q => by rw [at0_lt hi, at0_lt h0, hg i hi, hg 0 h0]
  have hshare : ∀ (G : Int) (q : S36 → Int), Sh G q l → -1 ≤ shv G (preS q l l.length) q l i - shv G (preS q l l.length) q l 0 ∧ shv G (preS q l l.length) q l i - shv G (preS q l l.length) q l 0 ≤ 1 := fun G q hs => by
    have x1 := shv_exact hs hi
    have x0 := shv_exact hs h0
    rw [hq] at x1
    refine diff_one hs.pos ?_
    omega
  have e2 : preS (·.f2) l l.length = shrV l := rfl
  have e1 : ∀ o, preS (qStr o) l l.length = strV l o := fun _ => rfl
  rcases diff_cases h hi with ⟨h1, ho, e, hR⟩ | ⟨h1, ho, hs, e, hR⟩ | ⟨h1, ht, hs, e, hR⟩ | ⟨h1, ht, e, hR⟩ <;> rcases diff_cases h h0 with ⟨h1', ho', e', hR'⟩ | ⟨h1', ho', hs', e', hR'⟩ | ⟨h1', ht', hs', e', hR'⟩ | ⟨h1', ht', e', hR'⟩ <;> try omega
  · rw [e, e', hq]; omega
  · have := hshare _ _ hs; rw [e1] at this; rw [e, e', hq (·.f0)]; omega
  · have := hshare _ _ hs; rw [e2] at this; rw [e, e', hq (·.f0)]; omega
  · rw [e, e', hq]; omega
theorem GlueEqual.pure : GlueEqual.Pure := by
  intro g n w hg hn _
  have hn' : 0 ≤ n ∧ n ≤ 255 := by have e1 : IntKind.u8.min = 0 := rfl; have e2 : IntKind.u8.max = 255 := rfl; simp [Lit.wf] at hn; omega
  refine Ev.rounds (g := fun k => vinculumlaw27_GlueEqual.f k g.f0 g.f1 g.f2 g.f3 n w) ?_
  unfold vinculumlaw27_GlueEqual.f
  refine Ev.bind awake_ev (Ev.pos rfl ?_)
  have hm0 : Int.tmod n 40 = n % 40 := Int.tmod_eq_emod_of_nonneg hn'.1
  have hm : wrap64 (Int.tmod n 40) = n % 40 := by rw [hm0]; exact wrap_id (by omega) (by omega)
  obtain ⟨m, hmm⟩ : ∃ m : Nat, (m : Int) = n % 40 := ⟨(n % 40).toNat, by omega⟩
  have hm40 : m ≤ 40 := by omega
  have hlr : ∀ i, (List.replicate i g).length = i := fun i => List.length_replicate
  have hT : Ev (fun k => vinculumlaw27_GlueEqual.j1 k w (List.replicate m g) true) true := Ev.step (f := fun _ => some true) (fun k => by simp [vinculumlaw27_GlueEqual.j1]) (Ev.now _)
  have key := ev_upE (fun k i s => vinculumlaw27_GlueEqual.l0 k n w s i g.f0 g.f1 g.f2 g.f3) m (fun _ _ => true) (fun i s => s = List.replicate i g)
    (fun s hI => by
      simp only [vinculumlaw27_GlueEqual.l0]
      refine Ev.neg (by rw [hm]; omega) ?_
      rw [hI]
      have hl' : (List.replicate m g).length ≤ 4398046511104 := by rw [hlr]; omega
      refine Ev.bind (right_ev _ w hl') ?_
      by_cases h : errV (List.replicate m g) w = 0
      · refine Ev.pos (by simpa using h) ?_
        refine Ev.ite (fun _ => hT) (fun h1 => ?_)
        by_cases h2 : g.f2 = 0
        · rw [show (g.f2 == 0) = true by simpa using h2]; exact hT
        · rw [show (g.f2 == 0) = false by simpa using h2]
          refine Ev.step (f := fun k => (glue_Set.f k (List.replicate m g) w).bind fun bt => (if bt.2.2 = 0 then (vinculumlaw27_GlueEqual.j2 k bt.1 ((bt.1.length : Int) != ((List.replicate m g).length : Int))) else (vinculumlaw27_GlueEqual.j2 k bt.1 true))) (fun k => by simp [vinculumlaw27_GlueEqual.j1]) ?_
          refine Ev.bind (set_ev _ w hl') ?_
          unfold setV
          rw [if_pos h]
          refine Ev.pos rfl ?_
          have hne : (((setW (List.replicate m g) w).length : Int) != ((List.replicate m g).length : Int)) = false := by rw [setW_len]; simp
          simp only [hne]
          refine Ev.step (f := fun k => vinculumlaw27_GlueEqual.l1 k (setW (List.replicate m g) w) 0) (fun k => by simp [vinculumlaw27_GlueEqual.j2]) ?_
          have k1 := ev_up (fun k i (_ : Unit) => vinculumlaw27_GlueEqual.l1 k (setW (List.replicate m g) w) i) m (fun _ _ => true) (fun _ _ => True)
            (fun s _ k => by simp only [vinculumlaw27_GlueEqual.l1]; rw [if_neg (by rw [setW_len, hlr]; omega)])
            (fun i s hi _ => .inr ⟨(), trivial, fun k => by
              have hf := equal_fact h (g := g) (fun i hi => by simp) (i := i) (by rw [hlr]; exact hi)
              simp only [vinculumlaw27_GlueEqual.l1]
              rw [if_pos (by rw [setW_len, hlr]; omega), if_pos (by omega), if_pos (by rw [setW_len, hlr]; omega)]
              have hz : ((0 : Nat) : Int) = 0 := rfl
              rw [hz] at hf
              rw [wrap_id (by omega) (by omega), if_neg (by omega), if_neg (by omega), wrap_succ (by omega)], rfl⟩)
          exact k1 0 () (Nat.zero_le _) trivial
      · exact Ev.neg (by simpa using h) hT)
    (fun i s hi hI => .inr ⟨List.replicate (i + 1) g, rfl, fun r hr => by
      simp only [vinculumlaw27_GlueEqual.l0]
      refine Ev.pos (by rw [hm]; omega) (Ev.pos (by rw [hI, hlr]; omega) ?_)
      rw [hI, wrap_succ (by omega)]
      have : List.replicate i g ++ [(⟨g.f0, g.f1, g.f2, g.f3⟩ : S36)] = List.replicate (i + 1) g := by rw [List.replicate_succ']
      rw [this]
      exact hr, rfl⟩)
  exact key 0 [] (Nat.zero_le _) rfl
end Go.Proofs.Ytojcnndkdopahaa.P
