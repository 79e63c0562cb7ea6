/- Written by wip/tool/hprint.py (the kit's print.py with hand-proved contracts set in): contracts of the functions that the statements of this seat reach, without conditions beyond those named in each theorem. -/
import Derived.Test.YtojcnndkdopahaaP0
import Derived.Test.YtojcnndkdopahaaP2
import Derived.Test.YtojcnndkdopahaaP7
import Derived.Test.YtojcnndkdopahaaP9
import Derived.Test.YtojcnndkdopahaaP11
import Derived.Test.YtojcnndkdopahaaP12
import Derived.Test.YtojcnndkdopahaaP13
import Derived.RangeFuncNested
import Derived.RangeFuncBound
import Derived.RangeFuncCalls
import Derived.RangeFuncLeaves
import Derived.RangeFuncBox
import Derived.Shelf.Abstract
import Derived.Shelf.RegionOpen
import Derived.WalkKit
import Derived.OwnWalkIn
import Derived.TacticsInMore
import Derived.LoopNIn
import Derived.LoopIn
import Derived.Lib.Hide
import Derived.Orders
import Derived.OrdersIn
import Derived.Laws.EntriesVeiled
namespace Go.Proofs.Ytojcnndkdopahaa.P
open Go.RowKit Go.Proofs.YtojcnndkdopahaaW.PrintWords Go.Proofs.YtojcnndkdopahaaW.PrintLast Go.Proofs.YtojcnndkdopahaaW.PrintMore
attribute [local go_sem] max2_int min2_int max_two min_two max_three min_three max_four min_four   -- for this text's walks alone
set_option linter.unusedVariables false
set_option linter.unusedSimpArgs false

-- IMPORTS: Derived.RangeFuncNested Derived.RangeFuncBound Derived.RangeFuncCalls Derived.RangeFuncLeaves Derived.RangeFuncBox Derived.Shelf.Abstract Derived.Shelf.RegionOpen Derived.WalkKit Derived.OwnWalkIn Derived.TacticsInMore Derived.LoopNIn Derived.LoopIn Derived.Lib.Hide Derived.Orders Derived.OrdersIn Derived.Laws.EntriesVeiled
section
open Go.Shelf
attribute [local go_sem] Oper.semAt_some

set_option maxHeartbeats 1000000 in
theorem sharing_in (F : Fence) (n : Nat) (hF : F.fn 40) (hro : F.round = none) (g t : Int) (w : World) :
    CallsIn F n Try.prog 40 #[.int .i64 g, .int .i64 t] w fun e w' => e = .returned (.func (.func 61) #[] #[.pointer (some ⟨w.heap.size + 2, 0, none⟩), .pointer (some ⟨w.heap.size, 0, none⟩), .pointer (some ⟨w.heap.size + 1, 0, none⟩), .pointer (some ⟨w.heap.size + 3, 0, none⟩)]) ∧
      w' = (((w.alloc (.cells #[.int .i64 g] 3)).alloc (.cells #[.int .i64 t] 3)).alloc (.cells #[.int .i64 0] 3)).alloc (.cells #[.int .i64 0] 3) := by
  refine callsIn_of_wp Try.func40 rfl hF ?_ hro
  simp only [Try.ntmps40, List.size_toArray, List.length_cons, List.length_nil, Nat.reduceAdd, Nat.reduceSub, Array.replicate_succ, Array.replicate_zero, List.push_toArray, List.append_toArray, List.nil_append, List.cons_append]
  gi_wp2
  go_ret
  exact ⟨rfl, rfl⟩
set_option maxHeartbeats 1000000 in
theorem share_in (F : Fence) (n : Nat) (hF : F.fn 61) (hro : F.round = none) (bs bg bt bv : Nat) (g t s v p : Int) (W : World) (hne : bs ≠ bv) (hgs : bs ≠ bg) (hts : bs ≠ bt) (ht : t ≠ 0)
    (hs : W.cell? ⟨bs, 0, none⟩ = some (.int .i64 s)) (hsf : W.frozen? ⟨bs, 0, none⟩ = false) (hg : W.cell? ⟨bg, 0, none⟩ = some (.int .i64 g)) (htc : W.cell? ⟨bt, 0, none⟩ = some (.int .i64 t)) (hv : W.cell? ⟨bv, 0, none⟩ = some (.int .i64 v)) (hvf : W.frozen? ⟨bv, 0, none⟩ = false) :
    CallsIn F n Try.prog 61 #[.int .i64 p, .pointer (some ⟨bs, 0, none⟩), .pointer (some ⟨bg, 0, none⟩), .pointer (some ⟨bt, 0, none⟩), .pointer (some ⟨bv, 0, none⟩)] W fun e w' =>
      e = .returned (.int .i64 (wrap64 (wrap64 (Int.tdiv (wrap64 (g * wrap64 (s + p))) t) - v))) ∧ w' = (W.setCell ⟨bs, 0, none⟩ (.int .i64 (wrap64 (s + p)))).setCell ⟨bv, 0, none⟩ (.int .i64 (wrap64 (Int.tdiv (wrap64 (g * wrap64 (s + p))) t))) := by
  refine callsIn_of_wp Try.func61 rfl hF ?_ hro
  simp only [Try.ntmps61, List.size_toArray, List.length_cons, List.length_nil, Nat.reduceAdd, Nat.reduceSub, Array.replicate_succ, Array.replicate_zero, List.push_toArray, List.append_toArray, List.nil_append, List.cons_append]
  have hs1 : ∀ u, (W.setCell ⟨bs, 0, none⟩ u).cell? ⟨bs, 0, none⟩ = some u := fun u => World.cell?_setCell_same' _ _ _ (by rw [hs]; rfl)
  have hv1 : ∀ u, (W.setCell ⟨bs, 0, none⟩ u).cell? ⟨bv, 0, none⟩ = some (.int .i64 v) := fun u => (World.cell?_setCell_far _ _ _ _ hne).trans hv
  have hg1 : ∀ u, (W.setCell ⟨bs, 0, none⟩ u).cell? ⟨bg, 0, none⟩ = some (.int .i64 g) := fun u => (World.cell?_setCell_far _ _ _ _ hgs).trans hg
  have ht1 : ∀ u, (W.setCell ⟨bs, 0, none⟩ u).cell? ⟨bt, 0, none⟩ = some (.int .i64 t) := fun u => (World.cell?_setCell_far _ _ _ _ hts).trans htc
  gi_wp2
  go_ret
  exact ⟨rfl, rfl⟩
theorem shareW_far {W w' : World} {bs bv : Nat} {u v : Value} (hw : w' = (W.setCell ⟨bs, 0, none⟩ u).setCell ⟨bv, 0, none⟩ v) {p : Addr} (h1 : bs ≠ p.block) (h2 : bv ≠ p.block) : w'.cell? p = W.cell? p ∧ w'.frozen? p = W.frozen? p := by
  subst hw
  exact ⟨(World.cell?_setCell_far _ _ _ _ h2).trans (World.cell?_setCell_far _ _ _ _ h1), by rw [World.frozen?_setCell, World.frozen?_setCell]⟩
/-- The widths, what has been seen and what has been given, when one share more is laid by f. -/
def shStep {n : Nat} (f : Int → Int → Int) (g total : Int) (s : List Int × Int × Int) (x : Fin n × Int) : List Int × Int × Int :=
  (s.1.set x.1.val (wrap64 (f (rd s.1 (x.1.val : Int)) (wrap64 (wrap64 (Int.tdiv (wrap64 (g * wrap64 (s.2.1 + x.2))) total) - s.2.2)))), wrap64 (s.2.1 + x.2), wrap64 (Int.tdiv (wrap64 (g * wrap64 (s.2.1 + x.2))) total))
def shRun {n : Nat} (f : Int → Int → Int) (g total : Int) (xs : List Int) (l : List (Fin n × Int)) : List Int × Int × Int := l.foldl (shStep f g total) (xs, 0, 0)
theorem shRun_snoc {n : Nat} (f : Int → Int → Int) (g total : Int) (xs : List Int) (l : List (Fin n × Int)) (x : Fin n × Int) : shRun f g total xs (l ++ [x]) = shStep f g total (shRun f g total xs l) x := by simp [shRun]
theorem shRun_len {n : Nat} (f : Int → Int → Int) (g total : Int) (xs : List Int) (l : List (Fin n × Int)) : (shRun f g total xs l).1.length = xs.length := by
  have key : ∀ (l : List (Fin n × Int)) s, (l.foldl (shStep f g total) s).1.length = s.1.length := by
    intro l
    induction l with
    | nil => intro s; rfl
    | cons x l ih => intro s; rw [List.foldl_cons, ih]; simp [shStep]
  exact key l _
/-- The widths of the first k, and naught. -/
def wUp (l : List S36) (k : Nat) : List Int := (l.take k).map (·.f0) ++ List.replicate (l.length - k) 0
theorem wUp_len (l : List S36) (k : Nat) (h : k ≤ l.length) : (wUp l k).length = l.length := by simp [wUp]; omega
theorem wUp_succ (l : List S36) (k : Nat) (h : k < l.length) : wUp l (k + 1) = (wUp l k).set k l[k].f0 := by
  apply List.ext_getElem
  · simp [wUp]; omega
  · intro i h1 h2
    have hk : (List.map (fun x : S36 => x.f0) (l.take k)).length = k := by simp; omega
    rw [List.getElem_set]
    simp only [wUp, List.take_succ_eq_append_getElem h, List.map_append, List.map_cons, List.map_nil]
    by_cases hi : k = i
    · subst hi
      rw [if_pos rfl, List.getElem_append_left (by simp; omega), List.getElem_append_right (by simp [Nat.min_le_left])]
      simp [show min k l.length = k by omega]
    · rw [if_neg hi]
      by_cases hlt : i < k
      · rw [List.getElem_append_left (by simp; omega), List.getElem_append_left (by simp; omega), List.getElem_append_left (by simp; omega)]
      · rw [List.getElem_append_right (by simp; omega), List.getElem_append_right (by simp; omega)]
        simp
theorem wUp_all (l : List S36) : wUp l l.length = l.map (·.f0) := by simp [wUp]
theorem wUp_zero (l : List S36) : wUp l 0 = List.replicate l.length 0 := by simp [wUp]
def glue_Set.f (k : Nat) (l0 : List (S36)) (a1 : Int) : Option (List Int × Int × Int) :=
  (glue_check.f k l0 a1).bind fun e => if e = 0 then (if l0.length ≤ 4398046511104 then ((glue_Natural.f k l0).bind fun n => if 0 < wrap64 (a1 - n) then ((glue_order.f k l0).bind fun o => if o < 0 then some (l0.map (·.f0), wrap64 (a1 - n), 0) else ((glue_Stretch.f k l0 o).bind fun t => if t = 0 then none else some ((shRun (· + ·) (wrap64 (a1 - n)) t (l0.map (·.f0)) (gUp (pStr o) l0 l0.length)).1, 0, 0)))
    else ((glue_Shrink.f k l0).bind fun t => if 0 < t then some ((shRun (· - ·) (mn (wrap64 (-(wrap64 (a1 - n)))) t) t (l0.map (·.f0)) (gUp pShr l0 l0.length)).1, wrap64 (wrap64 (a1 - n) + mn (wrap64 (-(wrap64 (a1 - n)))) t), 0) else some (l0.map (·.f0), wrap64 (wrap64 (a1 - n) + mn (wrap64 (-(wrap64 (a1 - n)))) t), 0))) else none) else some ([], 0, e)
theorem glue_Set.mono : ∀ a0 a1 k, LeO (glue_Set.f k a0 a1) (glue_Set.f (k + 1) a0 a1) := by
  intro a0 a1 k
  unfold glue_Set.f
  refine LeO.bind (glue_check.mono _ _ _) fun e => LeO.ite (LeO.ite (LeO.bind (glue_Natural.mono _ _) fun n => LeO.ite (LeO.bind (glue_order.mono _ _) fun o => LeO.ite (LeO.refl _) (LeO.bind (glue_Stretch.mono _ _ _) fun t => LeO.refl _)) (LeO.bind (glue_Shrink.mono _ _) fun t => LeO.refl _)) (LeO.refl _)) (LeO.refl _)
/-- What lies in memory between two rounds: the widths, the two cells of what is shared, and what is read. -/
def SetI (base g bO bs bv bg bt bF len : Nat) (G T : Int) (fv : Value) (s : List Int × Int × Int) (W : World) : Prop :=
  W.ownsRow base 3 1 (.slice (some ⟨g, 0, none⟩) len len) len (nums .i64 s.1) ∧ W.cell? ⟨bO, 0, none⟩ = some (.slice (some ⟨g, 0, none⟩) len len) ∧
  (W.cell? ⟨bs, 0, none⟩ = some (.int .i64 s.2.1) ∧ W.frozen? ⟨bs, 0, none⟩ = false) ∧ (W.cell? ⟨bv, 0, none⟩ = some (.int .i64 s.2.2) ∧ W.frozen? ⟨bv, 0, none⟩ = false) ∧
  W.cell? ⟨bg, 0, none⟩ = some (.int .i64 G) ∧ W.cell? ⟨bt, 0, none⟩ = some (.int .i64 T) ∧ W.cell? ⟨bF, 0, none⟩ = some fv
theorem setI_kept {base g bO bs bv bg bt bF len : Nat} {G T : Int} {fv : Value} {s : List Int × Int × Int} {A B : World} {row : Option Nat} (h : SetI base g bO bs bv bg bt bF len G T fv s A) (hg : A.grownBy B row) (hr : ∀ r, row = some r → ∃ o : Obj, A.heap[r]? = some o ∧ o.isCells = false) : SetI base g bO bs bv bg bt bF len G T fv s B := by
  obtain ⟨h1, h2, ⟨h3, h3'⟩, ⟨h4, h4'⟩, h5, h6, h7⟩ := h
  refine ⟨own_other h1 hg ?_, cell_kept h2 hg hr, ⟨cell_kept h3 hg hr, (frozen_kept h3 hg hr).trans h3'⟩, ⟨cell_kept h4 hg hr, (frozen_kept h4 hg hr).trans h4'⟩, cell_kept h5 hg hr, cell_kept h6 hg hr, cell_kept h7 hg hr⟩
  refine .inr fun e => ?_
  obtain ⟨cells, hc⟩ := own_typed h1 g rfl
  obtain ⟨o, ho, hn⟩ := hr g (by rw [← e]; rfl)
  rw [hc] at ho
  cases ho
  cases hn
theorem setI_own {n : Nat} (base g bO bs bv bg bt bF len : Nat) (G T : Int) (fv : Value) (r : List (Fin n × Int) → List Int × Int × Int) : Own (fun (pre : List (Fin n × Int)) W => SetI base g bO bs bv bg bt bF len G T fv (r pre) W) :=
  fun s A B row hs hg hr => setI_kept hs hg hr
theorem shRun_nil {n : Nat} (f : Int → Int → Int) (g total : Int) (xs : List Int) : shRun f g total xs ([] : List (Fin n × Int)) = (xs, 0, 0) := rfl
theorem setI_new {base g bO len : Nat} (G T : Int) {xs : List Int} {W w5 : World} (h1 : W.ownsRow base 3 1 (.slice (some ⟨g, 0, none⟩) len len) len (nums .i64 xs)) (h2 : W.cell? ⟨bO, 0, none⟩ = some (.slice (some ⟨g, 0, none⟩) len len))
    (hw : w5 = (((W.alloc (.cells #[.int .i64 G] 3)).alloc (.cells #[.int .i64 T] 3)).alloc (.cells #[.int .i64 0] 3)).alloc (.cells #[.int .i64 0] 3)) (fv : Value) :
    SetI base g bO (W.heap.size + 2) (W.heap.size + 3) W.heap.size (W.heap.size + 1) (W.heap.size + 4) len G T fv (xs, 0, 0) (w5.alloc (.cells #[fv] 58)) ∧ w5.heap.size = W.heap.size + 4 ∧ Below W.heap.size W w5 := by
  have bg := (((Boxed.new W 3 (.int .i64 G)).alloc (.cells #[.int .i64 T] 3)).alloc (.cells #[.int .i64 0] 3)).alloc (.cells #[.int .i64 0] 3)
  have bt := ((Boxed.new (W.alloc (.cells #[.int .i64 G] 3)) 3 (.int .i64 T)).alloc (.cells #[.int .i64 0] 3)).alloc (.cells #[.int .i64 0] 3)
  have bs := (Boxed.new ((W.alloc (.cells #[.int .i64 G] 3)).alloc (.cells #[.int .i64 T] 3)) 3 (.int .i64 0)).alloc (.cells #[.int .i64 0] 3)
  have bv := Boxed.new (((W.alloc (.cells #[.int .i64 G] 3)).alloc (.cells #[.int .i64 T] 3)).alloc (.cells #[.int .i64 0] 3)) 3 (.int .i64 0)
  have hsz : w5.heap.size = W.heap.size + 4 := by rw [hw]; simp
  have o5 : w5.ownsRow base 3 1 (.slice (some ⟨g, 0, none⟩) len len) len (nums .i64 xs) := by rw [hw]; exact (((h1.alloc _).alloc _).alloc _).alloc _
  have B5 : Below W.heap.size W w5 := by rw [hw]; exact ((((Below.refl _ W).alloc (Nat.le_refl _) _).alloc (by simp) _).alloc (by simp; omega) _).alloc (by simp; omega) _
  have c5 := (B5.cell (p := ⟨bO, 0, none⟩) (World.block_lt_of_cell? W _ h2)).trans h2
  rw [← hw] at bg bt bs bv
  simp only [World.size_alloc] at bt bs bv
  have bF := Boxed.new w5 58 fv
  rw [hsz] at bF
  refine ⟨⟨o5.alloc _, cell_kept c5 (World.grownBy_alloc _ _ none) (fun _ e => by cases e), ⟨(bs.alloc _).cell, (bs.alloc _).frozen⟩, ⟨(bv.alloc _).cell, (bv.alloc _).frozen⟩, (bg.alloc _).cell, (bt.alloc _).cell, bF.cell⟩, hsz, B5⟩
set_option maxRecDepth 100000 in
set_option maxHeartbeats 4000000 in
theorem glue_Set.calls (k : Nat) (A0 : Option Addr) (c0 : Nat) (l0 : List (S36)) (a1 : Int) (r1 : List Int) (r2 : Int) (r3 : Int) (w : World) (hr0 : Kd.C k36 w A0 l0.length l0) (hc0 : l0.length ≤ c0) (h : glue_Set.f k l0 a1 = some (r1, r2, r3)) :
    Calls Try.prog 22 #[.slice A0 l0.length c0, .int .i64 a1] w fun e w' => ∃ v0_ : Value, e = .returned (.tuple #[v0_, .int .i64 r2, .int .i64 r3]) ∧ Kd.R (Kd.int .i64) 3 w' w.heap.size (fun _ => True) v0_ r1 ∧ Below w.heap.size w w' := by
  unfold glue_Set.f at h
  obtain ⟨e, he, h⟩ := Option.bind_eq_some_iff.mp h
  have HCK := Lib.hid (glue_check.calls k A0 c0 l0 a1 e w hr0 hc0 he)
  have HR := Lib.hid hr0
  have HN0 := Lib.hid hc0
  clear hr0 hc0
  by_cases e0 : e = 0
  · subst e0
    rw [if_pos rfl] at h
    by_cases hl : l0.length ≤ 4398046511104
    · rw [if_pos hl] at h
      obtain ⟨nat, hn, h⟩ := Option.bind_eq_some_iff.mp h
      have HNT := Lib.hid (fun W hW => glue_Natural.calls k A0 c0 l0 nat W hW HN0.out hn)
      have hmk : ∀ W, (Instr.makeSlice 28 (.int .i64 (l0.length : Int)) (.int .i64 (l0.length : Int))).run Try.prog W = .ok (.slice (some ⟨W.heap.size, 0, none⟩) l0.length l0.length) (W.alloc (.cells (madeCells #[.int .i64 0] l0.length) 3)) := by
        obtain ⟨i0, hi, hz0, hz1, hz2⟩ := info_parts info3
        intro W
        have := run_make W 28 3 i0 (.int .i64 0) Try.underlying28 hi hz0 .i64 .i64 (l0.length : Int) (l0.length : Int) (by omega) (by omega) (by rw [hz2]; omega) (by omega)
        simpa [hz1, Value.cells] using this
      have HH := Lib.hid h
      clear he hn h
      have hu := Try.underlying36
      have hm : l0.length ≤ 9223372036854775807 := by omega
      refine (callsIn_wide (n := 12)).1 ?_
      refine callsIn_of_wp_marks Try.func22 rfl trivial ?_ rfl
      simp only [Try.ntmps22, List.size_toArray, List.length_cons, List.length_nil, Nat.reduceAdd, Nat.reduceSub, Array.replicate_succ, Array.replicate_zero, List.push_toArray, List.append_toArray, List.nil_append, List.cons_append]
      gi_wp2_with (refine ⟨trivial, ?_⟩; gi_at_call 38; refine (callsIn_wide.2 HCK.out).mono ?_; rintro e w1 ⟨rfl, hb1⟩)
      have hle1 : w.heap.size ≤ w1.heap.size := hb1.size
      have h0own : ((w1.alloc (.cells (madeCells #[.int .i64 0] l0.length) 3)).alloc (.cells #[.slice (some ⟨w1.heap.size, 0, none⟩) l0.length l0.length] 28)).ownsRow w.heap.size 3 1 (.slice (some ⟨w1.heap.size, 0, none⟩) l0.length l0.length) l0.length (nums .i64 (wUp l0 0)) := by
        have := own_made (k := .i64) w1 w.heap.size 3 l0.length hle1 hm
        rw [wUp_zero]
        exact this.alloc _
      have h0own' := Aside0.mk h0own
      clear h0own
      have bO := Boxed.new (w1.alloc (.cells (madeCells #[.int .i64 0] l0.length) 3)) 28 (.slice (some ⟨w1.heap.size, 0, none⟩) l0.length l0.length)
      rw [World.size_alloc] at bO
      gi_loopw [32] (fun i wr => ∃ j : Nat, j ≤ l0.length ∧ i = .int .i64 j ∧ Aside0 (wr.ownsRow w.heap.size 3 1 (.slice (some ⟨w1.heap.size, 0, none⟩) l0.length l0.length) l0.length (nums .i64 (wUp l0 j))) ∧ wr.cell? ⟨w1.heap.size + 1, 0, none⟩ = some (.slice (some ⟨w1.heap.size, 0, none⟩) l0.length l0.length) ∧ Aside0 (Below w.heap.size w wr)) (fun i _ => l0.length - (intOf i).toNat)
      case atStart => exact ⟨0, Nat.zero_le _, rfl, h0own', bO.cell, ⟨below_alloc (below_alloc hb1 _) _⟩⟩
      case round =>
        obtain ⟨j, hj, rfl, hO, hco, hB⟩ := hrel
        have hbo := World.block_lt_of_cell? wr _ hco
        have hbo2 : w1.heap.size < wr.heap.size := Nat.lt_trans (Nat.lt_succ_self _) hbo
        by_cases hlt : j < l0.length
        · obtain ⟨ad, e, q0, q1, q2, q3⟩ := at_T36 HR.out (j : Int) (by omega) (by omega)
          cases e
          have c0 := pw_cell_below hB.out q0
          have c1 := pw_cell_below hB.out q1
          have c2 := pw_cell_below hB.out q2
          have c3 := pw_cell_below hB.out q3
          clear q0 q1 q2 q3
          simp only [Int.toNat_natCast, rdT36_nat l0 j hlt] at c0 c1 c2 c3
          obtain ⟨o1, o2⟩ := own_at hO.out (j : Int) (by omega) (by omega)
          simp only [Int.toNat_natCast] at o1 o2
          gi_wp2
          have HO2 := own_store hO.out (j : Int) l0[j].f0
          simp only [Int.toNat_natCast] at HO2
          rw [← wUp_succ _ _ hlt] at HO2
          refine ⟨⟨j + 1, by omega, by go_num, ⟨HO2.1.alloc _⟩, ?_, ⟨?_⟩⟩, by simp [intOf]; omega⟩
          · exact cell_kept ((World.cell?_setCell_far _ ⟨w1.heap.size, j, none⟩ ⟨w1.heap.size + 1, 0, none⟩ _ (show w1.heap.size ≠ w1.heap.size + 1 by omega)).trans hco) (World.grownBy_alloc _ _ none) (fun _ e => by cases e)
          · exact below_alloc (hB.out.setCell (p := ⟨w1.heap.size, j, none⟩) hle1 _) _
        · obtain rfl : j = l0.length := by omega
          rw [wUp_all] at hO
          have HC2 := Lib.hid (Kd.C_below HR.out hB.out)
          have HN2 := Lib.hid (HNT.out wr HC2.out)
          by_cases hx : 0 < wrap64 (a1 - nat)
          · have H := HH.out
            rw [if_pos hx] at H
            clear HH
            obtain ⟨o, ho, H⟩ := Option.bind_eq_some_iff.mp H
            have HOD := Lib.hid (fun W hW => glue_order.calls k A0 c0 l0 o W hW HN0.out ho)
            clear ho
            by_cases hz : o < 0
            · rw [if_pos hz] at H
              obtain ⟨rfl, rfl, rfl⟩ := (by simpa using H : _ ∧ _ ∧ _)
              clear H
              gi_wp2_with (first | (refine ⟨trivial, ?_⟩; gi_at_call 16; refine (callsIn_wide.2 HN2.out).mono ?_; rintro e w2 ⟨rfl, hb2⟩; have HC3 := Lib.hid (Kd.C_below HC2.out hb2); have HD3 := Lib.hid (HOD.out w2 HC3.out)) | (refine ⟨trivial, ?_⟩; gi_at_call 39; refine (callsIn_wide.2 HD3.out).mono ?_; rintro e w3 ⟨rfl, hb3⟩; have hco3 := ((hb3.mono hb2.size).cell (p := ⟨w1.heap.size + 1, 0, none⟩) hbo).trans ((hb2.cell (p := ⟨w1.heap.size + 1, 0, none⟩) hbo).trans hco)))
              refine ⟨.tuple #[.slice (some ⟨w1.heap.size, 0, none⟩) l0.length l0.length, .int .i64 (wrap64 (a1 - nat)), .int .i64 0], ?_, _, rfl, ?_, ?_⟩
              · simp [results, Try.f22, go_sem]
              · have ho3 := pw_own_below (pw_own_below hO.out hb2) hb3
                exact Kd.R_of_own (by rw [List.length_map]; exact ho3) (fun _ _ => trivial)
              · exact below_then hB.out hB.out.size (hb2.trans (hb3.mono hb2.size))
            · rw [if_neg hz] at H
              obtain ⟨tt, ht, H⟩ := Option.bind_eq_some_iff.mp H
              have HST := Lib.hid (fun W hW => glue_Stretch.calls k A0 c0 l0 o tt W hW HN0.out ht)
              clear ht
              have htn : tt ≠ 0 := fun e0 => by rw [if_pos e0] at H; cases H
              rw [if_neg htn] at H
              obtain ⟨rfl, rfl, rfl⟩ := (by simpa using H : _ ∧ _ ∧ _)
              clear H
              gi_wp2_with (first | (refine ⟨trivial, ?_⟩; gi_at_call 16; refine (callsIn_wide.2 HN2.out).mono ?_; rintro e w2 ⟨rfl, hb2⟩; have HC3 := Lib.hid (Kd.C_below HC2.out hb2); have HD3 := Lib.hid (HOD.out w2 HC3.out)) | (refine ⟨trivial, ?_⟩; gi_at_call 39; refine (callsIn_wide.2 HD3.out).mono ?_; rintro e w3 ⟨rfl, hb3⟩; have HC4 := Lib.hid (Kd.C_below HC3.out hb3); have HS4 := Lib.hid (HST.out w3 HC4.out)) | (refine ⟨trivial, ?_⟩; gi_at_call 18; refine (callsIn_wide.2 HS4.out).mono ?_; rintro e w4 ⟨rfl, hb4⟩) | (refine ⟨trivial, ?_⟩; gi_at_call 40; refine (sharing_in Fence.wide _ trivial rfl _ _ _).mono ?_; rintro e w5 ⟨rfl, hw5_⟩; have hw5 := Aside0.mk hw5_; clear hw5_) | (refine ⟨trivial, ?_⟩; gi_at_call 36; refine (stretching_in Fence.wide _ trivial rfl _ _ _ _ _).mono ?_; rintro e w6 ⟨rfl, hw6_⟩; have hw6 := Aside0.mk hw6_; clear hw6_))
              have hb24 : Below wr.heap.size wr w4 := hb2.trans ((hb3.mono hb2.size).trans (hb4.mono (Nat.le_trans hb2.size hb3.size)))
              have ho4 := pw_own_below hO.out hb24
              have hco4 := (hb24.cell (p := ⟨w1.heap.size + 1, 0, none⟩) hbo).trans hco
              obtain ⟨HI5, hsz5, hB5⟩ := setI_new (wrap64 (a1 - nat)) tt ho4 hco4 hw5.out (.func (.func 61) #[] #[.pointer (some ⟨w4.heap.size + 2, 0, none⟩), .pointer (some ⟨w4.heap.size, 0, none⟩), .pointer (some ⟨w4.heap.size + 1, 0, none⟩), .pointer (some ⟨w4.heap.size + 3, 0, none⟩)])
              have hw6' := hw6.out
              obtain ⟨w5b, hw5b⟩ : ∃ w5b, w5.alloc (.cells #[.func (.func 61) #[] #[.pointer (some ⟨w4.heap.size + 2, 0, none⟩), .pointer (some ⟨w4.heap.size, 0, none⟩), .pointer (some ⟨w4.heap.size + 1, 0, none⟩), .pointer (some ⟨w4.heap.size + 3, 0, none⟩)]] 58) = w5b := ⟨_, rfl⟩
              rw [hw5b] at hw6' HI5
              have hsz5b : w5b.heap.size = w5.heap.size + 1 := by rw [← hw5b]; simp
              have hsz6 : w6.heap.size = w4.heap.size + 7 := by rw [hw6']; simp [hsz5b, hsz5]
              have b1 := (Boxed.new w5b 22 (.slice A0 l0.length c0)).alloc (.cells #[.int .i64 o] 3)
              have b2 := Boxed.new (w5b.alloc (.cells #[.slice A0 l0.length c0] 22)) 3 (.int .i64 o)
              rw [World.size_alloc, hsz5b] at b2
              rw [hsz5b] at b1
              rw [← hw6'] at b1 b2
              have HI6 := setI_kept (setI_kept HI5 (World.grownBy_alloc _ (.cells #[.slice A0 l0.length c0] 22) none) (fun _ e => by cases e)) (World.grownBy_alloc _ (.cells #[.int .i64 o] 3) none) (fun _ e => by cases e)
              rw [← hw6'] at HI6
              have hw4le : wr.heap.size ≤ w4.heap.size := hb24.size
              have hB6 : Below w.heap.size w w6 := by
                have h4 := below_then hB.out hB.out.size hb24
                have h5 := below_then h4 h4.size hB5
                rw [hw6', ← hw5b]
                exact below_alloc (below_alloc (below_alloc h5 _) _) _
              have hwle : w.heap.size ≤ wr.heap.size := hB.out.size
              have hmx : Try.prog.follows .mixedOrders = true := by kernel_rfl
              have HX := Lib.hid hw6'
              clear hw6 hw6' hw5b hw5 HI5 hb24 hB5 hb2 hb3 hb4
              refine wpIn_rangeFunc_ownG (F := Fence.wide) (n := 12) rfl (by omega) (gf := 59) (lb := #[.pointer (some ⟨w5.heap.size + 1, 0, none⟩), .pointer (some ⟨w5.heap.size + 1 + 1, 0, none⟩)]) ?heval trivial (enters_of Try.func59 (by kernel_rfl) rfl)
                (stretching_stops Fence.wide _ trivial rfl (by omega) (w5.heap.size + 1) (w5.heap.size + 1 + 1) w.heap.size A0 c0 l0 o w w6 rfl hB6 HR.out (by omega) (by omega) b1.cell b2.cell) KpG_t (KpG_b (by omega)) (Below.refl _ _) (fun _ => rfl)
                (fun pre W => SetI w.heap.size w1.heap.size (w1.heap.size + 1) (w4.heap.size + 2) (w4.heap.size + 3) w4.heap.size (w4.heap.size + 1) (w4.heap.size + 4) l0.length (wrap64 (a1 - nat)) tt (.func (.func 61) #[] #[.pointer (some ⟨w4.heap.size + 2, 0, none⟩), .pointer (some ⟨w4.heap.size, 0, none⟩), .pointer (some ⟨w4.heap.size + 1, 0, none⟩), .pointer (some ⟨w4.heap.size + 3, 0, none⟩)]) (shRun (· + ·) (wrap64 (a1 - nat)) tt (l0.map (·.f0)) pre) W ∧ Below w.heap.size w W)
                (fun _ _ _ => False)
                (OwnFrom.and (Own.from (setI_own _ _ _ _ _ _ _ _ _ _ _ _ (fun pre => shRun (· + ·) (wrap64 (a1 - nat)) tt (l0.map (·.f0)) pre)) _) (ownFrom_below (Nat.le_refl _) (by omega)))
                (fun _ _ _ _ _ hs _ _ => hs)
                ⟨by rw [shRun_nil]; exact HI6, hB6⟩
                ?a1 ?assign ?body ?done ?stop
              case assign =>
                intro l x W K hK
                simp only [encG]
                gi_wp2
                exact hK
              case heval => rfl
              case body =>
                rintro l pre x W ⟨hI, hB7⟩ _
                obtain ⟨i1, i2, ⟨i3, i3'⟩, ⟨i4, i4'⟩, i5, i6, i7⟩ := hI
                obtain ⟨st, hst⟩ : ∃ st, shRun (· + ·) (wrap64 (a1 - nat)) tt (l0.map (·.f0)) pre = st := ⟨_, rfl⟩
                rw [hst] at i1 i3 i4
                rcases st with ⟨xs, sn, gv⟩
                dsimp only at i1 i3 i4
                have hxl := x.1.isLt
                have hgs : w1.heap.size < w4.heap.size := by omega
                have hgs1 : w1.heap.size + 1 < w4.heap.size := by omega
                obtain ⟨o1, o2⟩ := own_at i1 (x.1.val : Int) (by omega) (by omega)
                simp only [Int.toNat_natCast] at o1 o2
                have HI1 := Aside0.mk i1
                have HST7 := Aside0.mk hst
                have HB7 := Aside0.mk hB7
                clear hst i1 hB7
                have HSH := Lib.hid (share_in Fence.wide 9 trivial rfl (w4.heap.size + 2) w4.heap.size (w4.heap.size + 1) (w4.heap.size + 3) (wrap64 (a1 - nat)) tt sn gv x.2 W.drew (by omega) (by omega) (by omega) htn ((cell_drew_own _ _).trans i3) ((frozen_drew_own _ _).trans i3') ((cell_drew_own _ _).trans i5) ((cell_drew_own _ _).trans i6) ((cell_drew_own _ _).trans i4) ((frozen_drew_own _ _).trans i4'))
                gi_wp2
                refine wpIn_region_K (fun i => i == 9) (fun w' => w'.cell? ⟨w1.heap.size + 1, 0, none⟩ = some (.slice (some ⟨w1.heap.size, 0, none⟩) l0.length l0.length) ∧ w'.cell? ⟨w1.heap.size, x.1.val, none⟩ = some (.int .i64 (rd xs (x.1.val : Int))) ∧ w'.frozen? ⟨w1.heap.size, x.1.val, none⟩ = false ∧ w'.cell? ⟨w4.heap.size + 4, 0, none⟩ = some (.func (.func 61) #[] #[.pointer (some ⟨w4.heap.size + 2, 0, none⟩), .pointer (some ⟨w4.heap.size, 0, none⟩), .pointer (some ⟨w4.heap.size + 1, 0, none⟩), .pointer (some ⟨w4.heap.size + 3, 0, none⟩)])) hmx ?_
                have hSS := And.intro ((cell_drew_own _ _).trans i2) (And.intro ((cell_drew_own _ _).trans o1) (And.intro ((frozen_drew_own _ _).trans o2) ((cell_drew_own _ _).trans i7)))
                refine wpAnyK_take (i := 0) (by kernel_rfl) rfl (by kernel_rfl) (by kernel_rfl) (by kernel_rfl) (by kernel_rfl) (by kernel_rfl) (fun _ _ _ h => h) hSS (fun _ => rfl) rfl (by rintro w' ⟨s1, s2, s3, s4⟩; simp [go_sem, s1]; rfl) ?_
                simp only [Act.put, List.getElem_toArray, List.getElem_cons_zero, List.getElem_cons_succ, List.setIfInBounds_toArray, List.set_cons_zero, List.set_cons_succ]
                refine wpAnyK_take (i := 1) (by kernel_rfl) rfl (by kernel_rfl) (by kernel_rfl) (by kernel_rfl) (by kernel_rfl) (by kernel_rfl) (fun _ _ _ h => h) hSS (fun _ => rfl) rfl (by rintro w' ⟨s1, s2, s3, s4⟩; simp [go_sem, s1]; rfl) ?_
                simp only [Act.put, List.getElem_toArray, List.getElem_cons_zero, List.getElem_cons_succ, List.setIfInBounds_toArray, List.set_cons_zero, List.set_cons_succ]
                refine wpAnyK_take (i := 2) (by kernel_rfl) rfl (by kernel_rfl) (by kernel_rfl) (by kernel_rfl) (by kernel_rfl) (by kernel_rfl) (fun _ _ _ h => h) hSS (fun _ => rfl) rfl (by rintro w' ⟨s1, s2, s3, s4⟩; simp [go_sem, hxl]; rfl) ?_
                simp only [Act.put, List.getElem_toArray, List.getElem_cons_zero, List.getElem_cons_succ, List.setIfInBounds_toArray, List.set_cons_zero, List.set_cons_succ]
                refine wpAnyK_take (i := 3) (by kernel_rfl) rfl (by kernel_rfl) (by kernel_rfl) (by kernel_rfl) (by kernel_rfl) (by kernel_rfl) (fun _ _ _ h => h) hSS (fun _ => rfl) rfl (by rintro w' ⟨s1, s2, s3, s4⟩; simp [go_sem, s2]; rfl) ?_
                simp only [Act.put, List.getElem_toArray, List.getElem_cons_zero, List.getElem_cons_succ, List.setIfInBounds_toArray, List.set_cons_zero, List.set_cons_succ]
                refine wpAnyK_take (i := 4) (by kernel_rfl) rfl (by kernel_rfl) (by kernel_rfl) (by kernel_rfl) (by kernel_rfl) (by kernel_rfl) (fun _ _ _ h => h) hSS (fun _ => rfl) rfl (by rintro w' ⟨s1, s2, s3, s4⟩; simp [go_sem, s4]; rfl) ?_
                simp only [Act.put, List.getElem_toArray, List.getElem_cons_zero, List.getElem_cons_succ, List.setIfInBounds_toArray, List.set_cons_zero, List.set_cons_succ]
                refine wpAnyK_take (i := 5) (by kernel_rfl) rfl (by kernel_rfl) (by kernel_rfl) (by kernel_rfl) (by kernel_rfl) (by kernel_rfl) (fun _ _ _ h => h) hSS (fun _ => rfl) rfl (by rintro w' ⟨s1, s2, s3, s4⟩; simp [go_sem, s4]; rfl) ?_
                simp only [Act.put, List.getElem_toArray, List.getElem_cons_zero, List.getElem_cons_succ, List.setIfInBounds_toArray, List.set_cons_zero, List.set_cons_succ]
                refine wpAnyK_only (i := 6) rfl (by kernel_rfl) rfl ?_
                intro K hK
                simp only [List.getElem_toArray, List.getElem_cons_zero, List.getElem_cons_succ]
                have HK := Lib.hid hK
                clear hK
                go_simp
                refine ⟨trivial, ?_⟩
                refine (CallsIn.inRound l HSH.out).mono ?_
                rintro e w9 ⟨rfl, hw9⟩
                have f1 := shareW_far hw9 (p := ⟨w1.heap.size, x.1.val, none⟩) (show w4.heap.size + 2 ≠ w1.heap.size by omega) (show w4.heap.size + 3 ≠ w1.heap.size by omega)
                have f2 := shareW_far hw9 (p := ⟨w1.heap.size + 1, 0, none⟩) (show w4.heap.size + 2 ≠ w1.heap.size + 1 by omega) (show w4.heap.size + 3 ≠ w1.heap.size + 1 by omega)
                have f3 := shareW_far hw9 (p := ⟨w4.heap.size + 4, 0, none⟩) (show w4.heap.size + 2 ≠ w4.heap.size + 4 by omega) (show w4.heap.size + 3 ≠ w4.heap.size + 4 by omega)
                have hS9 := And.intro (f2.1.trans hSS.1) (And.intro (f1.1.trans hSS.2.1) (And.intro (f1.2.trans hSS.2.2.1) (f3.1.trans hSS.2.2.2)))
                have HW9 := Aside0.mk hw9
                clear hw9 f1 f2 f3
                refine HK.out _ _ (fun _ => hS9) ?_
                refine wpAnyK_take (i := 7) (v := .int .i64 (wrap64 (rd xs (x.1.val : Int) + wrap64 (wrap64 (Int.tdiv (wrap64 (wrap64 (a1 - nat) * wrap64 (sn + x.2))) tt) - gv)))) (by kernel_rfl) rfl (by kernel_rfl) (by kernel_rfl) (by kernel_rfl) (by kernel_rfl) (by kernel_rfl) (fun _ _ _ h => h) hS9 (fun _ => rfl) rfl (by rintro w' ⟨s1, s2, s3, s4⟩; simp [go_sem, IntKind.wrap_i64, wrap64]) ?_
                simp only [Act.put, List.getElem_toArray, List.getElem_cons_zero, List.getElem_cons_succ, List.setIfInBounds_toArray, List.set_cons_zero, List.set_cons_succ]
                refine wpAnyK_take (i := 8) (by kernel_rfl) rfl (by kernel_rfl) (by kernel_rfl) (by kernel_rfl) (by kernel_rfl) (by kernel_rfl) (fun _ _ _ h => h) hS9 (fun _ => rfl) rfl (by rintro w' ⟨s1, s2, s3, s4⟩; simp [go_sem, hxl]; rfl) ?_
                simp only [Act.put, List.getElem_toArray, List.getElem_cons_zero, List.getElem_cons_succ, List.setIfInBounds_toArray, List.set_cons_zero, List.set_cons_succ]
                refine wpAnyK_only (i := 9) rfl (by kernel_rfl) rfl ?_
                intro K9 hK9
                simp only [List.getElem_toArray, List.getElem_cons_zero, List.getElem_cons_succ]
                have HK9 := Lib.hid hK9
                clear hK9
                have hf9 := hS9.2.2.1
                have hc9 := hS9.2.1
                go_simp
                refine HK9.out _ _ (fun h => by cases h) (wpAnyK_done (by kernel_rfl) ?_ _)
                have hw9 := HW9.out
                have hown9 : w9.ownsRow w.heap.size 3 1 (.slice (some ⟨w1.heap.size, 0, none⟩) l0.length l0.length) l0.length (nums .i64 xs) := by
                  rw [hw9]
                  exact own_setCell (own_setCell HI1.out (p := ⟨w4.heap.size + 2, 0, none⟩) (fun e => by simp [Value.ownBlock] at e; omega) _) (p := ⟨w4.heap.size + 3, 0, none⟩) (fun e => by simp [Value.ownBlock] at e; omega) _
                have hown9' := (own_store hown9 (x.1.val : Int) (wrap64 (rd xs (x.1.val : Int) + wrap64 (wrap64 (Int.tdiv (wrap64 (wrap64 (a1 - nat) * wrap64 (sn + x.2))) tt) - gv)))).1
                simp only [Int.toNat_natCast] at hown9'
                have hfar : ∀ (p : Addr), w1.heap.size ≠ p.block → ∀ u, (w9.setCell ⟨w1.heap.size, x.1.val, none⟩ u).cell? p = w9.cell? p := fun p hp u => World.cell?_setCell_far _ _ _ _ hp
                have hfro : ∀ (p : Addr) u, (w9.setCell ⟨w1.heap.size, x.1.val, none⟩ u).frozen? p = w9.frozen? p := fun p u => by rw [World.frozen?_setCell]
                have hg9 : ∀ (p : Addr), w4.heap.size + 2 ≠ p.block → w4.heap.size + 3 ≠ p.block → w9.cell? p = W.cell? p ∧ w9.frozen? p = W.frozen? p := fun p h1 h2 => shareW_far hw9 h1 h2
                have hs9 : w9.cell? ⟨w4.heap.size + 2, 0, none⟩ = some (.int .i64 (wrap64 (sn + x.2))) := by
                  rw [hw9, World.cell?_setCell_far _ _ _ _ (show w4.heap.size + 3 ≠ w4.heap.size + 2 by omega)]
                  exact World.cell?_setCell_same' _ _ _ (by rw [cell_drew_own, i3]; rfl)
                have hv9 : w9.cell? ⟨w4.heap.size + 3, 0, none⟩ = some (.int .i64 (wrap64 (Int.tdiv (wrap64 (wrap64 (a1 - nat) * wrap64 (sn + x.2))) tt))) := by
                  rw [hw9]
                  exact World.cell?_setCell_same' _ _ _ (by rw [World.cell?_setCell_far _ _ _ _ (show w4.heap.size + 2 ≠ w4.heap.size + 3 by omega), cell_drew_own, i4]; rfl)
                have hfz9 : ∀ p : Addr, w9.frozen? p = W.frozen? p := fun p => by rw [hw9, World.frozen?_setCell, World.frozen?_setCell, frozen_drew_own]
                have hB9 : Below w.heap.size W w9 := by
                  rw [hw9]
                  exact ((Below.refl w.heap.size W).drew.setCell (p := ⟨w4.heap.size + 2, 0, none⟩) (by show w.heap.size ≤ w4.heap.size + 2; omega) _).setCell (p := ⟨w4.heap.size + 3, 0, none⟩) (by show w.heap.size ≤ w4.heap.size + 3; omega) _
                have hB9' := hB9.setCell (p := ⟨w1.heap.size, x.1.val, none⟩) hle1 (.int .i64 (wrap64 (rd xs (x.1.val : Int) + wrap64 (wrap64 (Int.tdiv (wrap64 (wrap64 (a1 - nat) * wrap64 (sn + x.2))) tt) - gv))))
                refine ⟨?_, ⟨hB9', ?_⟩, ⟨?_, ?_, ⟨?_, ?_⟩, ⟨?_, ?_⟩, ?_, ?_, ?_⟩, HB7.out.trans hB9'⟩
                · refine KeepsOthers.from (KeepsOthers.trans ?_ (KeepsOthers.setCell _ _ _)) _
                  rw [hw9]
                  exact ((KeepsOthers.drew _).trans (KeepsOthers.setCell _ _ _)).trans (KeepsOthers.setCell _ _ _)
                · intro e
                  exact (hfar _ (show w1.heap.size ≠ w5.heap.size + 1 + 1 by omega) _).trans ((hg9 _ (show w4.heap.size + 2 ≠ w5.heap.size + 1 + 1 by omega) (show w4.heap.size + 3 ≠ w5.heap.size + 1 + 1 by omega)).1.trans e)
                · rw [shRun_snoc, HST7.out]
                  exact hown9'
                · exact (hfar _ (show w1.heap.size ≠ w1.heap.size + 1 by omega) _).trans ((hg9 _ (show w4.heap.size + 2 ≠ w1.heap.size + 1 by omega) (show w4.heap.size + 3 ≠ w1.heap.size + 1 by omega)).1.trans i2)
                · rw [shRun_snoc, HST7.out]
                  exact (hfar _ (show w1.heap.size ≠ w4.heap.size + 2 by omega) _).trans hs9
                · rw [hfro, hfz9]; exact i3'
                · rw [shRun_snoc, HST7.out]
                  exact (hfar _ (show w1.heap.size ≠ w4.heap.size + 3 by omega) _).trans hv9
                · rw [hfro, hfz9]; exact i4'
                · exact (hfar _ (show w1.heap.size ≠ w4.heap.size by omega) _).trans ((hg9 _ (show w4.heap.size + 2 ≠ w4.heap.size by omega) (show w4.heap.size + 3 ≠ w4.heap.size by omega)).1.trans i5)
                · exact (hfar _ (show w1.heap.size ≠ w4.heap.size + 1 by omega) _).trans ((hg9 _ (show w4.heap.size + 2 ≠ w4.heap.size + 1 by omega) (show w4.heap.size + 3 ≠ w4.heap.size + 1 by omega)).1.trans i6)
                · exact (hfar _ (show w1.heap.size ≠ w4.heap.size + 4 by omega) _).trans ((hg9 _ (show w4.heap.size + 2 ≠ w4.heap.size + 4 by omega) (show w4.heap.size + 3 ≠ w4.heap.size + 4 by omega)).1.trans i7)
              case done =>
                rintro D ys W hD rfl ⟨hI, hB7⟩ hK
                obtain ⟨i1, i2, -⟩ := hI
                have HI1 := Aside0.mk i1
                have HB7 := Aside0.mk hB7
                clear i1 hB7
                gi_wp2
                refine ⟨by simp, .inl ⟨_, _, rfl, run_takeDeferred hK, ?_⟩⟩
                refine ⟨.tuple #[.slice (some ⟨w1.heap.size, 0, none⟩) l0.length l0.length, .int .i64 0, .int .i64 0], ?_, _, rfl, ?_, ?_⟩
                · simp [results, Try.f22, go_sem]
                · have hD2 := (Array.getElem?_eq_some_iff.1 hK).1
                  refine Kd.R_of_own (enc := Value.int .i64) ?_ (fun _ _ => trivial)
                  rw [shRun_len, List.length_map]
                  exact own_other HI1.out (grownBy_putObj' W D _) (.inr (fun e => by simp [Value.ownBlock] at e; omega))
                · exact HB7.out.trans (belowK_b (w := w) (Nat.le_refl _) W D _ _ (by omega) hK rfl rfl)
              case stop =>
                rintro D c pre W _ _ h _
                exact h.elim
          · have H := HH.out
            rw [if_neg hx] at H
            clear HH
            obtain ⟨tt, ht, H⟩ := Option.bind_eq_some_iff.mp H
            have HST := Lib.hid (fun W hW => glue_Shrink.calls k A0 c0 l0 tt W hW HN0.out ht)
            clear ht
            obtain ⟨les, hles⟩ : ∃ les, mn (wrap64 (-(wrap64 (a1 - nat)))) tt = les := ⟨_, rfl⟩
            rw [hles] at H
            unfold mn at hles
            by_cases hz : 0 < tt
            · have htn : tt ≠ 0 := by omega
              rw [if_pos hz] at H
              obtain ⟨rfl, rfl, rfl⟩ := (by simpa using H : _ ∧ _ ∧ _)
              clear H
              gi_wp2_with (first | (refine ⟨trivial, ?_⟩; gi_at_call 16; refine (callsIn_wide.2 HN2.out).mono ?_; rintro e w2 ⟨rfl, hb2⟩; have HC3 := Lib.hid (Kd.C_below HC2.out hb2); have HS4 := Lib.hid (HST.out w2 HC3.out)) | (refine ⟨trivial, ?_⟩; gi_at_call 20; refine (callsIn_wide.2 HS4.out).mono ?_; rintro e w4 ⟨rfl, hb4⟩) | (refine ⟨trivial, ?_⟩; gi_at_call 40; refine (sharing_in Fence.wide _ trivial rfl _ _ _).mono ?_; rintro e w5 ⟨rfl, hw5_⟩; have hw5 := Aside0.mk hw5_; clear hw5_) | (refine ⟨trivial, ?_⟩; gi_at_call 37; refine (shrinking_in Fence.wide _ trivial rfl _ _ _ _).mono ?_; rintro e w6 ⟨rfl, hw6_⟩; have hw6 := Aside0.mk hw6_; clear hw6_))
              have hb24 : Below wr.heap.size wr w4 := hb2.trans (hb4.mono hb2.size)
              have ho4 := pw_own_below hO.out hb24
              have hco4 := (hb24.cell (p := ⟨w1.heap.size + 1, 0, none⟩) hbo).trans hco
              obtain ⟨HI5, hsz5, hB5⟩ := setI_new les tt ho4 hco4 hw5.out (.func (.func 61) #[] #[.pointer (some ⟨w4.heap.size + 2, 0, none⟩), .pointer (some ⟨w4.heap.size, 0, none⟩), .pointer (some ⟨w4.heap.size + 1, 0, none⟩), .pointer (some ⟨w4.heap.size + 3, 0, none⟩)])
              have hw6' := hw6.out
              obtain ⟨w5b, hw5b⟩ : ∃ w5b, w5.alloc (.cells #[.func (.func 61) #[] #[.pointer (some ⟨w4.heap.size + 2, 0, none⟩), .pointer (some ⟨w4.heap.size, 0, none⟩), .pointer (some ⟨w4.heap.size + 1, 0, none⟩), .pointer (some ⟨w4.heap.size + 3, 0, none⟩)]] 58) = w5b := ⟨_, rfl⟩
              rw [hw5b] at hw6' HI5
              have hsz5b : w5b.heap.size = w5.heap.size + 1 := by rw [← hw5b]; simp
              have hsz6 : w6.heap.size = w4.heap.size + 6 := by rw [hw6']; simp [hsz5b, hsz5]
              have b1 := Boxed.new w5b 22 (.slice A0 l0.length c0)
              rw [hsz5b] at b1
              rw [← hw6'] at b1
              have HI6 := setI_kept HI5 (World.grownBy_alloc _ (.cells #[.slice A0 l0.length c0] 22) none) (fun _ e => by cases e)
              rw [← hw6'] at HI6
              have hw4le : wr.heap.size ≤ w4.heap.size := hb24.size
              have hB6 : Below w.heap.size w w6 := by
                have h4 := below_then hB.out hB.out.size hb24
                have h5 := below_then h4 h4.size hB5
                rw [hw6', ← hw5b]
                exact below_alloc (below_alloc h5 _) _
              have hwle : w.heap.size ≤ wr.heap.size := hB.out.size
              have hmx : Try.prog.follows .mixedOrders = true := by kernel_rfl
              have HX := Lib.hid hw6'
              clear hw6 hw6' hw5b hw5 HI5 hb24 hB5 hb2 hb4
              refine wpIn_rangeFunc_ownG (F := Fence.wide) (n := 12) rfl (by omega) (gf := 60) (lb := #[.pointer (some ⟨w5.heap.size + 1, 0, none⟩)]) ?heval2 trivial (enters_of Try.func60 (by kernel_rfl) rfl)
                (shrinking_stops Fence.wide _ trivial rfl (by omega) (w5.heap.size + 1) (w5.heap.size + 1) w.heap.size A0 c0 l0 (.slice A0 l0.length c0) w w6 rfl hB6 HR.out (by omega) b1.cell) KpG_t (KpG_b (by omega)) (Below.refl _ _) (fun _ => rfl)
                (fun pre W => SetI w.heap.size w1.heap.size (w1.heap.size + 1) (w4.heap.size + 2) (w4.heap.size + 3) w4.heap.size (w4.heap.size + 1) (w4.heap.size + 4) l0.length les tt (.func (.func 61) #[] #[.pointer (some ⟨w4.heap.size + 2, 0, none⟩), .pointer (some ⟨w4.heap.size, 0, none⟩), .pointer (some ⟨w4.heap.size + 1, 0, none⟩), .pointer (some ⟨w4.heap.size + 3, 0, none⟩)]) (shRun (· - ·) les tt (l0.map (·.f0)) pre) W ∧ Below w.heap.size w W)
                (fun _ _ _ => False)
                (OwnFrom.and (Own.from (setI_own _ _ _ _ _ _ _ _ _ _ _ _ (fun pre => shRun (· - ·) les tt (l0.map (·.f0)) pre)) _) (ownFrom_below (Nat.le_refl _) (by omega)))
                (fun _ _ _ _ _ hs _ _ => hs)
                ⟨by rw [shRun_nil]; exact HI6, hB6⟩
                ?a12 ?assign2 ?body2 ?done2 ?stop2
              case assign2 =>
                intro l x W K hK
                simp only [encG]
                gi_wp2
                exact hK
              case heval2 => rfl
              case body2 =>
                rintro l pre x W ⟨hI, hB7⟩ _
                obtain ⟨i1, i2, ⟨i3, i3'⟩, ⟨i4, i4'⟩, i5, i6, i7⟩ := hI
                obtain ⟨st, hst⟩ : ∃ st, shRun (· - ·) les tt (l0.map (·.f0)) pre = st := ⟨_, rfl⟩
                rw [hst] at i1 i3 i4
                rcases st with ⟨xs, sn, gv⟩
                dsimp only at i1 i3 i4
                have hxl := x.1.isLt
                have hgs : w1.heap.size < w4.heap.size := by omega
                have hgs1 : w1.heap.size + 1 < w4.heap.size := by omega
                obtain ⟨o1, o2⟩ := own_at i1 (x.1.val : Int) (by omega) (by omega)
                simp only [Int.toNat_natCast] at o1 o2
                have HI1 := Aside0.mk i1
                have HST7 := Aside0.mk hst
                have HB7 := Aside0.mk hB7
                clear hst i1 hB7
                have HSH := Lib.hid (share_in Fence.wide 9 trivial rfl (w4.heap.size + 2) w4.heap.size (w4.heap.size + 1) (w4.heap.size + 3) les tt sn gv x.2 W.drew (by omega) (by omega) (by omega) htn ((cell_drew_own _ _).trans i3) ((frozen_drew_own _ _).trans i3') ((cell_drew_own _ _).trans i5) ((cell_drew_own _ _).trans i6) ((cell_drew_own _ _).trans i4) ((frozen_drew_own _ _).trans i4'))
                gi_wp2
                refine wpIn_region_K (fun i => i == 9) (fun w' => w'.cell? ⟨w1.heap.size + 1, 0, none⟩ = some (.slice (some ⟨w1.heap.size, 0, none⟩) l0.length l0.length) ∧ w'.cell? ⟨w1.heap.size, x.1.val, none⟩ = some (.int .i64 (rd xs (x.1.val : Int))) ∧ w'.frozen? ⟨w1.heap.size, x.1.val, none⟩ = false ∧ w'.cell? ⟨w4.heap.size + 4, 0, none⟩ = some (.func (.func 61) #[] #[.pointer (some ⟨w4.heap.size + 2, 0, none⟩), .pointer (some ⟨w4.heap.size, 0, none⟩), .pointer (some ⟨w4.heap.size + 1, 0, none⟩), .pointer (some ⟨w4.heap.size + 3, 0, none⟩)])) hmx ?_
                have hSS := And.intro ((cell_drew_own _ _).trans i2) (And.intro ((cell_drew_own _ _).trans o1) (And.intro ((frozen_drew_own _ _).trans o2) ((cell_drew_own _ _).trans i7)))
                refine wpAnyK_take (i := 0) (by kernel_rfl) rfl (by kernel_rfl) (by kernel_rfl) (by kernel_rfl) (by kernel_rfl) (by kernel_rfl) (fun _ _ _ h => h) hSS (fun _ => rfl) rfl (by rintro w' ⟨s1, s2, s3, s4⟩; simp [go_sem, s1]; rfl) ?_
                simp only [Act.put, List.getElem_toArray, List.getElem_cons_zero, List.getElem_cons_succ, List.setIfInBounds_toArray, List.set_cons_zero, List.set_cons_succ]
                refine wpAnyK_take (i := 1) (by kernel_rfl) rfl (by kernel_rfl) (by kernel_rfl) (by kernel_rfl) (by kernel_rfl) (by kernel_rfl) (fun _ _ _ h => h) hSS (fun _ => rfl) rfl (by rintro w' ⟨s1, s2, s3, s4⟩; simp [go_sem, s1]; rfl) ?_
                simp only [Act.put, List.getElem_toArray, List.getElem_cons_zero, List.getElem_cons_succ, List.setIfInBounds_toArray, List.set_cons_zero, List.set_cons_succ]
                refine wpAnyK_take (i := 2) (by kernel_rfl) rfl (by kernel_rfl) (by kernel_rfl) (by kernel_rfl) (by kernel_rfl) (by kernel_rfl) (fun _ _ _ h => h) hSS (fun _ => rfl) rfl (by rintro w' ⟨s1, s2, s3, s4⟩; simp [go_sem, hxl]; rfl) ?_
                simp only [Act.put, List.getElem_toArray, List.getElem_cons_zero, List.getElem_cons_succ, List.setIfInBounds_toArray, List.set_cons_zero, List.set_cons_succ]
                refine wpAnyK_take (i := 3) (by kernel_rfl) rfl (by kernel_rfl) (by kernel_rfl) (by kernel_rfl) (by kernel_rfl) (by kernel_rfl) (fun _ _ _ h => h) hSS (fun _ => rfl) rfl (by rintro w' ⟨s1, s2, s3, s4⟩; simp [go_sem, s2]; rfl) ?_
                simp only [Act.put, List.getElem_toArray, List.getElem_cons_zero, List.getElem_cons_succ, List.setIfInBounds_toArray, List.set_cons_zero, List.set_cons_succ]
                refine wpAnyK_take (i := 4) (by kernel_rfl) rfl (by kernel_rfl) (by kernel_rfl) (by kernel_rfl) (by kernel_rfl) (by kernel_rfl) (fun _ _ _ h => h) hSS (fun _ => rfl) rfl (by rintro w' ⟨s1, s2, s3, s4⟩; simp [go_sem, s4]; rfl) ?_
                simp only [Act.put, List.getElem_toArray, List.getElem_cons_zero, List.getElem_cons_succ, List.setIfInBounds_toArray, List.set_cons_zero, List.set_cons_succ]
                refine wpAnyK_take (i := 5) (by kernel_rfl) rfl (by kernel_rfl) (by kernel_rfl) (by kernel_rfl) (by kernel_rfl) (by kernel_rfl) (fun _ _ _ h => h) hSS (fun _ => rfl) rfl (by rintro w' ⟨s1, s2, s3, s4⟩; simp [go_sem, s4]; rfl) ?_
                simp only [Act.put, List.getElem_toArray, List.getElem_cons_zero, List.getElem_cons_succ, List.setIfInBounds_toArray, List.set_cons_zero, List.set_cons_succ]
                refine wpAnyK_only (i := 6) rfl (by kernel_rfl) rfl ?_
                intro K hK
                simp only [List.getElem_toArray, List.getElem_cons_zero, List.getElem_cons_succ]
                have HK := Lib.hid hK
                clear hK
                go_simp
                refine ⟨trivial, ?_⟩
                refine (CallsIn.inRound l HSH.out).mono ?_
                rintro e w9 ⟨rfl, hw9⟩
                have f1 := shareW_far hw9 (p := ⟨w1.heap.size, x.1.val, none⟩) (show w4.heap.size + 2 ≠ w1.heap.size by omega) (show w4.heap.size + 3 ≠ w1.heap.size by omega)
                have f2 := shareW_far hw9 (p := ⟨w1.heap.size + 1, 0, none⟩) (show w4.heap.size + 2 ≠ w1.heap.size + 1 by omega) (show w4.heap.size + 3 ≠ w1.heap.size + 1 by omega)
                have f3 := shareW_far hw9 (p := ⟨w4.heap.size + 4, 0, none⟩) (show w4.heap.size + 2 ≠ w4.heap.size + 4 by omega) (show w4.heap.size + 3 ≠ w4.heap.size + 4 by omega)
                have hS9 := And.intro (f2.1.trans hSS.1) (And.intro (f1.1.trans hSS.2.1) (And.intro (f1.2.trans hSS.2.2.1) (f3.1.trans hSS.2.2.2)))
                have HW9 := Aside0.mk hw9
                clear hw9 f1 f2 f3
                refine HK.out _ _ (fun _ => hS9) ?_
                refine wpAnyK_take (i := 7) (v := .int .i64 (wrap64 (rd xs (x.1.val : Int) - wrap64 (wrap64 (Int.tdiv (wrap64 (les * wrap64 (sn + x.2))) tt) - gv)))) (by kernel_rfl) rfl (by kernel_rfl) (by kernel_rfl) (by kernel_rfl) (by kernel_rfl) (by kernel_rfl) (fun _ _ _ h => h) hS9 (fun _ => rfl) rfl (by rintro w' ⟨s1, s2, s3, s4⟩; simp [go_sem, IntKind.wrap_i64, wrap64]) ?_
                simp only [Act.put, List.getElem_toArray, List.getElem_cons_zero, List.getElem_cons_succ, List.setIfInBounds_toArray, List.set_cons_zero, List.set_cons_succ]
                refine wpAnyK_take (i := 8) (by kernel_rfl) rfl (by kernel_rfl) (by kernel_rfl) (by kernel_rfl) (by kernel_rfl) (by kernel_rfl) (fun _ _ _ h => h) hS9 (fun _ => rfl) rfl (by rintro w' ⟨s1, s2, s3, s4⟩; simp [go_sem, hxl]; rfl) ?_
                simp only [Act.put, List.getElem_toArray, List.getElem_cons_zero, List.getElem_cons_succ, List.setIfInBounds_toArray, List.set_cons_zero, List.set_cons_succ]
                refine wpAnyK_only (i := 9) rfl (by kernel_rfl) rfl ?_
                intro K9 hK9
                simp only [List.getElem_toArray, List.getElem_cons_zero, List.getElem_cons_succ]
                have HK9 := Lib.hid hK9
                clear hK9
                have hf9 := hS9.2.2.1
                have hc9 := hS9.2.1
                go_simp
                refine HK9.out _ _ (fun h => by cases h) (wpAnyK_done (by kernel_rfl) ?_ _)
                have hw9 := HW9.out
                have hown9 : w9.ownsRow w.heap.size 3 1 (.slice (some ⟨w1.heap.size, 0, none⟩) l0.length l0.length) l0.length (nums .i64 xs) := by
                  rw [hw9]
                  exact own_setCell (own_setCell HI1.out (p := ⟨w4.heap.size + 2, 0, none⟩) (fun e => by simp [Value.ownBlock] at e; omega) _) (p := ⟨w4.heap.size + 3, 0, none⟩) (fun e => by simp [Value.ownBlock] at e; omega) _
                have hown9' := (own_store hown9 (x.1.val : Int) (wrap64 (rd xs (x.1.val : Int) - wrap64 (wrap64 (Int.tdiv (wrap64 (les * wrap64 (sn + x.2))) tt) - gv)))).1
                simp only [Int.toNat_natCast] at hown9'
                have hfar : ∀ (p : Addr), w1.heap.size ≠ p.block → ∀ u, (w9.setCell ⟨w1.heap.size, x.1.val, none⟩ u).cell? p = w9.cell? p := fun p hp u => World.cell?_setCell_far _ _ _ _ hp
                have hfro : ∀ (p : Addr) u, (w9.setCell ⟨w1.heap.size, x.1.val, none⟩ u).frozen? p = w9.frozen? p := fun p u => by rw [World.frozen?_setCell]
                have hg9 : ∀ (p : Addr), w4.heap.size + 2 ≠ p.block → w4.heap.size + 3 ≠ p.block → w9.cell? p = W.cell? p ∧ w9.frozen? p = W.frozen? p := fun p h1 h2 => shareW_far hw9 h1 h2
                have hs9 : w9.cell? ⟨w4.heap.size + 2, 0, none⟩ = some (.int .i64 (wrap64 (sn + x.2))) := by
                  rw [hw9, World.cell?_setCell_far _ _ _ _ (show w4.heap.size + 3 ≠ w4.heap.size + 2 by omega)]
                  exact World.cell?_setCell_same' _ _ _ (by rw [cell_drew_own, i3]; rfl)
                have hv9 : w9.cell? ⟨w4.heap.size + 3, 0, none⟩ = some (.int .i64 (wrap64 (Int.tdiv (wrap64 (les * wrap64 (sn + x.2))) tt))) := by
                  rw [hw9]
                  exact World.cell?_setCell_same' _ _ _ (by rw [World.cell?_setCell_far _ _ _ _ (show w4.heap.size + 2 ≠ w4.heap.size + 3 by omega), cell_drew_own, i4]; rfl)
                have hfz9 : ∀ p : Addr, w9.frozen? p = W.frozen? p := fun p => by rw [hw9, World.frozen?_setCell, World.frozen?_setCell, frozen_drew_own]
                have hB9 : Below w.heap.size W w9 := by
                  rw [hw9]
                  exact ((Below.refl w.heap.size W).drew.setCell (p := ⟨w4.heap.size + 2, 0, none⟩) (by show w.heap.size ≤ w4.heap.size + 2; omega) _).setCell (p := ⟨w4.heap.size + 3, 0, none⟩) (by show w.heap.size ≤ w4.heap.size + 3; omega) _
                have hB9' := hB9.setCell (p := ⟨w1.heap.size, x.1.val, none⟩) hle1 (.int .i64 (wrap64 (rd xs (x.1.val : Int) - wrap64 (wrap64 (Int.tdiv (wrap64 (les * wrap64 (sn + x.2))) tt) - gv))))
                refine ⟨?_, ⟨hB9', ?_⟩, ⟨?_, ?_, ⟨?_, ?_⟩, ⟨?_, ?_⟩, ?_, ?_, ?_⟩, HB7.out.trans hB9'⟩
                · refine KeepsOthers.from (KeepsOthers.trans ?_ (KeepsOthers.setCell _ _ _)) _
                  rw [hw9]
                  exact ((KeepsOthers.drew _).trans (KeepsOthers.setCell _ _ _)).trans (KeepsOthers.setCell _ _ _)
                · intro e
                  exact (hfar _ (show w1.heap.size ≠ w5.heap.size + 1 by omega) _).trans ((hg9 _ (show w4.heap.size + 2 ≠ w5.heap.size + 1 by omega) (show w4.heap.size + 3 ≠ w5.heap.size + 1 by omega)).1.trans e)
                · rw [shRun_snoc, HST7.out]
                  exact hown9'
                · exact (hfar _ (show w1.heap.size ≠ w1.heap.size + 1 by omega) _).trans ((hg9 _ (show w4.heap.size + 2 ≠ w1.heap.size + 1 by omega) (show w4.heap.size + 3 ≠ w1.heap.size + 1 by omega)).1.trans i2)
                · rw [shRun_snoc, HST7.out]
                  exact (hfar _ (show w1.heap.size ≠ w4.heap.size + 2 by omega) _).trans hs9
                · rw [hfro, hfz9]; exact i3'
                · rw [shRun_snoc, HST7.out]
                  exact (hfar _ (show w1.heap.size ≠ w4.heap.size + 3 by omega) _).trans hv9
                · rw [hfro, hfz9]; exact i4'
                · exact (hfar _ (show w1.heap.size ≠ w4.heap.size by omega) _).trans ((hg9 _ (show w4.heap.size + 2 ≠ w4.heap.size by omega) (show w4.heap.size + 3 ≠ w4.heap.size by omega)).1.trans i5)
                · exact (hfar _ (show w1.heap.size ≠ w4.heap.size + 1 by omega) _).trans ((hg9 _ (show w4.heap.size + 2 ≠ w4.heap.size + 1 by omega) (show w4.heap.size + 3 ≠ w4.heap.size + 1 by omega)).1.trans i6)
                · exact (hfar _ (show w1.heap.size ≠ w4.heap.size + 4 by omega) _).trans ((hg9 _ (show w4.heap.size + 2 ≠ w4.heap.size + 4 by omega) (show w4.heap.size + 3 ≠ w4.heap.size + 4 by omega)).1.trans i7)
              case done2 =>
                rintro D ys W hD rfl ⟨hI, hB7⟩ hK
                obtain ⟨i1, i2, -⟩ := hI
                have HI1 := Aside0.mk i1
                have HB7 := Aside0.mk hB7
                clear i1 hB7
                gi_wp2
                refine ⟨by simp, .inl ⟨_, _, rfl, run_takeDeferred hK, ?_⟩⟩
                refine ⟨.tuple #[.slice (some ⟨w1.heap.size, 0, none⟩) l0.length l0.length, .int .i64 (wrap64 (wrap64 (a1 - nat) + les)), .int .i64 0], ?_, _, rfl, ?_, ?_⟩
                · simp [results, Try.f22, go_sem]
                · have hD2 := (Array.getElem?_eq_some_iff.1 hK).1
                  refine Kd.R_of_own (enc := Value.int .i64) ?_ (fun _ _ => trivial)
                  rw [shRun_len, List.length_map]
                  exact own_other HI1.out (grownBy_putObj' W D _) (.inr (fun e => by simp [Value.ownBlock] at e; omega))
                · exact HB7.out.trans (belowK_b (w := w) (Nat.le_refl _) W D _ _ (by omega) hK rfl rfl)
              case stop2 =>
                rintro D c pre W _ _ h _
                exact h.elim
            · rw [if_neg hz] at H
              obtain ⟨rfl, rfl, rfl⟩ := (by simpa using H : _ ∧ _ ∧ _)
              clear H
              gi_wp2_with (first | (refine ⟨trivial, ?_⟩; gi_at_call 16; refine (callsIn_wide.2 HN2.out).mono ?_; rintro e w2 ⟨rfl, hb2⟩; have HC3 := Lib.hid (Kd.C_below HC2.out hb2); have HS4 := Lib.hid (HST.out w2 HC3.out)) | (refine ⟨trivial, ?_⟩; gi_at_call 20; refine (callsIn_wide.2 HS4.out).mono ?_; rintro e w3 ⟨rfl, hb3⟩; have hco3 := ((hb3.mono hb2.size).cell (p := ⟨w1.heap.size + 1, 0, none⟩) hbo).trans ((hb2.cell (p := ⟨w1.heap.size + 1, 0, none⟩) hbo).trans hco)))
              refine ⟨.tuple #[.slice (some ⟨w1.heap.size, 0, none⟩) l0.length l0.length, .int .i64 (wrap64 (wrap64 (a1 - nat) + les)), .int .i64 0], ?_, _, rfl, ?_, ?_⟩
              · simp [results, Try.f22, go_sem]
              · have ho3 := pw_own_below (pw_own_below hO.out hb2) hb3
                exact Kd.R_of_own (by rw [List.length_map]; exact ho3) (fun _ _ => trivial)
              · exact below_then hB.out hB.out.size (hb2.trans (hb3.mono hb2.size))
    · rw [if_neg hl] at h
      cases h
  · rw [if_neg e0] at h
    obtain ⟨rfl, rfl, rfl⟩ := (by simpa using h : _ ∧ _ ∧ _)
    have e0' : (e == 0) = false := by simpa using e0
    go_enter Try.func22, Try.ntmps22
    go_wp2_with (go_at_call 38; refine HCK.out.mono ?_; rintro e w1 ⟨rfl, hb1⟩)
    try simp only [Exit.inBlock, Exit.then]
    refine bodyPost_ret (results_tmp3 (fn := Try.f22) rfl _ _ _) rfl ?_
    exact ⟨_, rfl, Kd.R_nil _ _ _ _ _, hb1⟩
end

end Go.Proofs.Ytojcnndkdopahaa.P
