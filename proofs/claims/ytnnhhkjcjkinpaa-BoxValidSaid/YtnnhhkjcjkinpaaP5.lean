/- Written by wip/tool/hprint.py (the kit's print.py with hand-proved contracts set in): contracts of the functions that the statements of this seat reach, without conditions beyond those named in each theorem. -/
import Derived.Test.YtnnhhkjcjkinpaaP0
import Derived.Test.YtnnhhkjcjkinpaaP3
import Derived.Test.YtnnhhkjcjkinpaaP4
import Derived.RangeFuncNested
import Derived.RangeFuncBound
import Derived.RangeFuncCalls
import Derived.RangeFuncLeaves
import Derived.RangeFuncBox
import Derived.Shelf.Abstract
import Derived.Shelf.RegionOpen
import Derived.WalkKit
import Derived.OwnWalkIn
import Derived.TacticsInMore
import Derived.LoopNIn
import Derived.LoopIn
import Derived.Orders
import Derived.OrdersIn
import Derived.Lib.Hide
import Derived.Lib.ConvBytes
namespace Go.Proofs.Ytnnhhkjcjkinpaa.P
open Go.RowKit Go.Proofs.YtnnhhkjcjkinpaaW.PrintWords Go.Proofs.YtnnhhkjcjkinpaaW.PrintLast Go.Proofs.YtnnhhkjcjkinpaaW.PrintMore
attribute [local go_sem] max2_int min2_int max_two min_two max_three min_three max_four min_four   -- for this text's walks alone
set_option linter.unusedVariables false
set_option linter.unusedSimpArgs false

-- IMPORTS: Derived.RangeFuncNested Derived.RangeFuncBound Derived.RangeFuncCalls Derived.RangeFuncLeaves Derived.RangeFuncBox Derived.Shelf.Abstract Derived.Shelf.RegionOpen Derived.WalkKit Derived.OwnWalkIn Derived.TacticsInMore Derived.LoopNIn Derived.LoopIn Derived.Orders Derived.OrdersIn Derived.Lib.Hide Derived.Lib.ConvBytes

section
open Go.Shelf
attribute [local go_sem] Oper.semAt_some
set_option maxHeartbeats 1000000 in
theorem visits1_in (l : Nat) (w0 : World) (B : Nat) (x : S28) (X Y : Int) (J Jx : List (AB w0) → World → Prop) (hJ : AbidesFrom B J) (n : Nat)
    (hY : ∀ pre x1 W, J pre W → pre.length < (flatV x X Y).length → YieldAt Fence.wide (n - 1) Try.prog l (encB x1) W fun e W' =>
      (e = .returned (.bool true) ∧ J (pre ++ [x1]) W' ∧ Below w0.heap.size W W') ∨ (e = .returned (.bool false) ∧ Jx (pre ++ [x1]) W'))
    (Bp Bx By : Nat) (p : Addr) (W : World) (hBp : W.cell? ⟨Bp, 0, none⟩ = some (.pointer (some p))) (hBx : W.cell? ⟨Bx, 0, none⟩ = some (.int .i64 X)) (hBy : W.cell? ⟨By, 0, none⟩ = some (.int .i64 Y)) (hb : BoxHere w0 p x) (hBW : Below w0.heap.size w0 W) (h0 : J [] W) :
    CallsIn Fence.wide n Try.prog 68 #[.func (.yield l) #[] #[], .pointer (some ⟨Bp, 0, none⟩), .pointer (some ⟨Bx, 0, none⟩), .pointer (some ⟨By, 0, none⟩)] W fun e W' => (∃ v, e = .returned v) ∧
      ((∃ ys, ys.map prj = flatV x X Y ∧ J ys W') ∨ (∃ pre, pre.map prj <+: flatV x X Y ∧ Jx pre W')) := by
  have hp := visit_in l (flatV x X Y).length w0 B J Jx hJ (fun m pre x1 W hj hl => YieldAt_anyDepth rfl m (hY pre x1 W hj hl)) (SizeOf.sizeOf x) x (Nat.le_refl _) (n - 1) p X Y [] W hb hBW h0 (by simp)
  have HP := Lib.hid hp
  clear hp hY hb
  refine callsIn_of_wp Try.func68 rfl trivial ?_ rfl
  simp only [Try.ntmps68, List.size_toArray, List.length_cons, List.length_nil, Nat.reduceAdd, Nat.reduceSub, Array.replicate_succ, Array.replicate_zero, List.push_toArray, List.append_toArray, List.nil_append, List.cons_append]
  gi_wp2_with (refine ⟨trivial, ?_⟩; (try refine ⟨fun h => (by cases h), ?_⟩); gi_at_call 69; refine HP.out.mono ?_; rintro e W1 (⟨rfl, ⟨ys, hys, hj⟩, -⟩ | ⟨rfl, q, hq, hx⟩))
  · go_end0
    exact ⟨⟨_, rfl⟩, .inl ⟨ys, hys, by simpa using hj⟩⟩
  · go_end0
    exact ⟨⟨_, rfl⟩, .inr ⟨q, hq, by simpa using hx⟩⟩
set_option maxHeartbeats 1000000 in
theorem visits_in (n : Nat) (p : Addr) (X Y : Int) (w : World) :
    CallsIn Fence.wide n Try.prog 48 #[.pointer (some p), .int .i64 X, .int .i64 Y] w fun e w' => e = .returned (.func (.func 68) #[] #[.pointer (some ⟨w.heap.size, 0, none⟩), .pointer (some ⟨w.heap.size + 1, 0, none⟩), .pointer (some ⟨w.heap.size + 2, 0, none⟩)]) ∧
      w' = ((w.alloc (.cells #[.pointer (some p)] 70)).alloc (.cells #[.int .i64 X] 3)).alloc (.cells #[.int .i64 Y] 3) := by
  refine callsIn_of_wp Try.func48 rfl trivial ?_ rfl
  simp only [Try.ntmps48, List.size_toArray, List.length_cons, List.length_nil, Nat.reduceAdd, Nat.reduceSub, Array.replicate_succ, Array.replicate_zero, List.push_toArray, List.append_toArray, List.nil_append, List.cons_append]
  gi_wp2
  go_ret
  exact ⟨rfl, rfl⟩
/-- The value of visits yields all boxes, in order; or the first of them. -/
theorem visits_stops (n : Nat) (w0 : World) (x : S28) (X Y : Int) (Bp Bx By : Nat) (p : Addr) (w : World) (h1 : Bp < w.heap.size) (h2 : Bx < w.heap.size) (h3 : By < w.heap.size)
    (hBp : w.cell? ⟨Bp, 0, none⟩ = some (.pointer (some p))) (hBx : w.cell? ⟨Bx, 0, none⟩ = some (.int .i64 X)) (hBy : w.cell? ⟨By, 0, none⟩ = some (.int .i64 Y)) (hb : BoxHere w0 p x) (hBW : Below w0.heap.size w0 w) :
    SeqStopsK Fence.wide n Try.prog 68 #[.pointer (some ⟨Bp, 0, none⟩), .pointer (some ⟨Bx, 0, none⟩), .pointer (some ⟨By, 0, none⟩)] (encB (w0 := w0)) (Below w0.heap.size) (fun ys => ys.map prj = flatV x X Y) (fun pre => pre.map prj <+: flatV x X Y) (flatV x X Y).length w := fun l J Jx W hW hJ _ hY h0 =>
  visits1_in l w0 _ x X Y J Jx hJ n hY Bp Bx By p W ((hW.cell (p := ⟨Bp, 0, none⟩) h1).trans hBp) ((hW.cell (p := ⟨Bx, 0, none⟩) h2).trans hBx) ((hW.cell (p := ⟨By, 0, none⟩) h3).trans hBy) hb (hBW.trans (hW.mono hBW.size)) h0
/-- A box that is boxed. -/
theorem boxed_here (w : World) (x : S28) {A8 : Option Addr} {c8 : Nat} {A10 : Option Addr} {c10 : Nat} (C8 : k28.C w A8 x.f8.length x.f8) (l8 : x.f8.length ≤ c8) (C10 : (Kd.int .i64).C w A10 x.f10.length x.f10) (l10 : x.f10.length ≤ c10) :
    BoxAt (w.alloc (.cells #[.int .i64 x.f0, .string x.f1, .int .i64 x.f2, .int .i64 x.f3, .int .i64 x.f4, .int .i64 x.f5, .int .i64 x.f6, .int .i64 x.f7, .slice A8 x.f8.length c8, .int .i64 x.f9, .slice A10 x.f10.length c10] 28)) ⟨w.heap.size, 0, none⟩ x A8 c8 A10 c10 := by
  have hn := World.alloc_heap_new w (.cells #[.int .i64 x.f0, .string x.f1, .int .i64 x.f2, .int .i64 x.f3, .int .i64 x.f4, .int .i64 x.f5, .int .i64 x.f6, .int .i64 x.f7, .slice A8 x.f8.length c8, .int .i64 x.f9, .slice A10 x.f10.length c10] 28)
  have hb := (Below.refl w.heap.size w).alloc (Nat.le_refl _) (.cells #[.int .i64 x.f0, .string x.f1, .int .i64 x.f2, .int .i64 x.f3, .int .i64 x.f4, .int .i64 x.f5, .int .i64 x.f6, .int .i64 x.f7, .slice A8 x.f8.length c8, .int .i64 x.f9, .slice A10 x.f10.length c10] 28)
  have key : ∀ (j : Nat) (v : Value), (#[.int .i64 x.f0, .string x.f1, .int .i64 x.f2, .int .i64 x.f3, .int .i64 x.f4, .int .i64 x.f5, .int .i64 x.f6, .int .i64 x.f7, .slice A8 x.f8.length c8, .int .i64 x.f9, .slice A10 x.f10.length c10] : Array Value)[j]? = some v → (w.alloc (.cells #[.int .i64 x.f0, .string x.f1, .int .i64 x.f2, .int .i64 x.f3, .int .i64 x.f4, .int .i64 x.f5, .int .i64 x.f6, .int .i64 x.f7, .slice A8 x.f8.length c8, .int .i64 x.f9, .slice A10 x.f10.length c10] 28)).cell? ⟨w.heap.size, j, none⟩ = some v := fun j v h => by
    unfold World.cell?
    simp only [hn]
    exact h
  exact ⟨key 0 _ rfl, key 1 _ rfl, key 2 _ rfl, key 3 _ rfl, key 4 _ rfl, key 5 _ rfl, key 6 _ rfl, key 7 _ rfl, key 8 _ rfl, key 9 _ rfl, key 10 _ rfl, l8, Kd.C_below C8 hb, l10, Kd.C_below C10 hb⟩
theorem visits_boxes {W w2 : World} {p : Addr} {X Y : Int} (hw : w2 = ((W.alloc (.cells #[.pointer (some p)] 70)).alloc (.cells #[.int .i64 X] 3)).alloc (.cells #[.int .i64 Y] 3)) :
    w2.cell? ⟨W.heap.size, 0, none⟩ = some (.pointer (some p)) ∧ w2.cell? ⟨W.heap.size + 1, 0, none⟩ = some (.int .i64 X) ∧ w2.cell? ⟨W.heap.size + 2, 0, none⟩ = some (.int .i64 Y) ∧ w2.heap.size = W.heap.size + 3 ∧ Below W.heap.size W w2 ∧ W.grownBy w2 none := by
  have b1 := ((Boxed.new W 70 (.pointer (some p))).alloc (.cells #[.int .i64 X] 3)).alloc (.cells #[.int .i64 Y] 3)
  have b2 := (Boxed.new (W.alloc (.cells #[.pointer (some p)] 70)) 3 (.int .i64 X)).alloc (.cells #[.int .i64 Y] 3)
  have b3 := Boxed.new ((W.alloc (.cells #[.pointer (some p)] 70)).alloc (.cells #[.int .i64 X] 3)) 3 (.int .i64 Y)
  simp only [World.size_alloc] at b2 b3
  rw [← hw] at b1 b2 b3
  refine ⟨b1.cell, b2.cell, b3.cell, by rw [hw]; simp, by rw [hw]; exact below_alloc (below_alloc (below_alloc (Below.refl _ _) _) _) _, ?_⟩
  rw [hw]
  exact ((World.grownBy_alloc W _ none).trans (World.grownBy_alloc _ _ none)).trans (World.grownBy_alloc _ _ none)
/-- A box is valid. -/
def vldB (x : S28) : Bool := (decide ((flatV x 0 0).length ≤ 20000) && (flatV x 0 0).all (fun q => prpB q.1)) && decide (nestF 100 x ≤ 100)
theorem prop_here (p : Addr) (x : S28) (w : World) (h : BoxHere w p x) : Calls Try.prog 51 #[.pointer (some p)] w fun e w' => e = .returned (.bool (prpB x)) ∧ Below w.heap.size w w' := by
  obtain ⟨A8, c8, A10, c10, h⟩ := h
  exact proper_any p x A8 c8 A10 c10 w h
set_option maxRecDepth 100000 in
set_option maxHeartbeats 2000000 in
theorem valid_any (x : S28) (A8 : Option Addr) (c8 : Nat) (A10 : Option Addr) (c10 : Nat) (w : World) (C8 : k28.C w A8 x.f8.length x.f8) (l8 : x.f8.length ≤ c8) (C10 : (Kd.int .i64).C w A10 x.f10.length x.f10) (l10 : x.f10.length ≤ c10) :
    Calls Try.prog 28 #[.agg #[.int .i64 x.f0, .string x.f1, .int .i64 x.f2, .int .i64 x.f3, .int .i64 x.f4, .int .i64 x.f5, .int .i64 x.f6, .int .i64 x.f7, .slice A8 x.f8.length c8, .int .i64 x.f9, .slice A10 x.f10.length c10]] w fun e w' => e = .returned (.bool (vldB x)) ∧ Below w.heap.size w w' := by
  have hu := Try.underlying28
  have HB := Lib.hid (boxed_here w x C8 l8 C10 l10)
  clear C8 C10 l8 l10
  refine (callsIn_wide (n := 9)).1 ?_
  refine callsIn_of_wp_marks Try.func28 rfl trivial ?_ rfl
  simp only [Try.ntmps28, List.size_toArray, List.length_cons, List.length_nil, Nat.reduceAdd, Nat.reduceSub, Array.replicate_succ, Array.replicate_zero, List.push_toArray, List.append_toArray, List.nil_append, List.cons_append]
  gi_wp2_with (refine ⟨trivial, ?_⟩; gi_at_call 48; refine (visits_in _ _ _ _ _).mono ?_; rintro e w2 ⟨rfl, hw2_⟩; have hw2 := Aside0.mk hw2_; clear hw2_)
  obtain ⟨v1, v2, v3, hsz, hBv, hgv⟩ := visits_boxes hw2.out
  have br := (Boxed.new (w.alloc (.cells #[.int .i64 x.f0, .string x.f1, .int .i64 x.f2, .int .i64 x.f3, .int .i64 x.f4, .int .i64 x.f5, .int .i64 x.f6, .int .i64 x.f7, .slice A8 x.f8.length c8, .int .i64 x.f9, .slice A10 x.f10.length c10] 28)) 4 (.bool false)).alloc (.cells #[.int .i64 0] 3)
  have bn := Boxed.new ((w.alloc (.cells #[.int .i64 x.f0, .string x.f1, .int .i64 x.f2, .int .i64 x.f3, .int .i64 x.f4, .int .i64 x.f5, .int .i64 x.f6, .int .i64 x.f7, .slice A8 x.f8.length c8, .int .i64 x.f9, .slice A10 x.f10.length c10] 28)).alloc (.cells #[.bool false] 4)) 3 (.int .i64 0)
  obtain ⟨wb, hwb⟩ : ∃ wb, w.alloc (.cells #[.int .i64 x.f0, .string x.f1, .int .i64 x.f2, .int .i64 x.f3, .int .i64 x.f4, .int .i64 x.f5, .int .i64 x.f6, .int .i64 x.f7, .slice A8 x.f8.length c8, .int .i64 x.f9, .slice A10 x.f10.length c10] 28) = wb := ⟨_, rfl⟩
  have hszb : wb.heap.size = w.heap.size + 1 := by rw [← hwb]; simp
  have hBb : Below w.heap.size w wb := by rw [← hwb]; exact below_alloc (Below.refl _ _) _
  rw [hwb] at br bn v1 v2 v3 hsz hBv hgv HB
  simp only [World.size_alloc, hszb] at v1 v2 v3 hsz bn br
  have hB0 : Below wb.heap.size wb w2 := (below_alloc (below_alloc (Below.refl wb.heap.size wb) _) _).trans (hBv.mono (by simp; omega))
  have bn2 := bn.kept hgv (by simp)
  have br2 := br.kept hgv (by simp)
  clear hw2 hwb hBv hgv bn br
  refine wpIn_rangeFunc_ownG (F := Fence.wide) (n := 9) rfl (by omega) (gf := 68) (lb := #[.pointer (some ⟨w.heap.size + 1 + 1 + 1, 0, none⟩), .pointer (some ⟨w.heap.size + 1 + 1 + 1 + 1, 0, none⟩), .pointer (some ⟨w.heap.size + 1 + 1 + 1 + 2, 0, none⟩)]) ?heval trivial (enters_of Try.func68 (by kernel_rfl) rfl)
    (visits_stops _ wb x 0 0 (w.heap.size + 1 + 1 + 1) (w.heap.size + 1 + 1 + 1 + 1) (w.heap.size + 1 + 1 + 1 + 2) ⟨w.heap.size, 0, none⟩ w2 (by omega) (by omega) (by omega) v1 v2 v3 ⟨_, _, _, _, HB.out⟩ hB0) belowK_t (belowK_b (by omega)) (Below.refl _ _) (fun _ => rfl)
    (fun pre W => ((pre.length ≤ 20000 ∧ ∀ q ∈ pre, prpB (prj q).1 = true) ∧ (W.cell? ⟨w.heap.size + 1 + 1, 0, none⟩ = some (.int .i64 (pre.length : Int)) ∧ W.frozen? ⟨w.heap.size + 1 + 1, 0, none⟩ = false) ∧ W.cell? ⟨w.heap.size + 1, 0, none⟩ = some (.bool false) ∧ W.frozen? ⟨w.heap.size + 1, 0, none⟩ = false) ∧ Below wb.heap.size wb W)
    (fun c pre W => (c = .ret ∧ (20000 < pre.length ∨ ∃ q ∈ pre, prpB (prj q).1 = false) ∧ W.cell? ⟨w.heap.size + 1, 0, none⟩ = some (.bool false)) ∧ Below wb.heap.size wb W)
    (OwnFrom.and (Own.from (fun s A B row hs hg hr => ⟨hs.1, ⟨cell_kept hs.2.1.1 hg hr, (frozen_kept hs.2.1.1 hg hr).trans hs.2.1.2⟩, cell_kept hs.2.2.1 hg hr, (frozen_kept hs.2.2.1 hg hr).trans hs.2.2.2⟩) _) (ownFrom_below (Nat.le_refl _) (by omega)))
    (fun c => OwnFrom.and (Own.from (fun s A B row hs hg hr => ⟨hs.1, hs.2.1, cell_kept hs.2.2 hg hr⟩) _) (ownFrom_below (Nat.le_refl _) (by omega)))
    ⟨⟨⟨by simp, by simp⟩, ⟨bn2.cell, bn2.frozen⟩, br2.cell, br2.frozen⟩, hB0⟩
    ?a1 ?assign ?body ?done ?stop
  case assign =>
    intro l x W K hK
    simp only [encB]
    gi_wp2
    exact hK
  case heval => rfl
  case body =>
    rintro l pre q W ⟨⟨⟨hlen, hall⟩, ⟨hc, hf⟩, hr, hrf⟩, hB⟩ _
    have hn1 : (w.heap.size + 1 + 1) ≠ (w.heap.size + 1) := by omega
    have hr1 : ∀ u, (W.setCell ⟨w.heap.size + 1 + 1, 0, none⟩ u).cell? ⟨w.heap.size + 1, 0, none⟩ = some (.bool false) := fun u => (World.cell?_setCell_far _ _ _ _ hn1).trans hr
    have hrf1 : ∀ u, (W.setCell ⟨w.heap.size + 1 + 1, 0, none⟩ u).frozen? ⟨w.heap.size + 1, 0, none⟩ = false := fun u => by rw [World.frozen?_setCell]; exact hrf
    have hc1 : ∀ u, (W.setCell ⟨w.heap.size + 1 + 1, 0, none⟩ u).cell? ⟨w.heap.size + 1 + 1, 0, none⟩ = some u := fun u => World.cell?_setCell_same' _ _ _ (by rw [hc]; rfl)
    have hBs : ∀ u, Below wb.heap.size W (W.setCell ⟨w.heap.size + 1 + 1, 0, none⟩ u) := fun u => (Below.refl wb.heap.size W).setCell (p := ⟨w.heap.size + 1 + 1, 0, none⟩) (by show wb.heap.size ≤ w.heap.size + 1 + 1; omega) _
    by_cases hbig : pre.length + 1 ≤ 20000
    · have hbig' : decide ((20000 : Int) < (pre.length : Int) + 1) = false := decide_eq_false (by omega)
      have hq2 := q.2
      have HQ := Lib.hid (fun u => prop_here q.1.1 q.1.2.1 (W.setCell ⟨w.heap.size + 1 + 1, 0, none⟩ u) (hq2.below (hB.trans (hBs u))))
      have HBs := Lib.hid hBs
      have HB0 := Lib.hid hB
      have HALL := Lib.hid hall
      have hnlt := World.block_lt_of_cell? W _ hc
      have hrlt := World.block_lt_of_cell? W _ hr
      have HF1 := Lib.hid (fun u => (by rw [World.frozen?_setCell]; exact hf : (W.setCell ⟨w.heap.size + 1 + 1, 0, none⟩ u).frozen? ⟨w.heap.size + 1 + 1, 0, none⟩ = false))
      have HW := Lib.hid hszb
      clear hBs hB hall hq2
      cases hp : prpB q.1.2.1 with
      | false =>
        rw [hp] at HQ
        gi_wp2_with (refine ⟨trivial, ?_⟩; gi_at_call 51; refine (CallsIn.inRound l (callsIn_wide.2 (HQ.out _))).mono ?_; rintro e w9 ⟨rfl, hb9⟩; have r9 := (hb9.cell (p := ⟨w.heap.size + 1, 0, none⟩) (by simpa using hrlt)).trans (hr1 _); have rf9 := (hb9.frozen (p := ⟨w.heap.size + 1, 0, none⟩) (by simpa using hrlt)).trans (hrf1 _); have n9 := (hb9.cell (p := ⟨w.heap.size + 1 + 1, 0, none⟩) (by simpa using hnlt)).trans (hc1 _); have nf9 := (hb9.frozen (p := ⟨w.heap.size + 1 + 1, 0, none⟩) (by simpa using hnlt)).trans (HF1.out _); have HB9 := Lib.hid hb9; clear hb9)
        have hb9 := HB9.out
        have hB9 : Below wb.heap.size W w9 := (HBs.out _).trans (hb9.mono (by have := (HB0.out).size; simp; omega))
        refine ⟨KeepsOthers.from (((KeepsOthers.setCell _ _ _).trans (KeepsOthers.of_grownBy (grown_of_below hb9 none) (fun j o e => by cases e))).trans (KeepsOthers.setCell _ _ _)) _, ⟨rfl, .inr ⟨q, by simp, hp⟩, World.cell?_setCell_same' _ _ _ (by rw [r9]; rfl)⟩, ?_⟩
        exact (HB0.out.trans hB9).setCell (p := ⟨w.heap.size + 1, 0, none⟩) (by show wb.heap.size ≤ w.heap.size + 1; omega) _
      | true =>
        rw [hp] at HQ
        gi_wp2_with (refine ⟨trivial, ?_⟩; gi_at_call 51; refine (CallsIn.inRound l (callsIn_wide.2 (HQ.out _))).mono ?_; rintro e w9 ⟨rfl, hb9⟩; have r9 := (hb9.cell (p := ⟨w.heap.size + 1, 0, none⟩) (by simpa using hrlt)).trans (hr1 _); have rf9 := (hb9.frozen (p := ⟨w.heap.size + 1, 0, none⟩) (by simpa using hrlt)).trans (hrf1 _); have n9 := (hb9.cell (p := ⟨w.heap.size + 1 + 1, 0, none⟩) (by simpa using hnlt)).trans (hc1 _); have nf9 := (hb9.frozen (p := ⟨w.heap.size + 1 + 1, 0, none⟩) (by simpa using hnlt)).trans (HF1.out _); have HB9 := Lib.hid hb9; clear hb9)
        have hb9 := HB9.out
        have hB9 : Below wb.heap.size W w9 := (HBs.out _).trans (hb9.mono (by have := (HB0.out).size; simp; omega))
        refine ⟨KeepsOthers.from ((KeepsOthers.setCell _ _ _).trans (KeepsOthers.of_grownBy (grown_of_below hb9 none) (fun j o e => by cases e))) _, hB9, ⟨⟨by simp; omega, ?_⟩, ⟨?_, nf9⟩, r9, rf9⟩, HB0.out.trans hB9⟩
        · intro q' hq'
          rcases List.mem_append.1 hq' with h | h
          · exact HALL.out q' h
          · obtain rfl := List.mem_singleton.1 h; exact hp
        · rw [n9]; simp
    · have hbig' : decide ((20000 : Int) < (pre.length : Int) + 1) = true := decide_eq_true (by omega)
      have HBs := Lib.hid hBs
      have HB0 := Lib.hid hB
      clear hBs hB hall
      gi_wp2
      refine ⟨trivial, ?_⟩
      gi_wp2
      refine ⟨KeepsOthers.from ((KeepsOthers.setCell _ _ _).trans (KeepsOthers.setCell _ _ _)) _, ⟨rfl, .inl (by simp; omega), World.cell?_setCell_same' _ _ _ (by rw [hr1]; rfl)⟩, ?_⟩
      exact (HB0.out.trans (HBs.out _)).setCell (p := ⟨w.heap.size + 1, 0, none⟩) (by show wb.heap.size ≤ w.heap.size + 1; omega) _
  case done =>
    rintro D ys W hD hys ⟨⟨⟨hlen, hall⟩, -, hr, hrf⟩, hB⟩ hK
    have hV : vldB x = decide (nestF 100 x ≤ 100) := by
      unfold vldB
      have h1 : (flatV x 0 0).length ≤ 20000 := by rw [← hys, List.length_map]; exact hlen
      have h2 : (flatV x 0 0).all (fun q => prpB q.1) = true := by
        rw [← hys, List.all_map, List.all_eq_true]
        intro q hq
        exact hall q hq
      rw [h2, decide_eq_true h1]
      rfl
    have HV := Lib.hid hV
    have HN := Lib.hid (nested_any 100 (by omega) ⟨w.heap.size, 0, none⟩ x A8 c8 A10 c10 W (HB.out.below hB))
    have HB0 := Lib.hid hB
    have hrlt := World.block_lt_of_cell? W _ hr
    clear hys hall hV hB
    have HK := Lib.hid hK
    clear hK
    gi_wp2_with (refine ⟨trivial, ?_⟩; gi_at_call 52; refine (callsIn_wide.2 HN.out).mono ?_; rintro e w9 ⟨rfl, hb9⟩; have r9 := (hb9.cell (p := ⟨w.heap.size + 1, 0, none⟩) hrlt).trans hr; have rf9 := (hb9.frozen (p := ⟨w.heap.size + 1, 0, none⟩) hrlt).trans hrf; have HB9 := Lib.hid hb9; clear hb9)
    have hb9 := HB9.out
    have hD9 : w9.heap[D]? = some (.deferred (some [])) := ((KeepsOthers.of_grownBy (grown_of_below hb9 none) (fun j o e => by cases e)).same D _ HK.out rfl)
    have hDs : (w9.setCell ⟨w.heap.size + 1, 0, none⟩ (.bool (decide (nestF 100 x ≤ 100)))).heap[D]? = some (.deferred (some [])) := (KeepsOthers.setCell _ _ _).same D _ hD9 rfl
    refine ⟨by simp, .inl ⟨_, _, rfl, run_takeDeferred hDs, ?_⟩⟩
    have hc9 : (w9.setCell ⟨w.heap.size + 1, 0, none⟩ (.bool (decide (nestF 100 x ≤ 100)))).cell? ⟨w.heap.size + 1, 0, none⟩ = some (.bool (decide (nestF 100 x ≤ 100))) := World.cell?_setCell_same' _ _ _ (by rw [r9]; rfl)
    have hc5 := cell_kept hc9 (grownBy_putObj' _ D (.deferred none)) (fun r e => by cases e; exact ⟨_, hDs, rfl⟩)
    refine ⟨.bool (decide (nestF 100 x ≤ 100)), ?_, by rw [HV.out], ?_⟩
    · simp [results, Try.f28, go_sem, hc5]
    · have h0 : Below wb.heap.size wb w9 := HB0.out.trans (hb9.mono HB0.out.size)
      have h1 := h0.setCell (p := ⟨w.heap.size + 1, 0, none⟩) (by show wb.heap.size ≤ w.heap.size + 1; omega) (.bool (decide (nestF 100 x ≤ 100)))
      have h2 := h1.trans (belowK_b (w := wb) (Nat.le_refl _) _ D _ (.deferred none) (by omega) hDs rfl rfl)
      exact below_then hBb hBb.size h2
  case stop =>
    rintro D c pre W hD hpre ⟨⟨rfl, hbad, hr⟩, hB⟩ hK
    have hV : vldB x = false := by
      obtain ⟨rest, hrest⟩ := hpre
      unfold vldB
      rcases hbad with h | ⟨q, hq, h⟩
      · have : ¬ (flatV x 0 0).length ≤ 20000 := by rw [← hrest]; simp; omega
        rw [decide_eq_false this]
        rfl
      · have : (flatV x 0 0).all (fun q => prpB q.1) = false := by
          rw [List.all_eq_false]
          exact ⟨prj q, by rw [← hrest]; exact List.mem_append_left _ (List.mem_map_of_mem hq), by simp [h]⟩
        rw [this]
        simp
    have HV := Lib.hid hV
    clear hV hpre hbad
    gi_wp2
    refine ⟨by simp, .inl ⟨_, _, rfl, run_takeDeferred hK, ?_⟩⟩
    have hc5 := cell_kept hr (grownBy_putObj' _ D (.deferred none)) (fun r e => by cases e; exact ⟨_, hK, rfl⟩)
    refine ⟨.bool false, ?_, by rw [HV.out], ?_⟩
    · simp [results, Try.f28, go_sem, hc5]
    · have h1 : Below wb.heap.size wb (W.putObj D (.deferred none)) := hB.trans (belowK_b (w := wb) (Nat.le_refl _) W D _ _ (by omega) hK rfl rfl)
      exact below_then hBb hBb.size h1
end

end Go.Proofs.Ytnnhhkjcjkinpaa.P
