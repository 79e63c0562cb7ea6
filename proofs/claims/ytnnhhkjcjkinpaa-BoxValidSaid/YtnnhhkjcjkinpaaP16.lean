/- Written by wip/tool/hprint.py (the kit's print.py with hand-proved contracts set in): contracts of the functions that the statements of this seat reach, without conditions beyond those named in each theorem. -/
import Derived.Test.YtnnhhkjcjkinpaaP0
import Derived.Test.YtnnhhkjcjkinpaaP4
import Derived.Test.YtnnhhkjcjkinpaaP5
import Derived.RangeFuncNested
import Derived.RangeFuncBound
import Derived.RangeFuncCalls
import Derived.RangeFuncLeaves
import Derived.RangeFuncBox
import Derived.Shelf.Abstract
import Derived.Shelf.RegionOpen
import Derived.WalkKit
import Derived.OwnWalkIn
import Derived.TacticsInMore
import Derived.LoopNIn
import Derived.LoopIn
import Derived.Orders
import Derived.OrdersIn
import Derived.Lib.Hide
import Derived.Lib.ConvBytes
namespace Go.Proofs.Ytnnhhkjcjkinpaa.P
open Go.RowKit Go.Proofs.YtnnhhkjcjkinpaaW.PrintWords Go.Proofs.YtnnhhkjcjkinpaaW.PrintLast Go.Proofs.YtnnhhkjcjkinpaaW.PrintMore
attribute [local go_sem] max2_int min2_int max_two min_two max_three min_three max_four min_four   -- for this text's walks alone
set_option linter.unusedVariables false
set_option linter.unusedSimpArgs false

-- IMPORTS: Derived.RangeFuncNested Derived.RangeFuncBound Derived.RangeFuncCalls Derived.RangeFuncLeaves Derived.RangeFuncBox Derived.Shelf.Abstract Derived.Shelf.RegionOpen Derived.WalkKit Derived.OwnWalkIn Derived.TacticsInMore Derived.LoopNIn Derived.LoopIn Derived.Orders Derived.OrdersIn Derived.Lib.Hide Derived.Lib.ConvBytes
section
open Go.Shelf
attribute [local go_sem] Oper.semAt_some

def cntV (l : List (S28 × Int × Int)) : Int := l.foldl (fun n _ => wrap64 (n + 1)) 0
theorem cntV_snoc (l : List (S28 × Int × Int)) (q : S28 × Int × Int) : cntV (l ++ [q]) = wrap64 (cntV l + 1) := by simp [cntV]
set_option maxRecDepth 100000 in
set_option maxHeartbeats 2000000 in
theorem count_any (x : S28) (A8 : Option Addr) (c8 : Nat) (A10 : Option Addr) (c10 : Nat) (w : World) (C8 : k28.C w A8 x.f8.length x.f8) (l8 : x.f8.length ≤ c8) (C10 : (Kd.int .i64).C w A10 x.f10.length x.f10) (l10 : x.f10.length ≤ c10) :
    Calls Try.prog 29 #[.agg #[.int .i64 x.f0, .string x.f1, .int .i64 x.f2, .int .i64 x.f3, .int .i64 x.f4, .int .i64 x.f5, .int .i64 x.f6, .int .i64 x.f7, .slice A8 x.f8.length c8, .int .i64 x.f9, .slice A10 x.f10.length c10]] w fun e w' => e = .returned (.int .i64 (cntV (flatV x 0 0))) ∧ Below w.heap.size w w' := by
  have hu := Try.underlying28
  have HB := Lib.hid (boxed_here w x C8 l8 C10 l10)
  clear C8 C10 l8 l10
  refine (callsIn_wide (n := 9)).1 ?_
  refine callsIn_of_wp_marks Try.func29 rfl trivial ?_ rfl
  simp only [Try.ntmps29, List.size_toArray, List.length_cons, List.length_nil, Nat.reduceAdd, Nat.reduceSub, Array.replicate_succ, Array.replicate_zero, List.push_toArray, List.append_toArray, List.nil_append, List.cons_append]
  gi_wp2_with (refine ⟨trivial, ?_⟩; gi_at_call 48; refine (visits_in _ _ _ _ _).mono ?_; rintro e w2 ⟨rfl, hw2_⟩; have hw2 := Aside0.mk hw2_; clear hw2_)
  obtain ⟨v1, v2, v3, hsz, hBv, hgv⟩ := visits_boxes hw2.out
  have bn := Boxed.new (w.alloc (.cells #[.int .i64 x.f0, .string x.f1, .int .i64 x.f2, .int .i64 x.f3, .int .i64 x.f4, .int .i64 x.f5, .int .i64 x.f6, .int .i64 x.f7, .slice A8 x.f8.length c8, .int .i64 x.f9, .slice A10 x.f10.length c10] 28)) 3 (.int .i64 0)
  obtain ⟨wb, hwb⟩ : ∃ wb, w.alloc (.cells #[.int .i64 x.f0, .string x.f1, .int .i64 x.f2, .int .i64 x.f3, .int .i64 x.f4, .int .i64 x.f5, .int .i64 x.f6, .int .i64 x.f7, .slice A8 x.f8.length c8, .int .i64 x.f9, .slice A10 x.f10.length c10] 28) = wb := ⟨_, rfl⟩
  have hszb : wb.heap.size = w.heap.size + 1 := by rw [← hwb]; simp
  have hBb : Below w.heap.size w wb := by rw [← hwb]; exact below_alloc (Below.refl _ _) _
  rw [hwb] at bn v1 v2 v3 hsz hBv hgv HB
  simp only [World.size_alloc, hszb] at v1 v2 v3 hsz bn
  have hB1 : Below w.heap.size w (wb.alloc (.cells #[.int .i64 0] 3)) := below_alloc hBb _
  have hB2 : Below w.heap.size w w2 := below_then hB1 hB1.size hBv
  have hB0 : Below wb.heap.size wb w2 := (below_alloc (Below.refl wb.heap.size wb) _).trans (hBv.mono (by simp))
  have bn2 := bn.kept hgv (by simp)
  clear hw2 hwb hBv hgv bn
  refine wpIn_rangeFunc_ownG (F := Fence.wide) (n := 9) rfl (by omega) (gf := 68) (lb := #[.pointer (some ⟨w.heap.size + 1 + 1, 0, none⟩), .pointer (some ⟨w.heap.size + 1 + 1 + 1, 0, none⟩), .pointer (some ⟨w.heap.size + 1 + 1 + 2, 0, none⟩)]) ?heval trivial (enters_of Try.func68 (by kernel_rfl) rfl)
    (visits_stops _ wb x 0 0 (w.heap.size + 1 + 1) (w.heap.size + 1 + 1 + 1) (w.heap.size + 1 + 1 + 2) ⟨w.heap.size, 0, none⟩ w2 (by omega) (by omega) (by omega) v1 v2 v3 ⟨_, _, _, _, HB.out⟩ hB0) belowK_t (belowK_b (by omega)) (Below.refl _ _) (fun _ => rfl)
    (fun pre W => (W.cell? ⟨w.heap.size + 1, 0, none⟩ = some (.int .i64 (cntV (pre.map prj))) ∧ W.frozen? ⟨w.heap.size + 1, 0, none⟩ = false) ∧ Below w.heap.size w W)
    (fun _ _ _ => False)
    (OwnFrom.and (Own.from (fun s A B row hs hg hr => ⟨cell_kept hs.1 hg hr, (frozen_kept hs.1 hg hr).trans hs.2⟩) _) (ownFrom_below (Nat.le_refl _) (by omega)))
    (fun _ _ _ _ _ hs _ _ => hs)
    ⟨⟨bn2.cell, bn2.frozen⟩, hB2⟩
    ?a1 ?assign ?body ?done ?stop
  case assign =>
    intro l x W K hK
    simp only [encB]
    gi_wp2
    exact hK
  case heval => rfl
  case body =>
    rintro l pre x W ⟨⟨hc, hf⟩, hB⟩ _
    gi_wp2
    exact ⟨(KeepsOthers.setCell _ _ _).from _, (Below.refl wb.heap.size W).setCell (p := ⟨w.heap.size + 1, 0, none⟩) (by show wb.heap.size ≤ w.heap.size + 1; omega) _, ⟨by rw [List.map_append]; show _ = some (Value.int .i64 (cntV (pre.map prj ++ [prj x]))); rw [cntV_snoc]; exact World.cell?_setCell_same' _ _ _ (by rw [hc]; rfl), by rw [World.frozen?_setCell]; exact hf⟩, hB.setCell (p := ⟨w.heap.size + 1, 0, none⟩) (by show w.heap.size ≤ w.heap.size + 1; omega) _⟩
  case done =>
    rintro D ys W hD hys ⟨⟨hc, _⟩, hB⟩ hK
    have HY := Lib.hid hys
    clear hys
    gi_wp2
    refine ⟨by simp, .inl ⟨_, _, rfl, run_takeDeferred hK, ?_⟩⟩
    exact ⟨_, results_tmp rfl _ _ _, by rw [HY.out]; rfl, hB.trans (belowK_b (w := w) (Nat.le_refl _) W D _ _ (by omega) hK rfl rfl)⟩
  case stop =>
    rintro D c pre W _ _ h _
    exact h.elim
end
def box_Count.f (a0_0 : Int) (a0_1 : ByteArray) (a0_2 : Int) (a0_3 : Int) (a0_4 : Int) (a0_5 : Int) (a0_6 : Int) (a0_7 : Int) (l0_8 : List (S28)) (a0_9 : Int) (l0_10 : List Int) : Option (Int) := some (cntV (flatV (⟨a0_0, a0_1, a0_2, a0_3, a0_4, a0_5, a0_6, a0_7, l0_8, a0_9, l0_10⟩ : S28) 0 0))
theorem box_Count.calls (a0_0 : Int) (a0_1 : ByteArray) (a0_2 : Int) (a0_3 : Int) (a0_4 : Int) (a0_5 : Int) (a0_6 : Int) (a0_7 : Int) (A0_8 : Option Addr) (c0_8 : Nat) (l0_8 : List (S28)) (a0_9 : Int) (A0_10 : Option Addr) (c0_10 : Nat) (l0_10 : List Int) (r : Int) (w : World) (hr0_8 : Kd.C k28 w A0_8 l0_8.length l0_8) (hc0_8 : l0_8.length ≤ c0_8) (hr0_10 : Kd.C (Kd.int .i64) w A0_10 l0_10.length l0_10) (hc0_10 : l0_10.length ≤ c0_10) (h : box_Count.f a0_0 a0_1 a0_2 a0_3 a0_4 a0_5 a0_6 a0_7 l0_8 a0_9 l0_10 = some r) :
    Calls Try.prog 29 #[.agg #[.int .i64 a0_0, .string a0_1, .int .i64 a0_2, .int .i64 a0_3, .int .i64 a0_4, .int .i64 a0_5, .int .i64 a0_6, .int .i64 a0_7, .slice A0_8 l0_8.length c0_8, .int .i64 a0_9, .slice A0_10 l0_10.length c0_10]] w fun e w' => e = .returned (.int .i64 r) ∧ Below w.heap.size w w' := by
  obtain rfl := Option.some.inj h
  exact count_any ⟨a0_0, a0_1, a0_2, a0_3, a0_4, a0_5, a0_6, a0_7, l0_8, a0_9, l0_10⟩ A0_8 c0_8 A0_10 c0_10 w hr0_8 hc0_8 hr0_10 hc0_10

end Go.Proofs.Ytnnhhkjcjkinpaa.P
