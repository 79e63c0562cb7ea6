/- Written by wip/tool/hprint.py (the kit's print.py with hand-proved contracts set in): contracts of the functions that the statements of this seat reach, without conditions beyond those named in each theorem. -/
import Derived.Test.YtojcnndkdopahaaP0
import Derived.Test.YtojcnndkdopahaaP6
import Derived.RangeFuncNested
import Derived.RangeFuncBound
import Derived.RangeFuncCalls
import Derived.RangeFuncLeaves
import Derived.RangeFuncBox
import Derived.Shelf.Abstract
import Derived.Shelf.RegionOpen
import Derived.WalkKit
import Derived.OwnWalkIn
import Derived.TacticsInMore
import Derived.LoopNIn
import Derived.LoopIn
import Derived.Lib.Hide
namespace Go.Proofs.Ytojcnndkdopahaa.P
open Go.RowKit Go.Proofs.YtojcnndkdopahaaW.PrintWords Go.Proofs.YtojcnndkdopahaaW.PrintLast Go.Proofs.YtojcnndkdopahaaW.PrintMore
attribute [local go_sem] max2_int min2_int max_two min_two max_three min_three max_four min_four   -- for this text's walks alone
set_option linter.unusedVariables false
set_option linter.unusedSimpArgs false

-- IMPORTS: Derived.RangeFuncNested Derived.RangeFuncBound Derived.RangeFuncCalls Derived.RangeFuncLeaves Derived.RangeFuncBox Derived.Shelf.Abstract Derived.Shelf.RegionOpen Derived.WalkKit Derived.OwnWalkIn Derived.TacticsInMore Derived.LoopNIn Derived.LoopIn Derived.Lib.Hide
section
open Go.Shelf
attribute [local go_sem] Oper.semAt_some

theorem rdT36_nat (l : List S36) (k : Nat) (h : k < l.length) : rd_T36 l (k : Int) = l[k] := by
  unfold rd_T36
  rw [Int.toNat_natCast, List.getD_eq_getElem?_getD, List.getElem?_eq_getElem h]
  rfl
/-- What has come when k rounds are over: the elements that p takes, with their places. -/
def gUp (p : S36 → Option Int) (l : List S36) : Nat → List (Fin l.length × Int)
  | 0 => []
  | k + 1 => if h : k < l.length then (match p l[k] with | some v => gUp p l k ++ [(⟨k, h⟩, v)] | none => gUp p l k) else gUp p l k
theorem gUp_some {p : S36 → Option Int} {l : List S36} {k : Nat} (h : k < l.length) {v : Int} (hp : p l[k] = some v) : gUp p l (k + 1) = gUp p l k ++ [(⟨k, h⟩, v)] := by
  simp only [gUp, h, dif_pos, hp]
theorem gUp_none {p : S36 → Option Int} {l : List S36} {k : Nat} (h : k < l.length) (hp : p l[k] = none) : gUp p l (k + 1) = gUp p l k := by
  simp only [gUp, h, dif_pos, hp]
theorem gUp_len (p : S36 → Option Int) (l : List S36) (k : Nat) : (gUp p l k).length ≤ k := by
  induction k with
  | zero => simp [gUp]
  | succ k ih =>
    unfold gUp
    split
    · split
      · simp; omega
      · omega
    · omega
def pStr (o : Int) (x : S36) : Option Int := if x.f3 = o then some x.f1 else none
def pShr (x : S36) : Option Int := some x.f2
def encG {n : Nat} (x : Fin n × Int) : Array Value := #[.int .i64 (x.1.val : Int), .int .i64 x.2]
/-- What a round keeps: whatever lies below n₀, and one cell. -/
def KpG (n₀ g : Nat) (v : Value) (A B : World) : Prop := Below n₀ A B ∧ (A.cell? ⟨g, 0, none⟩ = some v → B.cell? ⟨g, 0, none⟩ = some v)
theorem KpG_t {n₀ g : Nat} {v : Value} {A B C : World} (h : KpG n₀ g v A B) (k : KpG n₀ g v B C) : KpG n₀ g v A C := ⟨h.1.trans k.1, fun e => k.2 (h.2 e)⟩
theorem KpG_b {n₀ g : Nat} {v : Value} {w : World} (hn : n₀ ≤ w.heap.size) (W : World) (l : Nat) (o o' : Obj) (hl : w.heap.size ≤ l) (h : W.heap[l]? = some o) (hc : o.isCells = false) (hw : o.isWalk = false) : KpG n₀ g v W (W.putObj l o') :=
  ⟨belowK_b hn W l o o' hl h hc hw, fun e => cell_kept e (grownBy_putObj' W l o') (fun r e => by cases e; exact ⟨o, h, hc⟩)⟩
set_option maxRecDepth 100000 in
set_option maxHeartbeats 2000000 in
theorem str1_in (F : Fence) (n : Nat) (hF : F.fn 59) (hro : F.round = none) (hn : 1 ≤ n) (l Bs Bo n₀ : Nat) (A0 : Option Addr) (c0 : Nat) (l0 : List S36) (o : Int) (J Jx : List (Fin l0.length × Int) → World → Prop) (B : Nat) (hJ : AbidesFrom B J)
    (hY : ∀ pre x W, J pre W → pre.length < l0.length → YieldAt F (n - 1) Try.prog l (encG x) W fun e W' =>
      (e = .returned (.bool true) ∧ J (pre ++ [x]) W' ∧ KpG n₀ Bo (.int .i64 o) W W') ∨ (e = .returned (.bool false) ∧ Jx (pre ++ [x]) W'))
    (W0 W : World) (hn₀ : n₀ = W0.heap.size) (hb : Below n₀ W0 W) (hr0 : Kd.C k36 W0 A0 l0.length l0) (hBs : W.cell? ⟨Bs, 0, none⟩ = some (.slice A0 l0.length c0)) (hBo : W.cell? ⟨Bo, 0, none⟩ = some (.int .i64 o)) (h0 : J [] W) :
    CallsIn F n Try.prog 59 #[.func (.yield l) #[] #[], .pointer (some ⟨Bs, 0, none⟩), .pointer (some ⟨Bo, 0, none⟩)] W fun e W' => (∃ v, e = .returned v) ∧
      ((∃ ys, ys = gUp (pStr o) l0 l0.length ∧ J ys W') ∨ (∃ pre, True ∧ Jx pre W')) := by
  subst hn₀
  have hu := Try.underlying36
  have HR0 := Aside0.mk hr0
  have hm : l0.length ≤ 9223372036854775807 := hr0.2.1
  clear hr0
  refine callsIn_of_wp Try.func59 rfl hF ?_ hro
  simp only [Try.ntmps59, List.size_toArray, List.length_cons, List.length_nil, Nat.reduceAdd, Nat.reduceSub, Array.replicate_succ, Array.replicate_zero, List.push_toArray, List.append_toArray, List.nil_append, List.cons_append]
  gi_wp2
  gi_loopw [8] (fun i wr => ∃ k : Nat, k ≤ l0.length ∧ i = .int .i64 k ∧ J (gUp (pStr o) l0 k) wr ∧ Aside0 (Below W0.heap.size W0 wr) ∧ wr.cell? ⟨Bo, 0, none⟩ = some (.int .i64 o))
    (fun i _ => l0.length - (intOf i).toNat)
  case atStart => exact ⟨0, Nat.zero_le _, rfl, h0, ⟨hb⟩, hBo⟩
  case round =>
    obtain ⟨k, hk, rfl, hJs, hnx, hco⟩ := hrel
    by_cases hlt : k < l0.length
    · obtain ⟨ad, e, q0, q1, q2, q3⟩ := at_T36 HR0.out (k : Int) (by omega) (by omega)
      cases e
      have c0 := pw_cell_below hnx.out q0
      have c1 := pw_cell_below hnx.out q1
      have c2 := pw_cell_below hnx.out q2
      have c3 := pw_cell_below hnx.out q3
      have hbo := World.block_lt_of_cell? wr _ hco
      clear q0 q1 q2 q3
      simp only [Int.toNat_natCast, rdT36_nat l0 k hlt] at c0 c1 c2 c3
      by_cases hp : l0[k].f3 = o
      · have HP := Lib.hid (show pStr o l0[k] = some l0[k].f1 by simp [pStr, hp])
        rw [hp] at c3
        obtain ⟨fn, tmps, assign, body, hy, hR⟩ := hY _ (⟨k, hlt⟩, l0[k].f1) (wr.alloc (.cells #[.int .i64 l0[k].f0, .int .i64 l0[k].f1, .int .i64 l0[k].f2, .int .i64 o] 36)) (hJ _ _ _ none hJs (World.grownBy_alloc _ _ none) (fun _ e => by cases e)) (Nat.lt_of_le_of_lt (gUp_len _ _ _) hlt)
        dsimp only [encG] at hy
        gi_wp2
        refine hR.mono ?_
        rintro e W3 (⟨rfl, hJ3, hk3⟩ | ⟨rfl, hJx3⟩)
        · gi_wp2
          go_roundw
          case rel => exact ⟨k + 1, by omega, by go_num, by rw [gUp_some hlt HP.out]; exact hJ3, ⟨(below_alloc hnx.out _).trans (hk3.1)⟩, hk3.2 (cell_kept hco (World.grownBy_alloc _ _ none) (fun _ e => by cases e))⟩
          case measure => simp [intOf]; omega
        · gi_wp2
          refine bodyPost_ret (results_none rfl _ _ _) rfl ?_
          exact ⟨⟨_, rfl⟩, .inr ⟨_, trivial, hJx3⟩⟩
      · have HP := Lib.hid (show pStr o l0[k] = none by simp [pStr, hp])
        have hp' : (l0[k].f3 == o) = false := by simpa using hp
        gi_wp2
        refine ⟨fun _ h => (by cases h), ?_⟩
        gi_wp2
        go_roundw
        case rel => exact ⟨k + 1, by omega, by go_num, by rw [gUp_none hlt HP.out]; exact hJ _ _ _ none hJs (World.grownBy_alloc _ _ none) (fun _ e => by cases e), ⟨below_alloc hnx.out _⟩, cell_kept hco (World.grownBy_alloc _ _ none) (fun _ e => by cases e)⟩
        case measure => simp [intOf]; omega
    · obtain rfl : k = l0.length := by omega
      gi_wp2
      go_end0
      exact ⟨⟨_, rfl⟩, .inl ⟨_, rfl, hJs⟩⟩
set_option maxRecDepth 100000 in
set_option maxHeartbeats 2000000 in
theorem shr1_in (F : Fence) (n : Nat) (hF : F.fn 60) (hro : F.round = none) (hn : 1 ≤ n) (l Bs g n₀ : Nat) (A0 : Option Addr) (c0 : Nat) (l0 : List S36) (v : Value) (J Jx : List (Fin l0.length × Int) → World → Prop)  (B : Nat) (hJ : AbidesFrom B J)
    (hY : ∀ pre x W, J pre W → pre.length < l0.length → YieldAt F (n - 1) Try.prog l (encG x) W fun e W' =>
      (e = .returned (.bool true) ∧ J (pre ++ [x]) W' ∧ KpG n₀ g v W W') ∨ (e = .returned (.bool false) ∧ Jx (pre ++ [x]) W'))
    (W0 W : World) (hn₀ : n₀ = W0.heap.size) (hb : Below n₀ W0 W) (hr0 : Kd.C k36 W0 A0 l0.length l0) (hBs : W.cell? ⟨Bs, 0, none⟩ = some (.slice A0 l0.length c0)) (h0 : J [] W) :
    CallsIn F n Try.prog 60 #[.func (.yield l) #[] #[], .pointer (some ⟨Bs, 0, none⟩)] W fun e W' => (∃ v, e = .returned v) ∧
      ((∃ ys, ys = gUp pShr l0 l0.length ∧ J ys W') ∨ (∃ pre, True ∧ Jx pre W')) := by
  subst hn₀
  have hu := Try.underlying36
  have HR0 := Aside0.mk hr0
  have hm : l0.length ≤ 9223372036854775807 := hr0.2.1
  clear hr0
  refine callsIn_of_wp Try.func60 rfl hF ?_ hro
  simp only [Try.ntmps60, List.size_toArray, List.length_cons, List.length_nil, Nat.reduceAdd, Nat.reduceSub, Array.replicate_succ, Array.replicate_zero, List.push_toArray, List.append_toArray, List.nil_append, List.cons_append]
  gi_wp2
  gi_loopw [7] (fun i wr => ∃ k : Nat, k ≤ l0.length ∧ i = .int .i64 k ∧ J (gUp pShr l0 k) wr ∧ Aside0 (Below W0.heap.size W0 wr))
    (fun i _ => l0.length - (intOf i).toNat)
  case atStart => exact ⟨0, Nat.zero_le _, rfl, h0, ⟨hb⟩⟩
  case round =>
    obtain ⟨k, hk, rfl, hJs, hnx⟩ := hrel
    by_cases hlt : k < l0.length
    · obtain ⟨ad, e, q0, q1, q2, q3⟩ := at_T36 HR0.out (k : Int) (by omega) (by omega)
      cases e
      have c0 := pw_cell_below hnx.out q0
      have c1 := pw_cell_below hnx.out q1
      have c2 := pw_cell_below hnx.out q2
      have c3 := pw_cell_below hnx.out q3
      clear q0 q1 q2 q3
      simp only [Int.toNat_natCast, rdT36_nat l0 k hlt] at c0 c1 c2 c3
      have HP := Lib.hid (show pShr l0[k] = some l0[k].f2 by simp [pShr])
      obtain ⟨fn, tmps, assign, body, hy, hR⟩ := hY _ (⟨k, hlt⟩, l0[k].f2) (wr.alloc (.cells #[.int .i64 l0[k].f0, .int .i64 l0[k].f1, .int .i64 l0[k].f2, .int .i64 l0[k].f3] 36)) (hJ _ _ _ none hJs (World.grownBy_alloc _ _ none) (fun _ e => by cases e)) (Nat.lt_of_le_of_lt (gUp_len _ _ _) hlt)
      dsimp only [encG] at hy
      gi_wp2
      refine hR.mono ?_
      rintro e W3 (⟨rfl, hJ3, hk3⟩ | ⟨rfl, hJx3⟩)
      · gi_wp2
        go_roundw
        case rel => exact ⟨k + 1, by omega, by go_num, by rw [gUp_some hlt HP.out]; exact hJ3, ⟨(below_alloc hnx.out _).trans (hk3.1)⟩⟩
        case measure => simp [intOf]; omega
      · gi_wp2
        refine bodyPost_ret (results_none rfl _ _ _) rfl ?_
        exact ⟨⟨_, rfl⟩, .inr ⟨_, trivial, hJx3⟩⟩
    · obtain rfl : k = l0.length := by omega
      gi_wp2
      go_end0
      exact ⟨⟨_, rfl⟩, .inl ⟨_, rfl, hJs⟩⟩
set_option maxHeartbeats 1000000 in
theorem stretching_in (F : Fence) (n : Nat) (hF : F.fn 36) (hro : F.round = none) (a : Option Addr) (len cap : Nat) (o : Int) (w : World) :
    CallsIn F n Try.prog 36 #[.slice a len cap, .int .i64 o] w fun e w' => e = .returned (.func (.func 59) #[] #[.pointer (some ⟨w.heap.size, 0, none⟩), .pointer (some ⟨w.heap.size + 1, 0, none⟩)]) ∧ w' = (w.alloc (.cells #[.slice a len cap] 22)).alloc (.cells #[.int .i64 o] 3) := by
  refine callsIn_of_wp Try.func36 rfl hF ?_ hro
  simp only [Try.ntmps36, List.size_toArray, List.length_cons, List.length_nil, Nat.reduceAdd, Nat.reduceSub, Array.replicate_succ, Array.replicate_zero, List.push_toArray, List.append_toArray, List.nil_append, List.cons_append]
  gi_wp2
  go_ret
  exact ⟨rfl, rfl⟩
set_option maxHeartbeats 1000000 in
theorem shrinking_in (F : Fence) (n : Nat) (hF : F.fn 37) (hro : F.round = none) (a : Option Addr) (len cap : Nat) (w : World) :
    CallsIn F n Try.prog 37 #[.slice a len cap] w fun e w' => e = .returned (.func (.func 60) #[] #[.pointer (some ⟨w.heap.size, 0, none⟩)]) ∧ w' = w.alloc (.cells #[.slice a len cap] 22) := by
  refine callsIn_of_wp Try.func37 rfl hF ?_ hro
  simp only [Try.ntmps37, List.size_toArray, List.length_cons, List.length_nil, Nat.reduceAdd, Nat.reduceSub, Array.replicate_succ, Array.replicate_zero, List.push_toArray, List.append_toArray, List.nil_append, List.cons_append]
  gi_wp2
  go_ret
  exact ⟨rfl, rfl⟩
theorem stretching_stops (F : Fence) (n : Nat) (hF : F.fn 59) (hro : F.round = none) (hn : 1 ≤ n) (Bs Bo n₀ : Nat) (A0 : Option Addr) (c0 : Nat) (l0 : List S36) (o : Int) (W0 w : World) (hn₀ : n₀ = W0.heap.size) (hb : Below n₀ W0 w) (hr0 : Kd.C k36 W0 A0 l0.length l0)
    (h1 : Bs < w.heap.size) (h2 : Bo < w.heap.size) (hBs : w.cell? ⟨Bs, 0, none⟩ = some (.slice A0 l0.length c0)) (hBo : w.cell? ⟨Bo, 0, none⟩ = some (.int .i64 o)) :
    SeqStopsK F n Try.prog 59 #[.pointer (some ⟨Bs, 0, none⟩), .pointer (some ⟨Bo, 0, none⟩)] (encG (n := l0.length)) (KpG n₀ Bo (.int .i64 o)) (fun ys => ys = gUp (pStr o) l0 l0.length) (fun _ => True) l0.length w := fun l J Jx W hW hJ _ hY h0 =>
  str1_in F n hF hro hn l Bs Bo n₀ A0 c0 l0 o J Jx _ hJ hY W0 W hn₀ (hb.trans (hW.mono (by subst hn₀; exact hb.size))) hr0 ((hW.cell (p := ⟨Bs, 0, none⟩) h1).trans hBs) ((hW.cell (p := ⟨Bo, 0, none⟩) h2).trans hBo) h0
theorem shrinking_stops (F : Fence) (n : Nat) (hF : F.fn 60) (hro : F.round = none) (hn : 1 ≤ n) (Bs g n₀ : Nat) (A0 : Option Addr) (c0 : Nat) (l0 : List S36) (v : Value) (W0 w : World) (hn₀ : n₀ = W0.heap.size) (hb : Below n₀ W0 w) (hr0 : Kd.C k36 W0 A0 l0.length l0)
    (h1 : Bs < w.heap.size) (hBs : w.cell? ⟨Bs, 0, none⟩ = some (.slice A0 l0.length c0)) :
    SeqStopsK F n Try.prog 60 #[.pointer (some ⟨Bs, 0, none⟩)] (encG (n := l0.length)) (KpG n₀ g v) (fun ys => ys = gUp pShr l0 l0.length) (fun _ => True) l0.length w := fun l J Jx W hW hJ _ hY h0 =>
  shr1_in F n hF hro hn l Bs g n₀ A0 c0 l0 v J Jx _ hJ hY W0 W hn₀ (hb.trans (hW.mono (by subst hn₀; exact hb.size))) hr0 ((hW.cell (p := ⟨Bs, 0, none⟩) h1).trans hBs) h0
/-- The sum of what has come. -/
def sumG {n : Nat} (l : List (Fin n × Int)) : Int := l.foldl (fun s x => wrap64 (s + x.2)) 0
theorem sumG_snoc {n : Nat} (pre : List (Fin n × Int)) (x : Fin n × Int) : sumG (pre ++ [x]) = wrap64 (sumG pre + x.2) := by simp [sumG]
set_option maxRecDepth 100000 in
set_option maxHeartbeats 2000000 in
theorem sum_in {m : Nat} (F : Fence) (n : Nat) (h35 : F.fn 35) (hro : F.round = none) (hn : 3 ≤ n) (gf : Nat) (lb : Array Value) (hFg : F.fn gf) (eg : ∀ args w, (callFunc gf args).run Try.prog w = .ok (.enter gf args) w)
    (n₀ g : Nat) (v : Value) (zs : List (Fin m × Int)) (N : Nat) (w : World) (hn₀ : n₀ ≤ w.heap.size) (hg : g < w.heap.size)
    (hseq : SeqStopsK F (n - 1) Try.prog gf lb (encG (n := m)) (KpG n₀ g v) (fun ys => ys = zs) (fun _ => True) N w) :
    CallsIn F n Try.prog 35 #[.func (.func gf) #[] lb] w fun e W' => e = .returned (.int .i64 (sumG zs)) ∧ Below w.heap.size w W' := by
  have h1 : 1 ≤ n := by omega
  refine callsIn_of_wp_marks Try.func35 rfl h35 ?_ hro
  simp only [Try.ntmps35, List.size_toArray, List.length_cons, List.length_nil, Nat.reduceAdd, Nat.reduceSub, Array.replicate_succ, Array.replicate_zero, List.push_toArray, List.append_toArray, List.nil_append, List.cons_append]
  gi_wp2
  have bS := Boxed.new w 3 (.int .i64 0)
  have hB0 : Below w.heap.size w (w.alloc (.cells #[.int .i64 0] 3)) := (Below.refl _ w).alloc (Nat.le_refl _) _
  refine wpIn_rangeFunc_ownG hro h1 (gf := gf) (lb := lb) rfl hFg eg
    hseq KpG_t (KpG_b (Nat.le_trans hn₀ (by simp))) hB0 (fun _ => rfl)
    (fun pre W => (W.cell? ⟨w.heap.size, 0, none⟩ = some (.int .i64 (sumG pre)) ∧ W.frozen? ⟨w.heap.size, 0, none⟩ = false) ∧ Below w.heap.size w W)
    (fun _ _ _ => False)
    (OwnFrom.and (Own.from (fun s A B row hs hg hr => ⟨cell_kept hs.1 hg hr, (frozen_kept hs.1 hg hr).trans hs.2⟩) _) (ownFrom_below (Nat.le_refl _) (by simp)))
    (fun _ _ _ _ _ hs _ _ => hs)
    ⟨⟨bS.cell, bS.frozen⟩, hB0⟩
    (fun x => { tmps := #[.func (.func gf) #[] lb, undef, .int .i64 0, .pointer (some ⟨w.heap.size, 0, none⟩), undef, .int .i64 x.2, .func (.func gf) #[] lb, .int .i64 (x.1.val : Int), .int .i64 x.2, undef, undef, undef, undef], defers := [] }) ?assign ?body ?done ?stop
  case assign =>
    intro l x W K hK
    simp only [encG]
    gi_wp2
    exact hK
  case body =>
    rintro l pre x W ⟨⟨hc, hf⟩, hB⟩ _
    gi_wp2
    exact ⟨(KeepsOthers.setCell _ _ _).from _, ⟨(Below.refl n₀ W).setCell (p := ⟨w.heap.size, 0, none⟩) hn₀ _, fun e => (World.cell?_setCell_far _ _ _ _ (show w.heap.size ≠ g by omega)).trans e⟩, ⟨by rw [sumG_snoc]; exact World.cell?_setCell_same' _ _ _ (by rw [hc]; rfl), by rw [World.frozen?_setCell]; exact hf⟩, hB.setCell (p := ⟨w.heap.size, 0, none⟩) (Nat.le_refl _) _⟩
  case done =>
    rintro D ys W hD rfl ⟨⟨hc, _⟩, hB⟩ hK
    gi_wp2
    refine ⟨by simp, .inl ⟨_, _, rfl, run_takeDeferred hK, ?_⟩⟩
    exact ⟨_, results_tmp rfl _ _ _, rfl, hB.trans (belowK_b (w := w) (Nat.le_refl _) W D _ _ (by simp at hD; omega) hK rfl rfl)⟩
  case stop =>
    rintro D c pre W _ _ h _
    exact h.elim
theorem sumStr_wide (n : Nat) (hn : 3 ≤ n) (A0 : Option Addr) (c0 : Nat) (l0 : List S36) (o : Int) (w : World) (hr0 : Kd.C k36 w A0 l0.length l0) :
    CallsIn Fence.wide n Try.prog 35 #[.func (.func 59) #[] #[.pointer (some ⟨w.heap.size, 0, none⟩), .pointer (some ⟨w.heap.size + 1, 0, none⟩)]] ((w.alloc (.cells #[.slice A0 l0.length c0] 22)).alloc (.cells #[.int .i64 o] 3)) fun e W' => e = .returned (.int .i64 (sumG (gUp (pStr o) l0 l0.length))) ∧ Below w.heap.size w W' := by
  have hB : Below w.heap.size w ((w.alloc (.cells #[.slice A0 l0.length c0] 22)).alloc (.cells #[.int .i64 o] 3)) := ((Below.refl _ w).alloc (Nat.le_refl _) _).alloc (by simp) _
  have b1 := (Boxed.new w 22 (.slice A0 l0.length c0)).alloc (.cells #[.int .i64 o] 3)
  have b2 := Boxed.new (w.alloc (.cells #[.slice A0 l0.length c0] 22)) 3 (.int .i64 o)
  rw [World.size_alloc] at b2
  refine (sum_in Fence.wide n trivial rfl hn 59 _ trivial (enters_of Try.func59 (by kernel_rfl) rfl) w.heap.size (w.heap.size + 1) (.int .i64 o) (gUp (pStr o) l0 l0.length) l0.length _ (by simp; omega) (by simp)
    (stretching_stops Fence.wide (n - 1) trivial rfl (by omega) w.heap.size (w.heap.size + 1) w.heap.size A0 c0 l0 o w _ rfl hB hr0 (by simp; omega) (by simp) b1.cell b2.cell)).mono ?_
  rintro e W' ⟨he, hb⟩
  exact ⟨he, hB.trans (hb.mono hB.size)⟩
theorem sumShr_wide (n : Nat) (hn : 3 ≤ n) (A0 : Option Addr) (c0 : Nat) (l0 : List S36) (w : World) (hr0 : Kd.C k36 w A0 l0.length l0) :
    CallsIn Fence.wide n Try.prog 35 #[.func (.func 60) #[] #[.pointer (some ⟨w.heap.size, 0, none⟩)]] (w.alloc (.cells #[.slice A0 l0.length c0] 22)) fun e W' => e = .returned (.int .i64 (sumG (gUp pShr l0 l0.length))) ∧ Below w.heap.size w W' := by
  have hB : Below w.heap.size w (w.alloc (.cells #[.slice A0 l0.length c0] 22)) := (Below.refl _ w).alloc (Nat.le_refl _) _
  have b1 := Boxed.new w 22 (.slice A0 l0.length c0)
  refine (sum_in Fence.wide n trivial rfl hn 60 _ trivial (enters_of Try.func60 (by kernel_rfl) rfl) w.heap.size w.heap.size (.slice A0 l0.length c0) (gUp pShr l0 l0.length) l0.length _ (by simp) (by simp)
    (shrinking_stops Fence.wide (n - 1) trivial rfl (by omega) w.heap.size w.heap.size w.heap.size A0 c0 l0 _ w _ rfl hB hr0 (by simp) b1.cell)).mono ?_
  rintro e W' ⟨he, hb⟩
  exact ⟨he, hB.trans (hb.mono hB.size)⟩
def glue_Stretch.f (k : Nat) (l0 : List (S36)) (a1 : Int) : Option (Int) := (glue_Valid.f k l0).bind fun v => some (if v then sumG (gUp (pStr a1) l0 l0.length) else 0)
theorem glue_Stretch.mono : ∀ a0 a1 k, LeO (glue_Stretch.f k a0 a1) (glue_Stretch.f (k + 1) a0 a1) := fun a0 a1 k => LeO.bind (glue_Valid.mono a0 k) (fun _ => LeO.refl _)
set_option maxHeartbeats 1000000 in
theorem glue_Stretch.calls (k : Nat) (A0 : Option Addr) (c0 : Nat) (l0 : List (S36)) (a1 : Int) (r : Int) (w : World) (hr0 : Kd.C k36 w A0 l0.length l0) (hc0 : l0.length ≤ c0) (h : glue_Stretch.f k l0 a1 = some r) :
    Calls Try.prog 18 #[.slice A0 l0.length c0, .int .i64 a1] w fun e w' => e = .returned (.int .i64 r) ∧ Below w.heap.size w w' := by
  obtain ⟨b, hv, h⟩ := Option.bind_eq_some_iff.mp h
  obtain rfl := Option.some.inj h
  have HV := Lib.hid (glue_Valid.calls k A0 c0 l0 b w hr0 hc0 hv)
  have HR := Lib.hid hr0
  clear hv h hr0
  refine (callsIn_wide (n := 9)).1 ?_
  refine callsIn_of_wp Try.func18 rfl trivial ?_ rfl
  simp only [Try.ntmps18, List.size_toArray, List.length_cons, List.length_nil, Nat.reduceAdd, Nat.reduceSub, Array.replicate_succ, Array.replicate_zero, List.push_toArray, List.append_toArray, List.nil_append, List.cons_append]
  cases b with
  | false =>
    gi_wp2_with (refine ⟨trivial, ?_⟩; gi_at_call 14; refine (callsIn_wide.2 HV.out).mono ?_; rintro e w1 ⟨rfl, hb1⟩)
    go_ret
    exact ⟨rfl, hb1⟩
  | true =>
    gi_wp2_with (first | (refine ⟨trivial, ?_⟩; gi_at_call 14; refine (callsIn_wide.2 HV.out).mono ?_; rintro e w1 ⟨rfl, hb1⟩; have HC := Lib.hid (Kd.C_below HR.out hb1)) | (refine ⟨trivial, ?_⟩; gi_at_call 36; refine (stretching_in Fence.wide _ trivial rfl _ _ _ _ _).mono ?_; rintro e w2 ⟨rfl, rfl⟩) | (refine ⟨trivial, ?_⟩; gi_at_call 35; refine (sumStr_wide _ (by omega) _ _ _ _ _ HC.out).mono ?_; rintro e w3 ⟨rfl, hb3⟩))
    go_ret
    exact ⟨rfl, hb1.trans (hb3.mono hb1.size)⟩
end

end Go.Proofs.Ytojcnndkdopahaa.P
