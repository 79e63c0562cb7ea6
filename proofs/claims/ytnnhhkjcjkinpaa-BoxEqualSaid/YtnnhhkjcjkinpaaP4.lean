/- Written by wip/tool/hprint.py (the kit's print.py with hand-proved contracts set in): contracts of the functions that the statements of this seat reach, without conditions beyond those named in each theorem. -/
import Derived.Test.YtnnhhkjcjkinpaaP0
import Derived.Test.YtnnhhkjcjkinpaaP1
import Derived.Test.YtnnhhkjcjkinpaaP2
import Derived.Test.YtnnhhkjcjkinpaaP3
import Derived.RangeFuncNested
import Derived.RangeFuncBound
import Derived.RangeFuncCalls
import Derived.RangeFuncLeaves
import Derived.RangeFuncBox
import Derived.Shelf.Abstract
import Derived.Shelf.RegionOpen
import Derived.WalkKit
import Derived.OwnWalkIn
import Derived.TacticsInMore
import Derived.LoopNIn
import Derived.LoopIn
import Derived.Orders
import Derived.OrdersIn
import Derived.Lib.Hide
import Derived.Lib.ConvBytes
namespace Go.Proofs.Ytnnhhkjcjkinpaa.P
open Go.RowKit Go.Proofs.YtnnhhkjcjkinpaaW.PrintWords Go.Proofs.YtnnhhkjcjkinpaaW.PrintLast Go.Proofs.YtnnhhkjcjkinpaaW.PrintMore
attribute [local go_sem] max2_int min2_int max_two min_two max_three min_three max_four min_four   -- for this text's walks alone
set_option linter.unusedVariables false
set_option linter.unusedSimpArgs false

-- IMPORTS: Derived.RangeFuncNested Derived.RangeFuncBound Derived.RangeFuncCalls Derived.RangeFuncLeaves Derived.RangeFuncBox Derived.Shelf.Abstract Derived.Shelf.RegionOpen Derived.WalkKit Derived.OwnWalkIn Derived.TacticsInMore Derived.LoopNIn Derived.LoopIn Derived.Orders Derived.OrdersIn Derived.Lib.Hide Derived.Lib.ConvBytes

/-! ### nested -/
def nestF : Nat → S28 → Int
  | 0, _ => 1
  | m + 1, x => x.f8.foldl (fun a k => mx a (nestF m k)) 0 + 1
theorem nestF_bound : ∀ (m : Nat) (x : S28), 1 ≤ nestF m x ∧ nestF m x ≤ m + 1
  | 0, x => by simp [nestF]
  | m + 1, x => by
    have ih := nestF_bound m
    have key : ∀ (l : List S28) (a : Int), 0 ≤ a → a ≤ m + 1 → 0 ≤ l.foldl (fun a k => mx a (nestF m k)) a ∧ l.foldl (fun a k => mx a (nestF m k)) a ≤ m + 1 := by
      intro l
      induction l with
      | nil => intro a h1 h2; exact ⟨h1, h2⟩
      | cons y l il =>
        intro a h1 h2
        rw [List.foldl_cons]
        have := ih y
        exact il _ (by unfold mx; split <;> omega) (by unfold mx; split <;> omega)
    have := key x.f8 0 (by omega) (by omega)
    simp only [nestF]
    push_cast
    omega
def nestU (m : Nat) (l : List S28) (k : Nat) : Int := (l.take k).foldl (fun a k => mx a (nestF m k)) 0
theorem nestU_succ (m : Nat) (l : List S28) (k : Nat) (h : k < l.length) : nestU m l (k + 1) = mx (nestU m l k) (nestF m l[k]) := by
  unfold nestU
  rw [List.take_succ_eq_append_getElem h, List.foldl_append]
  rfl
set_option maxRecDepth 100000 in
theorem nested_zero (p : Addr) (x : S28) (A8 : Option Addr) (c8 : Nat) (A10 : Option Addr) (c10 : Nat) (w : World) (hx : BoxAt w p x A8 c8 A10 c10) :
    Calls Try.prog 52 #[.pointer (some p), .int .i64 0] w fun e w' => e = .returned (.int .i64 1) ∧ Below w.heap.size w w' := by
  have hu := Try.underlying28
  obtain ⟨h0, h1, h2, h3, h4, h5, h6, h7, h8, h9, h10, l8, C8, l10, C10⟩ := hx
  have hm : x.f8.length ≤ 9223372036854775807 := C8.2.1
  clear h0 h1 h2 h3 h4 h5 h6 h7 h9 h10 l8 C8 l10 C10
  go_enter Try.func52, Try.ntmps52
  go_wp2
  go_loopw [5, 12] (fun o i w' => ∃ k : Nat, k ≤ x.f8.length ∧ i = .int .i64 k ∧ o = .int .i64 0 ∧ w' = w) (fun _ i _ => x.f8.length - (intOf i).toNat)
  case atStart => exact ⟨0, Nat.zero_le _, rfl, rfl, rfl⟩
  case round =>
    obtain ⟨k, hk, rfl, rfl, rfl⟩ := hrel
    by_cases hlt : k < x.f8.length
    · go_wp2
      exact ⟨⟨k + 1, by omega, by go_num, by first | rfl | trivial, by first | rfl | trivial⟩, by simp [intOf]; omega⟩
    · go_wp2
      go_ret
      exact ⟨rfl, Below.refl _ _⟩
set_option maxRecDepth 100000 in
set_option maxHeartbeats 1000000 in
theorem nested_any : ∀ (m : Nat), m ≤ 1000 → ∀ (p : Addr) (x : S28) (A8 : Option Addr) (c8 : Nat) (A10 : Option Addr) (c10 : Nat) (w : World), BoxAt w p x A8 c8 A10 c10 →
    Calls Try.prog 52 #[.pointer (some p), .int .i64 (m : Int)] w fun e w' => e = .returned (.int .i64 (nestF m x)) ∧ Below w.heap.size w w'
  | 0, _ => fun p x A8 c8 A10 c10 w hx => nested_zero p x A8 c8 A10 c10 w hx
  | m + 1, hm1 => fun p x A8 c8 A10 c10 w hx => by
    have ih := Lib.hid (nested_any m (by omega))
    have hu := Try.underlying28
    have HX := Lib.hid hx
    have hm : x.f8.length ≤ 9223372036854775807 := hx.2.2.2.2.2.2.2.2.2.2.2.2.1.2.1
    have h8 := hx.2.2.2.2.2.2.2.2.1
    clear hx
    have hmp : decide ((0 : Int) < ((m + 1 : Nat) : Int)) = true := decide_eq_true (by omega)
    have hmw : ((m + 1 : Nat) : Int) - 1 = (m : Int) := by omega
    generalize hM : ((m + 1 : Nat) : Int) = M at hmp hmw ⊢
    go_enter Try.func52, Try.ntmps52
    go_wp2
    go_loopw [5, 12] (fun o i w' => ∃ k : Nat, k ≤ x.f8.length ∧ i = .int .i64 k ∧ o = .int .i64 (nestU m x.f8 k) ∧ Aside0 (Below w.heap.size w w')) (fun _ i _ => x.f8.length - (intOf i).toNat)
    case atStart => exact ⟨0, Nat.zero_le _, rfl, rfl, ⟨Below.refl _ _⟩⟩
    case round =>
      obtain ⟨k, hk, rfl, rfl, HB⟩ := hrel
      by_cases hlt : k < x.f8.length
      · have HX1 := Lib.hid (HX.out.below HB.out)
        have q8 := HX1.out.2.2.2.2.2.2.2.2.1
        obtain ⟨ad, e, a8, b8, a10, b10, HK⟩ := kid_at HX1.out.2.2.2.2.2.2.2.2.2.2.2.2.1 k hlt
        subst e
        have HK' := Lib.hid HK
        clear HK
        have HS := Lib.hid (nestU_succ m x.f8 k hlt)
        unfold mx at HS
        have hnb := nestF_bound m x.f8[k]
        go_wp2_with (go_at_call 52; refine (ih.out _ _ _ _ _ _ _ HK'.out).mono ?_; rintro e w1 ⟨rfl, hb1⟩)
        exact ⟨⟨k + 1, by omega, by go_num, by rw [HS.out], ⟨below_then HB.out HB.out.size hb1⟩⟩, by simp [intOf]; omega⟩
      · obtain rfl : k = x.f8.length := by omega
        have hnb := nestF_bound (m + 1) x
        have hnU : nestU m x.f8 x.f8.length = nestF (m + 1) x - 1 := by unfold nestU; rw [List.take_length]; simp only [nestF]; omega
        have hw : nestU m x.f8 x.f8.length + 1 = nestF (m + 1) x := by omega
        have hwr : wrap64 (nestU m x.f8 x.f8.length + 1) = nestF (m + 1) x := by rw [hw]; unfold wrap64; omega
        generalize nestU m x.f8 x.f8.length = u at hw hwr ⊢
        go_wp2
        go_ret
        exact ⟨ret_int (by first | rfl | exact hwr | exact hw), HB.out⟩
/-! ### the iterator over all boxes -/
def flatV (x : S28) (X Y : Int) : List (S28 × Int × Int) := (x, X, Y) :: (x.f8.attach.flatMap fun k => flatV k.1 (wrap64 (X + k.1.f6)) (wrap64 (Y + k.1.f7)))
termination_by SizeOf.sizeOf x
decreasing_by
  have h := List.sizeOf_lt_of_mem k.2
  cases x
  simp at h ⊢
  omega
def kidsV (l : List S28) (X Y : Int) : List (S28 × Int × Int) := l.flatMap fun k => flatV k (wrap64 (X + k.f6)) (wrap64 (Y + k.f7))
theorem flatV_eq (x : S28) (X Y : Int) : flatV x X Y = (x, X, Y) :: kidsV x.f8 X Y := by
  rw [flatV]
  unfold kidsV
  congr 1
  rw [List.flatMap_def, List.flatMap_def]
  congr 1
  exact List.attach_map_val (f := fun k => flatV k (wrap64 (X + k.f6)) (wrap64 (Y + k.f7)))
theorem kidsV_succ (l : List S28) (X Y : Int) (k : Nat) (h : k < l.length) : kidsV (l.take (k + 1)) X Y = kidsV (l.take k) X Y ++ flatV l[k] (wrap64 (X + l[k].f6)) (wrap64 (Y + l[k].f7)) := by
  unfold kidsV
  rw [List.take_succ_eq_append_getElem h, List.flatMap_append]
  congr 1
  simp only [List.flatMap_cons, List.flatMap_nil, List.append_nil]
theorem kidsV_le (l : List S28) (X Y : Int) (k : Nat) : (kidsV (l.take k) X Y).length ≤ (kidsV l X Y).length := by
  have e : kidsV l X Y = kidsV (l.take k) X Y ++ kidsV (l.drop k) X Y := by
    unfold kidsV
    rw [← List.flatMap_append, List.take_append_drop]
  rw [e, List.length_append]
  omega
theorem kid_size (x : S28) (k : Nat) (h : k < x.f8.length) : SizeOf.sizeOf x.f8[k] < SizeOf.sizeOf x := by
  have h := List.sizeOf_lt_of_mem (List.getElem_mem h)
  cases x
  simp at h ⊢
  omega
/-- What a round is handed: a box that lies in the world w0, and its place. -/
abbrev AB (w0 : World) := { q : Addr × S28 × Int × Int // BoxHere w0 q.1 q.2.1 }
def encB {w0 : World} (q : AB w0) : Array Value := #[.pointer (some q.1.1), .agg #[.int .i64 q.1.2.2.1, .int .i64 q.1.2.2.2]]
def prj {w0 : World} (q : AB w0) : S28 × Int × Int := q.1.2
theorem room_of_none {F : Fence} (hd : F.depth = none) (k : Nat) : F.room k := fun d h => by rw [hd] at h; cases h
theorem RoundIn_anyDepth {F : Fence} (hd : F.depth = none) {m m' : Nat} {P : Program} {l : Nat} {f : FuncId} {tmps : Array Value} {assign body : Code} {w : World} {R : Ending → World → Prop}
    (h : RoundIn F m P l f tmps assign body w R) : RoundIn F m' P l f tmps assign body w R := ⟨h.1, fun c cs _ => h.2 c cs (room_of_none hd _)⟩
theorem YieldAt_anyDepth {F : Fence} (hd : F.depth = none) {m : Nat} (m' : Nat) {P : Program} {l : Nat} {args : Array Value} {W : World} {R : Ending → World → Prop} (h : YieldAt F m P l args W R) : YieldAt F m' P l args W R := by
  obtain ⟨fn, tmps, assign, body, hy, hR⟩ := h
  exact ⟨fn, tmps, assign, body, hy, RoundIn_anyDepth hd hR⟩
theorem pw_below_drew0 {n₀ : Nat} {A B : World} (h : Below n₀ A B) : Below n₀ A B.drew := h.drew
theorem grown_drew (W : World) : W.grownBy W.drew none := ⟨rfl, rfl, rfl, Nat.le_refl _, fun _ _ _ => rfl⟩
section
open Go.Shelf
attribute [local go_sem] Oper.semAt_some
set_option maxRecDepth 100000 in
set_option maxHeartbeats 2000000 in
theorem visit_in (l N : Nat) (w0 : World) (B : Nat) (J Jx : List (AB w0) → World → Prop) (hJ : AbidesFrom B J)
    (hY : ∀ m pre x W, J pre W → pre.length < N → YieldAt Fence.wide m Try.prog l (encB x) W fun e W' =>
      (e = .returned (.bool true) ∧ J (pre ++ [x]) W' ∧ Below w0.heap.size W W') ∨ (e = .returned (.bool false) ∧ Jx (pre ++ [x]) W')) :
    ∀ (s : Nat) (x : S28), SizeOf.sizeOf x ≤ s → ∀ (n : Nat) (p : Addr) (X Y : Int) (pre : List (AB w0)) (W : World), BoxHere w0 p x → Below w0.heap.size w0 W → J pre W → pre.length + (flatV x X Y).length ≤ N →
      CallsIn Fence.wide n Try.prog 69 #[.pointer (some p), .int .i64 X, .int .i64 Y, .func (.yield l) #[] #[]] W fun e W' =>
        (e = .returned (.bool true) ∧ (∃ ys, ys.map prj = flatV x X Y ∧ J (pre ++ ys) W') ∧ Below w0.heap.size W W') ∨ (e = .returned (.bool false) ∧ ∃ q, q.map prj <+: flatV x X Y ∧ Jx (pre ++ q) W') := by
  intro s
  induction s with
  | zero => intro x hx; exfalso; cases x; simp at hx
  | succ s ih =>
    intro x hxs n p X Y pre W hb hBW hJ0 hN
    have hu := Try.underlying28
    have hb0 := hb
    obtain ⟨A8, c8, A10, c10, HA⟩ := hb0
    have HA0 := Lib.hid HA
    have hm : x.f8.length ≤ 9223372036854775807 := HA.2.2.2.2.2.2.2.2.2.2.2.2.1.2.1
    have hflat := flatV_eq x X Y
    have hy0 := hY (n - 1) pre ⟨(p, x, X, Y), hb⟩ W hJ0 (by rw [hflat] at hN; simp at hN; omega)
    obtain ⟨fn, tmps, assign, body, hy, hR⟩ := hy0
    dsimp only [encB] at hy
    clear HA
    have HN := Lib.hid hN
    clear hN
    refine callsIn_of_wp Try.func69 rfl trivial ?_ rfl
    simp only [Try.ntmps69, List.size_toArray, List.length_cons, List.length_nil, Nat.reduceAdd, Nat.reduceSub, Array.replicate_succ, Array.replicate_zero, List.push_toArray, List.append_toArray, List.nil_append, List.cons_append]
    gi_wp2
    refine ⟨fun h => (by cases h), ?_⟩
    refine hR.mono ?_
    rintro e W1 (⟨rfl, hJ1, hk1⟩ | ⟨rfl, hJx1⟩)
    · have hBW1 : Below w0.heap.size w0 W1 := hBW.trans hk1
      have q8 := (HA0.out.below hBW1).2.2.2.2.2.2.2.2.1
      have HJ1 := Aside0.mk hJ1
      have HB1 := Aside0.mk hBW1
      have HK1 := Aside0.mk hk1
      clear hJ1 hBW1 hk1
      gi_wp2
      gi_loopw [23] (fun i wr => ∃ k : Nat, k ≤ x.f8.length ∧ i = .int .i64 k ∧ Aside0 (∃ ys, ys.map prj = (x, X, Y) :: kidsV (x.f8.take k) X Y ∧ J (pre ++ ys) wr) ∧ Aside0 (Below w0.heap.size W wr)) (fun i _ => x.f8.length - (intOf i).toNat)
      case atStart => exact ⟨0, Nat.zero_le _, rfl, ⟨[⟨(p, x, X, Y), hb⟩], by simp [prj, kidsV], HJ1.out⟩, HK1⟩
      case round =>
        obtain ⟨k, hk, rfl, HYS, HBr⟩ := hrel
        have HBr0 := Lib.hid (hBW.trans HBr.out)
        have q8 := (HA0.out.below HBr0.out).2.2.2.2.2.2.2.2.1
        by_cases hlt : k < x.f8.length
        · obtain ⟨ad, e, HKK⟩ := kid_at HA0.out.2.2.2.2.2.2.2.2.2.2.2.2.1 k hlt
          subst e
          have HKK0 := HKK
          obtain ⟨a8, b8, a10, b10, HKA⟩ := HKK
          obtain ⟨-, -, -, -, -, -, g6, g7, -, -, -, -, -, -, -⟩ := HKA.below HBr0.out
          clear HKA
          gi_wp2
          have hmx : Try.prog.follows .mixedOrders = true := by kernel_rfl
          refine wpIn_region_K (fun i => decide (14 ≤ i)) (fun w' => w'.cell? ⟨(ad.add (k * 11)).block, (ad.add (k * 11)).off + 6, none⟩ = some (.int .i64 x.f8[k].f6) ∧ w'.cell? ⟨(ad.add (k * 11)).block, (ad.add (k * 11)).off + 7, none⟩ = some (.int .i64 x.f8[k].f7)) hmx ?_
          have hSS : wr.drew.cell? ⟨(ad.add (k * 11)).block, (ad.add (k * 11)).off + 6, none⟩ = some (.int .i64 x.f8[k].f6) ∧ wr.drew.cell? ⟨(ad.add (k * 11)).block, (ad.add (k * 11)).off + 7, none⟩ = some (.int .i64 x.f8[k].f7) := ⟨(cell_drew_own _ _).trans g6, (cell_drew_own _ _).trans g7⟩
          refine wpAnyK_take (i := 0) (by kernel_rfl) rfl (by kernel_rfl) (by kernel_rfl) (by kernel_rfl) (by kernel_rfl) (by kernel_rfl) (fun _ _ _ h => h) hSS (fun _ => rfl) rfl (by intro w' s1; simp [go_sem]; rfl) ?_
          simp only [Act.put, List.getElem_toArray, List.getElem_cons_zero, List.getElem_cons_succ, List.setIfInBounds_toArray, List.set_cons_zero, List.set_cons_succ]
          refine wpAnyK_take (i := 1) (by kernel_rfl) rfl (by kernel_rfl) (by kernel_rfl) (by kernel_rfl) (by kernel_rfl) (by kernel_rfl) (fun _ _ _ h => h) hSS (fun _ => rfl) rfl (by intro w' s1; simp [go_sem]; rfl) ?_
          simp only [Act.put, List.getElem_toArray, List.getElem_cons_zero, List.getElem_cons_succ, List.setIfInBounds_toArray, List.set_cons_zero, List.set_cons_succ]
          refine wpAnyK_take (i := 2) (by kernel_rfl) rfl (by kernel_rfl) (by kernel_rfl) (by kernel_rfl) (by kernel_rfl) (by kernel_rfl) (fun _ _ _ h => h) hSS (fun _ => rfl) rfl (by intro w' s1; simp [go_sem]; rfl) ?_
          simp only [Act.put, List.getElem_toArray, List.getElem_cons_zero, List.getElem_cons_succ, List.setIfInBounds_toArray, List.set_cons_zero, List.set_cons_succ]
          refine wpAnyK_take (i := 3) (by kernel_rfl) rfl (by kernel_rfl) (by kernel_rfl) (by kernel_rfl) (by kernel_rfl) (by kernel_rfl) (fun _ _ _ h => h) hSS (fun _ => rfl) rfl (by intro w' s1; simp [go_sem]; rfl) ?_
          simp only [Act.put, List.getElem_toArray, List.getElem_cons_zero, List.getElem_cons_succ, List.setIfInBounds_toArray, List.set_cons_zero, List.set_cons_succ]
          refine wpAnyK_take (i := 4) (by kernel_rfl) rfl (by kernel_rfl) (by kernel_rfl) (by kernel_rfl) (by kernel_rfl) (by kernel_rfl) (fun _ _ _ h => h) hSS (fun _ => rfl) rfl (by intro w' s1; simp [go_sem, hu]; rfl) ?_
          simp only [Act.put, List.getElem_toArray, List.getElem_cons_zero, List.getElem_cons_succ, List.setIfInBounds_toArray, List.set_cons_zero, List.set_cons_succ]
          refine wpAnyK_take (i := 5) (by kernel_rfl) rfl (by kernel_rfl) (by kernel_rfl) (by kernel_rfl) (by kernel_rfl) (by kernel_rfl) (fun _ _ _ h => h) hSS (fun _ => rfl) rfl (by intro w' s1; simp [go_sem, s1.1]; rfl) ?_
          simp only [Act.put, List.getElem_toArray, List.getElem_cons_zero, List.getElem_cons_succ, List.setIfInBounds_toArray, List.set_cons_zero, List.set_cons_succ]
          refine wpAnyK_take (i := 6) (v := (.int .i64 (wrap64 (X + x.f8[k].f6)))) (by kernel_rfl) rfl (by kernel_rfl) (by kernel_rfl) (by kernel_rfl) (by kernel_rfl) (by kernel_rfl) (fun _ _ _ h => h) hSS (fun _ => rfl) rfl (by intro w' s1; simp [go_sem, IntKind.wrap_i64, wrap64]) ?_
          simp only [Act.put, List.getElem_toArray, List.getElem_cons_zero, List.getElem_cons_succ, List.setIfInBounds_toArray, List.set_cons_zero, List.set_cons_succ]
          refine wpAnyK_take (i := 7) (by kernel_rfl) rfl (by kernel_rfl) (by kernel_rfl) (by kernel_rfl) (by kernel_rfl) (by kernel_rfl) (fun _ _ _ h => h) hSS (fun _ => rfl) rfl (by intro w' s1; simp [go_sem]; rfl) ?_
          simp only [Act.put, List.getElem_toArray, List.getElem_cons_zero, List.getElem_cons_succ, List.setIfInBounds_toArray, List.set_cons_zero, List.set_cons_succ]
          refine wpAnyK_take (i := 8) (by kernel_rfl) rfl (by kernel_rfl) (by kernel_rfl) (by kernel_rfl) (by kernel_rfl) (by kernel_rfl) (fun _ _ _ h => h) hSS (fun _ => rfl) rfl (by intro w' s1; simp [go_sem]; rfl) ?_
          simp only [Act.put, List.getElem_toArray, List.getElem_cons_zero, List.getElem_cons_succ, List.setIfInBounds_toArray, List.set_cons_zero, List.set_cons_succ]
          refine wpAnyK_take (i := 9) (by kernel_rfl) rfl (by kernel_rfl) (by kernel_rfl) (by kernel_rfl) (by kernel_rfl) (by kernel_rfl) (fun _ _ _ h => h) hSS (fun _ => rfl) rfl (by intro w' s1; simp [go_sem]; rfl) ?_
          simp only [Act.put, List.getElem_toArray, List.getElem_cons_zero, List.getElem_cons_succ, List.setIfInBounds_toArray, List.set_cons_zero, List.set_cons_succ]
          refine wpAnyK_take (i := 10) (by kernel_rfl) rfl (by kernel_rfl) (by kernel_rfl) (by kernel_rfl) (by kernel_rfl) (by kernel_rfl) (fun _ _ _ h => h) hSS (fun _ => rfl) rfl (by intro w' s1; simp [go_sem, hu]; rfl) ?_
          simp only [Act.put, List.getElem_toArray, List.getElem_cons_zero, List.getElem_cons_succ, List.setIfInBounds_toArray, List.set_cons_zero, List.set_cons_succ]
          refine wpAnyK_take (i := 11) (by kernel_rfl) rfl (by kernel_rfl) (by kernel_rfl) (by kernel_rfl) (by kernel_rfl) (by kernel_rfl) (fun _ _ _ h => h) hSS (fun _ => rfl) rfl (by intro w' s1; simp [go_sem, s1.2]; rfl) ?_
          simp only [Act.put, List.getElem_toArray, List.getElem_cons_zero, List.getElem_cons_succ, List.setIfInBounds_toArray, List.set_cons_zero, List.set_cons_succ]
          refine wpAnyK_take (i := 12) (v := (.int .i64 (wrap64 (Y + x.f8[k].f7)))) (by kernel_rfl) rfl (by kernel_rfl) (by kernel_rfl) (by kernel_rfl) (by kernel_rfl) (by kernel_rfl) (fun _ _ _ h => h) hSS (fun _ => rfl) rfl (by intro w' s1; simp [go_sem, IntKind.wrap_i64, wrap64]) ?_
          simp only [Act.put, List.getElem_toArray, List.getElem_cons_zero, List.getElem_cons_succ, List.setIfInBounds_toArray, List.set_cons_zero, List.set_cons_succ]
          refine wpAnyK_take (i := 13) (by kernel_rfl) rfl (by kernel_rfl) (by kernel_rfl) (by kernel_rfl) (by kernel_rfl) (by kernel_rfl) (fun _ _ _ h => h) hSS (fun _ => rfl) rfl (by intro w' s1; simp [go_sem]; rfl) ?_
          simp only [Act.put, List.getElem_toArray, List.getElem_cons_zero, List.getElem_cons_succ, List.setIfInBounds_toArray, List.set_cons_zero, List.set_cons_succ]
          refine wpAnyK_only (i := 14) rfl (by kernel_rfl) rfl ?_
          intro K hK
          simp only [List.getElem_toArray, List.getElem_cons_zero, List.getElem_cons_succ]
          have HK := Lib.hid hK
          clear hK
          go_simp
          refine ⟨trivial, fun h => (by cases h), ?_⟩
          obtain ⟨ys, hys, hj⟩ := HYS.out
          have hsucc := kidsV_succ x.f8 X Y k hlt
          have hle := kidsV_le x.f8 X Y (k + 1)
          have hlen : ys.length = 1 + (kidsV (x.f8.take k) X Y).length := by
            have := congrArg List.length hys
            simp at this
            omega
          have hN' := HN.out
          rw [hflat] at hN'
          have hks := kid_size x k hlt
          refine (ih x.f8[k] (by omega) (n - 1) (ad.add (k * 11)) _ _ (pre ++ ys) wr.drew HKK0 (pw_below_drew0 HBr0.out) (hJ _ _ _ none hj (grown_drew wr) (fun _ e => by cases e)) (by
            rw [hsucc, List.length_append] at hle
            simp at hN' ⊢
            omega)).mono ?_
          rintro e W9 (⟨rfl, ⟨zs, hzs, hj9⟩, hb9⟩ | ⟨rfl, q, hq, hjx⟩)
          · refine HK.out _ _ (fun h => by cases h) ?_
            refine wpAnyK_only (i := 15) rfl (by kernel_rfl) rfl ?_
            intro K2 hK2
            simp only [List.getElem_toArray, List.getElem_cons_zero, List.getElem_cons_succ]
            have HK2 := Lib.hid hK2
            clear hK2
            go_simp
            refine HK2.out _ _ (fun h => by cases h) (wpAnyK_done (by kernel_rfl) ?_ _)
            have HB9 := Aside0.mk hb9
            have HZ := Lib.hid hzs
            have HJ9 := Lib.hid hj9
            clear hb9 hzs hj9
            gi_wp2
            go_roundw
            case rel =>
              refine ⟨k + 1, by omega, by go_num, ⟨ys ++ zs, ?_, by rw [← List.append_assoc]; exact HJ9.out⟩, ⟨(HBr.out.drew).trans HB9.out⟩⟩
              rw [List.map_append, hys, HZ.out, hsucc]
              rfl
            case measure => simp [intOf]; omega
          · refine HK.out _ _ (fun h => by cases h) ?_
            refine wpAnyK_only (i := 15) rfl (by kernel_rfl) rfl ?_
            intro K2 hK2
            simp only [List.getElem_toArray, List.getElem_cons_zero, List.getElem_cons_succ]
            have HK2 := Lib.hid hK2
            clear hK2
            go_simp
            refine HK2.out _ _ (fun h => by cases h) (wpAnyK_done (by kernel_rfl) ?_ _)
            have HQ := Lib.hid hq
            have HJX := Lib.hid hjx
            clear hq hjx
            gi_wp2
            go_ret
            refine .inr ⟨rfl, ys ++ q, ?_, by rw [← List.append_assoc]; exact HJX.out⟩
            obtain ⟨r, hr⟩ := HQ.out
            have e2 : kidsV x.f8 X Y = kidsV (x.f8.take (k + 1)) X Y ++ kidsV (x.f8.drop (k + 1)) X Y := by
              unfold kidsV
              rw [← List.flatMap_append, List.take_append_drop]
            refine ⟨r ++ kidsV (x.f8.drop (k + 1)) X Y, ?_⟩
            rw [List.map_append, hys, hflat, e2, hsucc, ← hr]
            simp
        · obtain rfl : k = x.f8.length := by omega
          gi_wp2
          go_ret
          obtain ⟨ys, hys, hj⟩ := HYS.out
          refine .inl ⟨rfl, ⟨ys, ?_, hj⟩, HBr.out⟩
          rw [hys, hflat, List.take_length]
    · gi_wp2
      go_ret
      exact .inr ⟨rfl, _, by rw [hflat]; simp [prj], hJx1⟩
end

end Go.Proofs.Ytnnhhkjcjkinpaa.P
