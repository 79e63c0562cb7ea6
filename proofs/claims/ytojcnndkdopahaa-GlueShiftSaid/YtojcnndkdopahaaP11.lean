/- Written by wip/tool/hprint.py (the kit's print.py with hand-proved contracts set in): contracts of the functions that the statements of this seat reach, without conditions beyond those named in each theorem. -/
import Derived.Test.YtojcnndkdopahaaP0
import Derived.Test.YtojcnndkdopahaaP6
import Derived.Test.YtojcnndkdopahaaP9
import Derived.RangeFuncNested
import Derived.RangeFuncBound
import Derived.RangeFuncCalls
import Derived.RangeFuncLeaves
import Derived.RangeFuncBox
import Derived.Shelf.Abstract
import Derived.Shelf.RegionOpen
import Derived.WalkKit
import Derived.OwnWalkIn
import Derived.TacticsInMore
import Derived.LoopNIn
import Derived.LoopIn
import Derived.Lib.Hide
namespace Go.Proofs.Ytojcnndkdopahaa.P
open Go.RowKit Go.Proofs.YtojcnndkdopahaaW.PrintWords Go.Proofs.YtojcnndkdopahaaW.PrintLast Go.Proofs.YtojcnndkdopahaaW.PrintMore
attribute [local go_sem] max2_int min2_int max_two min_two max_three min_three max_four min_four   -- for this text's walks alone
set_option linter.unusedVariables false
set_option linter.unusedSimpArgs false

-- IMPORTS: Derived.RangeFuncNested Derived.RangeFuncBound Derived.RangeFuncCalls Derived.RangeFuncLeaves Derived.RangeFuncBox Derived.Shelf.Abstract Derived.Shelf.RegionOpen Derived.WalkKit Derived.OwnWalkIn Derived.TacticsInMore Derived.LoopNIn Derived.LoopIn Derived.Lib.Hide
section
open Go.Shelf
attribute [local go_sem] Oper.semAt_some

def glue_Shrink.f (k : Nat) (l0 : List (S36)) : Option (Int) := (glue_Valid.f k l0).bind fun v => some (if v then sumG (gUp pShr l0 l0.length) else 0)
theorem glue_Shrink.mono : ∀ a0 k, LeO (glue_Shrink.f k a0) (glue_Shrink.f (k + 1) a0) := fun a0 k => LeO.bind (glue_Valid.mono a0 k) (fun _ => LeO.refl _)
set_option maxHeartbeats 1000000 in
theorem glue_Shrink.calls (k : Nat) (A0 : Option Addr) (c0 : Nat) (l0 : List (S36)) (r : Int) (w : World) (hr0 : Kd.C k36 w A0 l0.length l0) (hc0 : l0.length ≤ c0) (h : glue_Shrink.f k l0 = some r) :
    Calls Try.prog 20 #[.slice A0 l0.length c0] w fun e w' => e = .returned (.int .i64 r) ∧ Below w.heap.size w w' := by
  obtain ⟨b, hv, h⟩ := Option.bind_eq_some_iff.mp h
  obtain rfl := Option.some.inj h
  have HV := Lib.hid (glue_Valid.calls k A0 c0 l0 b w hr0 hc0 hv)
  have HR := Lib.hid hr0
  clear hv h hr0
  refine (callsIn_wide (n := 9)).1 ?_
  refine callsIn_of_wp Try.func20 rfl trivial ?_ rfl
  simp only [Try.ntmps20, List.size_toArray, List.length_cons, List.length_nil, Nat.reduceAdd, Nat.reduceSub, Array.replicate_succ, Array.replicate_zero, List.push_toArray, List.append_toArray, List.nil_append, List.cons_append]
  cases b with
  | false =>
    gi_wp2_with (refine ⟨trivial, ?_⟩; gi_at_call 14; refine (callsIn_wide.2 HV.out).mono ?_; rintro e w1 ⟨rfl, hb1⟩)
    go_ret
    exact ⟨rfl, hb1⟩
  | true =>
    gi_wp2_with (first | (refine ⟨trivial, ?_⟩; gi_at_call 14; refine (callsIn_wide.2 HV.out).mono ?_; rintro e w1 ⟨rfl, hb1⟩; have HC := Lib.hid (Kd.C_below HR.out hb1)) | (refine ⟨trivial, ?_⟩; gi_at_call 37; refine (shrinking_in Fence.wide _ trivial rfl _ _ _ _).mono ?_; rintro e w2 ⟨rfl, rfl⟩) | (refine ⟨trivial, ?_⟩; gi_at_call 35; refine (sumShr_wide _ (by omega) _ _ _ _ HC.out).mono ?_; rintro e w3 ⟨rfl, hb3⟩))
    go_ret
    exact ⟨rfl, hb1.trans (hb3.mono hb1.size)⟩
end

end Go.Proofs.Ytojcnndkdopahaa.P
