--m
/- Written by wip/tool/hprint.py (the kit's print.py with hand-proved contracts set in): contracts of the functions that the statements of this seat reach, without conditions beyond those named in each theorem. -/
import Derived.Test.YtoieknocpphjoaaDoorP0
namespace Go.Proofs.YtoieknocpphjoaaDoor.P
open Go.RowKit Go.Proofs.YtoieknocpphjoaaDoorW.PrintWords Go.Proofs.YtoieknocpphjoaaDoorW.PrintLast Go.Proofs.YtoieknocpphjoaaDoorW.PrintMore
attribute [local go_sem] zay zaz zaA zaB zaC zaD zaE zaF   -- for this text's walks alone
set_option linter.unusedVariables false
set_option linter.unusedSimpArgs false

-- IMPORTS:

def vinculumlaw02_is.f (a0_0 : Int) (a0_1 : Int) (a1 : Int) (a2_0 : Int) (a2_1 : Int) (a3 : Int) : Option (Bool) := if (a0_0 == a2_0 && (a0_1 == a2_1)) = true then (some (a1 == a3)) else (some false)
theorem vinculumlaw02_is.calls (a0_0 : Int) (a0_1 : Int) (a1 : Int) (a2_0 : Int) (a2_1 : Int) (a3 : Int) (r : Bool) (w : World) (h : vinculumlaw02_is.f a0_0 a0_1 a1 a2_0 a2_1 a3 = some r) :
  Calls Tryd.prog 15 #[.agg #[.int .i64 a0_0, .int .i64 a0_1], .int .i64 a1, .agg #[.int .i64 a2_0, .int .i64 a2_1], .int .i64 a3] w fun e w' => e = .returned (.bool r) ∧ Below w.heap.size w w' := by
 have hu := Tryd.underlying24
 have hu2 := Tryd.underlying28
 unfold vinculumlaw02_is.f at h
 by_cases c0 : a0_0 = a2_0
 ·have e0 : (a0_0 == a2_0) = true := beq_iff_eq.mpr c0
  by_cases c1 : a0_1 = a2_1
  ·have e1 : (a0_1 == a2_1) = true := beq_iff_eq.mpr c1
   rw [if_pos (by rw [e0, e1]; rfl)] at h
   obtain rfl := Option.some.inj h
   subst c0 c1
   clear h e0 e1
   go_enter Tryd.func15, Tryd.ntmps15
   go_wp2
   go_ret
   exact ⟨rfl, by repeat (first | exact Below.refl _ _ | apply zaf)⟩
  ·have e1 : (a0_1 == a2_1) = false := beq_eq_false_iff_ne.mpr c1
   rw [if_neg (by rw [e0, e1]; decide)] at h
   obtain rfl := Option.some.inj h
   subst c0
   clear h e0
   go_enter Tryd.func15, Tryd.ntmps15
   go_wp2
   go_ret
   exact ⟨rfl, by repeat (first | exact Below.refl _ _ | apply zaf)⟩
 ·have e0 : (a0_0 == a2_0) = false := beq_eq_false_iff_ne.mpr c0
  rw [if_neg (by rw [e0]; simp)] at h
  obtain rfl := Option.some.inj h
  clear h
  go_enter Tryd.func15, Tryd.ntmps15
  go_wp2
  go_ret
  exact ⟨rfl, by repeat (first | exact Below.refl _ _ | apply zaf)⟩

end Go.Proofs.YtoieknocpphjoaaDoor.P
