--m
/- Written by wip/tool/hprint.py (the kit's print.py with hand-proved contracts set in): contracts of the functions that the statements of this seat reach, without conditions beyond those named in each theorem. -/
import Derived.Test.YtoieknocpphjoaaDoorP0
import Derived.Test.YtoieknocpphjoaaDoorShelf
import Derived.Lib.AppendIntMem
import Derived.Lib.SmallJoins
namespace Go.Proofs.YtoieknocpphjoaaDoor.P
open Go.RowKit Go.Proofs.YtoieknocpphjoaaDoorW.PrintWords Go.Proofs.YtoieknocpphjoaaDoorW.PrintLast Go.Proofs.YtoieknocpphjoaaDoorW.PrintMore
attribute [local go_sem] zay zaz zaA zaB zaC zaD zaE zaF   -- for this text's walks alone
set_option linter.unusedVariables false
set_option linter.unusedSimpArgs false

-- IMPORTS:
-- IMPORTS: Derived.Test.YtoieknocpphjoaaDoorShelf Derived.Lib.AppendIntMem Derived.Lib.SmallJoins
def TB (w : World) : Prop := Lib.TabIs Tryd.prog w "internal/strconv.uint64pow10" .u64 Lib.pow10Tab
theorem TB.stays {w : World} (h : TB w) : ∀ W, Below w.heap.size w W → TB W := Lib.tabBelow_of_tabIs h
def strconv_Itoa_45.f (a0 : Int) : Option (ByteArray) := if -9223372036854775808 ≤ a0 ∧ a0 ≤ 9223372036854775807 then some ⟨(Lib.itoa a0).toArray⟩ else none
theorem strconv_Itoa_45.calls (a0 : Int) (r : ByteArray) (w : World) (htab : TB w) (h : strconv_Itoa_45.f a0 = some r) :
  Calls Tryd.prog 45 #[.int .i64 a0] w fun e w' => e = .returned (.string r) ∧ Below w.heap.size w w' := by
 unfold strconv_Itoa_45.f at h
 by_cases hc : -9223372036854775808 ≤ a0 ∧ a0 ≤ 9223372036854775807
 ·rw [if_pos hc] at h
  obtain rfl := Option.some.inj h
  refine (Tryd.strconv_Itoa a0 hc.1 hc.2 w htab).mono ?_
  rintro e w' ⟨rfl, k, os, rfl⟩
  exact ⟨rfl, Lib.below_grow _ _ (Nat.le_refl _) _ _⟩
 ·rw [if_neg hc] at h
  exact absurd h (by simp)

end Go.Proofs.YtoieknocpphjoaaDoor.P
