/- The tied card of RationalDecimal. -/
import Derived.Test.YtoieknocpphjoaaDoorRowRationalDecimal
import Derived.Test.YtoieknocpphjoaaDoorCards
import Derived.Test.YtoieknocpphjoaaDoorTie
import Derived.SevenTiedAt
namespace Go.Proofs.YtoieknocpphjoaaDoor
open Go
theorem rationalDecimal_card_holds : Rows.RationalDecimalCardSaid :=
  Claim7.holds_tied_plain_at .later [] [.data, .data, .data] true (true, "8e439822a085847e643ae0f26342016b3a6a22357f7c37c219cf1c95c0f9c33c") false
    rationalDecimal_holds (fun _ h => by cases h) (by kernel_rfl) (fun _ h => by cases h) rationalDecimal_row_tie rfl ⟨rfl, rfl⟩ (by kernel_rfl) rfl
    (fun f fn hf hfn => by
      obtain rfl : f = 10 := Option.some.inj ((show Tryd.prog.funcNamed "vinculum/vinculumlaw02.RationalDecimal" = some 10 by kernel_rfl).symm.trans hf) |>.symm
      obtain rfl : fn = Tryd.f10 := (Option.some.inj (Tryd.func10.symm.trans hfn)).symm
      exact ⟨by kernel_rfl, fun j t ht => by
        rw [Tryd.params10] at ht
        have hm : t ∈ [60, 60, 5] := by simpa using Array.mem_of_getElem? ht
        have hall : ([60, 60, 5].all fun u => !Tryd.prog.wantsStandIn u) = true := by kernel_rfl
        exact (show Tryd.prog.wantsStandIn t = false by simpa using List.all_eq_true.1 hall t hm)⟩)
    (by kernel_rfl)
#print axioms rationalDecimal_card_holds
end Go.Proofs.YtoieknocpphjoaaDoor
