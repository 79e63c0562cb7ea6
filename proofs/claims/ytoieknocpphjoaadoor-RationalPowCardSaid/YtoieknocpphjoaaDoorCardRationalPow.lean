/- The tied card of RationalPow. -/
import Derived.Test.YtoieknocpphjoaaDoorRowRationalPow
import Derived.Test.YtoieknocpphjoaaDoorCards
import Derived.Test.YtoieknocpphjoaaDoorTie
import Derived.SevenTiedAt
namespace Go.Proofs.YtoieknocpphjoaaDoor
open Go
theorem rationalPow_card_holds : Rows.RationalPowCardSaid :=
  Claim7.holds_tied_plain_at .later [] [.data, .data, .data] true (true, "8e439822a085847e643ae0f26342016b3a6a22357f7c37c219cf1c95c0f9c33c") false
    rationalPow_holds (fun _ h => by cases h) (by kernel_rfl) (fun _ h => by cases h) rationalPow_row_tie rfl ⟨rfl, rfl⟩ (by kernel_rfl) rfl
    (fun f fn hf hfn => by
      obtain rfl : f = 8 := Option.some.inj ((show Tryd.prog.funcNamed "vinculum/vinculumlaw02.RationalPow" = some 8 by kernel_rfl).symm.trans hf) |>.symm
      obtain rfl : fn = Tryd.f8 := (Option.some.inj (Tryd.func8.symm.trans hfn)).symm
      exact ⟨by kernel_rfl, fun j t ht => by
        rw [Tryd.params8] at ht
        have hm : t ∈ [28, 3] := by simpa using Array.mem_of_getElem? ht
        have hall : ([28, 3].all fun u => !Tryd.prog.wantsStandIn u) = true := by kernel_rfl
        exact (show Tryd.prog.wantsStandIn t = false by simpa using List.all_eq_true.1 hall t hm)⟩)
    (by kernel_rfl)
#print axioms rationalPow_card_holds
end Go.Proofs.YtoieknocpphjoaaDoor
