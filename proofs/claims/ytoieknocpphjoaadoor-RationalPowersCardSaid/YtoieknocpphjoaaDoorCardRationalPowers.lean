/- The tied card of RationalPowers. -/
import Derived.Test.YtoieknocpphjoaaDoorRowRationalPowers
import Derived.Test.YtoieknocpphjoaaDoorCards
import Derived.Test.YtoieknocpphjoaaDoorTie
import Derived.SevenTiedAt
namespace Go.Proofs.YtoieknocpphjoaaDoor
open Go
theorem rationalPowers_card_holds : Rows.RationalPowersCardSaid :=
  Claim7.holds_tied_plain_at .later [] [.data, .data, .data] true (true, "8e439822a085847e643ae0f26342016b3a6a22357f7c37c219cf1c95c0f9c33c") false
    rationalPowers_holds (fun _ h => by cases h) (by kernel_rfl) (fun _ h => by cases h) rationalPowers_row_tie rfl ⟨rfl, rfl⟩ (by kernel_rfl) rfl
    (fun f fn hf hfn => by
      obtain rfl : f = 11 := Option.some.inj ((show Tryd.prog.funcNamed "vinculum/vinculumlaw02.RationalPowers" = some 11 by kernel_rfl).symm.trans hf) |>.symm
      obtain rfl : fn = Tryd.f11 := (Option.some.inj (Tryd.func11.symm.trans hfn)).symm
      exact ⟨by kernel_rfl, fun j t ht => by
        rw [Tryd.params11] at ht
        have hm : t ∈ [63, 62, 62] := by simpa using Array.mem_of_getElem? ht
        have hall : ([63, 62, 62].all fun u => !Tryd.prog.wantsStandIn u) = true := by kernel_rfl
        exact (show Tryd.prog.wantsStandIn t = false by simpa using List.all_eq_true.1 hall t hm)⟩)
    (by kernel_rfl)
#print axioms rationalPowers_card_holds
end Go.Proofs.YtoieknocpphjoaaDoor
