--m
/- The law RationalDecimal: for every input that can be read, the call returns true and leaves its arguments as they were. No condition. -/
import Derived.LaidMore
import Derived.Stop.Joined
import Derived.Stop.LaidErr
import Derived.Lib.LaidTab
import Derived.Handed
import Derived.LaidHandle
import Derived.MakeChecks
import Derived.LaidLaws
import Derived.Test.YtoieknocpphjoaaDoorRows
import Derived.Test.YtoieknocpphjoaaDoorPureRationalDecimal
import Derived.WalkKit
import Derived.ProofKit
import Derived.OpenShut
import Derived.ShutString
import Derived.ChangeOld
import Derived.Below
import Derived.SizedLaws
import Derived.ChangeShapes
namespace Go.Proofs.YtoieknocpphjoaaDoor.rationalDecimal
open Go.RowKit Go.Proofs.YtoieknocpphjoaaDoor.P Go.Proofs.YtoieknocpphjoaaDoorW.PrintWords Go.Proofs.YtoieknocpphjoaaDoorW.PrintLast Go.Proofs.YtoieknocpphjoaaDoorW.PrintMore
open Go.ChangeShapes Go.WideShapes Go.ChangeAt
open Go.ChangeMaps (open_string shut_string)
set_option linter.unusedVariables false
theorem own : ownKnob Tryd.prog.godebug = none := by kernel_rfl
/-- What the row lists of the program's variables. -/
abbrev LD : List (String × DataW Unit) := (Rows.rationalDecimalRow).laid
theorem door_met (os : Os) (args : Array Value) : laidMetH Tryd.prog LD ((World.doorLaid Tryd.prog 400 os).forCall (fun _ _ => 0) ⟨#[], args, []⟩).memory :=
 laidMetH_of_parts3 (fuel := 8) (laidMet_of_run' 8 (by kernel_rfl) (by kernel_rfl)) (by kernel_rfl) (by kernel_rfl)
theorem tb_of {W : World} (h : laidMetH Tryd.prog LD W) : TB W := by
 rw [MakeChecks.laidMetH_plain _ _ _ (by kernel_rfl)] at h
 exact Lib.tabIs_of_head (show Tryd.prog.globalNamed "internal/strconv.uint64pow10" = some 0 by kernel_rfl) (show (Tryd.prog.globals[0]?).map (·.type) = some 96 by kernel_rfl) Tryd.underlying96 Tryd.underlying65 (by kernel_rfl) (by kernel_rfl) h.tail.tail
set_option maxRecDepth 100000 in
set_option maxHeartbeats 2000000 in
theorem lifted (os : Os) (started : os.Started) (H : Type) (enc : TypeId × Value → H) :
  ReturnsInHanded {} Tryd.checked os 10 .any (fun w args => (Rows.rationalDecimalSpec.pre enc Tryd.prog Tryd.f10 [] false w args ∧ laidMetH Tryd.prog LD w) ∧ sizedMet enc Tryd.prog Tryd.f10 (OpenSpec.ofChange Rows.rationalDecimalSpec) false w args) (Rows.rationalDecimalSpec.post enc Tryd.prog Tryd.f10 false true false false) := by
 refine returnsInHanded_of_change_and (C := Tryd.checked) (X := fun w _ => laidMetH Tryd.prog LD w) (fun _ _ _ hh h => h.of_heap hh) own started (by kernel_rfl) Tryd.func10
  (ChangeSpec.witness_shaped (enc := enc) (C := Tryd.checked) (os := os) (X := fun w _ => laidMetH Tryd.prog LD w) false (World.doorLaid Tryd.prog 400 os) #[.int .u16 0, .int .u16 0, .int .u8 0] 8 rfl (World.shaped_of_RefB (by kernel_rfl) (by kernel_rfl)) (by kernel_rfl) (by kernel_rfl) (by kernel_rfl) (door_met os _)) ?_
 intro W base args ds gs before hval0 hW hcnd hsz0 hL _
 have hsz : (DataW.weightsEach Tryd.prog (Tryd.f10.params.toList ++ Rows.rationalDecimalSpec.plain.varTypes Tryd.prog) (ds ++ gs)).all (· ≤ reachBytes) = true := hsz0
 have hval : ∀ (j : Nat) t v, Tryd.f10.params[j]? = some t → args[j]? = some v → Value.okWide Tryd.prog W .any base t v := hval0
 have hW' := hW
 obtain ⟨p, q, hA0, hV, rfl, hfz, hnd⟩ := hW
 have hA : DataW.TrodAll enc Tryd.prog W 0 (fun _ => true) true Tryd.f10.params.toList args.toList ds p := hA0
 rw [Tryd.params10] at hA hval hsz
 obtain ⟨v0, vs0, d0, ds0, p0, q0, hargs, rfl, rfl, h0, r0⟩ := trodAll_cons hA
 obtain ⟨v1, vs1, d1, ds1, p1, q1, rfl, rfl, rfl, h1, r1⟩ := trodAll_cons r0
 obtain ⟨v2, vs2, d2, ds2, p2, q2, rfl, rfl, rfl, h2, r2⟩ := trodAll_cons r1
 obtain ⟨rfl, rfl, rfl⟩ := trodAll_nil r2
 obtain rfl : args = #[v0, v1, v2] := by cases args; simp_all
 obtain ⟨rfl, rfl⟩ := trodVars_none hV
 obtain ⟨a0, rfl, rfl, rfl, w0⟩ := open_int Tryd.underlying60 (hval 0 60 v0 rfl rfl) h0
 obtain ⟨a1, rfl, rfl, rfl, w1⟩ := open_int Tryd.underlying60 (hval 1 60 v1 rfl rfl) h1
 obtain ⟨a2, rfl, rfl, rfl, w2⟩ := open_int Tryd.underlying5 (hval 2 5 v2 rfl rfl) h2
 clear hA0 hval0 hsz0 hsz
 obtain ⟨k, hk⟩ := (RationalDecimal.pure a0 a1 a2 w0 w1 w2)
 refine (vinculumlaw02_RationalDecimal.calls k a0 a1 a2 true W (tb_of hL) hk).mono fun e W' ⟨he, bel0⟩ => ?_
 have bel := bel0
 subst he
 exact ⟨_, rfl, _, _, _, [], _, [], hW', trodAll_mk1 (shut_bool Tryd.underlying4 _), (trodAll_cons_mk (shut_int Tryd.underlying60 w0) (trodAll_cons_mk (shut_int Tryd.underlying60 w1) (trodAll_cons_mk (shut_int Tryd.underlying5 w2) trodAll_mk0))), rfl, bel.frame _, fun h => by cases h⟩
theorem over : Rows.rationalDecimalRow.holds Tryd.pinned (OpenSpec.ofChange Rows.rationalDecimalSpec) :=
 OpenClaim.holds_of_wide 10 Tryd.f10 rfl rfl rfl rfl rfl rfl rfl ⟨rfl, rfl, rfl, rfl, rfl⟩ rfl rfl rfl rfl rfl (by kernel_rfl) Tryd.func10 (by kernel_rfl)
  (of_decide_eq_true (by kernel_rfl)) (by unfold Func.isWrapper; first | (rw [if_pos (by decide +kernel)]; kernel_rfl) | (rw [if_neg (by decide +kernel)]; exact ⟨rfl, rfl⟩))
  (fun os started H enc _ => lifted os started H enc)
theorem proved : Rows.RationalDecimalSaid := over
#print axioms proved
end Go.Proofs.YtoieknocpphjoaaDoor.rationalDecimal
namespace Go.Proofs.YtoieknocpphjoaaDoor
theorem rationalDecimal_holds : Rows.RationalDecimalSaid := rationalDecimal.proved
end Go.Proofs.YtoieknocpphjoaaDoor
