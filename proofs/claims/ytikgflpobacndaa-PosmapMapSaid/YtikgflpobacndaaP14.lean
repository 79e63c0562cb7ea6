--m
/- Written by wip/tool/hprint.py (the kit's print.py with hand-proved contracts set in): contracts of the functions that the statements of this seat reach, without conditions beyond those named in each theorem. -/
import Derived.Test.YtikgflpobacndaaP0
import Derived.Test.YtikgflpobacndaaP13
namespace Go.Proofs.Ytikgflpobacndaa.P
open Go.RowKit Go.Proofs.YtikgflpobacndaaW.PrintWords Go.Proofs.YtikgflpobacndaaW.PrintLast Go.Proofs.YtikgflpobacndaaW.PrintMore
attribute [local go_sem] zaz zaA zaB zaC zaD zaE zaF zaG   -- for this text's walks alone
set_option linter.unusedVariables false
set_option linter.unusedSimpArgs false

/-! ### vinculumref10_Same: function 19 -/
def vinculumref10_Same.f (k : Nat) (l0 : List Int) (l1 : List Int) : Option (Bool) := (vinculumref10_Compare.f k l0 l1).bind fun t206 => (some (t206 == 0))
theorem vinculumref10_Same.mono : ∀ a0 a1 k, LeO (vinculumref10_Same.f k a0 a1) (vinculumref10_Same.f (k + 1) a0 a1) := by
 intro a0 a1 k
 unfold vinculumref10_Same.f
 repeat' first
   | (with_reducible exact vinculumref10_Compare.mono _ _ _)
   | (with_reducible exact LeO.refl _)
   | (with_reducible exact LeO.none _)
   | (with_reducible refine LeO.ite ?_ ?_)
   | (with_reducible refine LeO.bind ?_ (fun _ => ?_))
   | exact vinculumref10_Compare.mono _ _ _
   | exact LeO.none _
   | refine LeO.ite ?_ ?_
   | refine LeO.bind ?_ (fun _ => ?_)
set_option maxHeartbeats 8000000 in
set_option maxRecDepth 100000 in
theorem vinculumref10_Same.calls (k : Nat) (A0 : Option Addr) (c0 : Nat) (l0 : List Int) (A1 : Option Addr) (c1 : Nat) (l1 : List Int) (r : Bool) (w : World) (hr0 : Kd.C (Kd.int .i64) w A0 l0.length l0) (hc0 : l0.length ≤ c0) (hr1 : Kd.C (Kd.int .i64) w A1 l1.length l1) (hc1 : l1.length ≤ c1) (h : vinculumref10_Same.f k l0 l1 = some r) :
  Calls Try.prog 19 #[.slice A0 l0.length c0, .slice A1 l1.length c1] w fun e w' => e = .returned (.bool r) ∧ zar w w' := by
 have HR0 := zab.mk hr0
 have HC0 := zab.mk hc0
 clear hr0 hc0
 have HR1 := zab.mk hr1
 have HC1 := zab.mk hc1
 clear hr1 hc1
 have H : ((vinculumref10_Compare.f k l0 l1).bind fun t206 => (some (t206 == 0))) = some r := h
 clear h
 replace H := Option.bind_eq_some_iff.mp H
 obtain ⟨t206, A30, H⟩ := H
 replace H : (some (t206 == 0)) = some r := H
 have A3 := zab.mk A30
 clear A30
 obtain rfl := Option.some.inj H
 go_enter Try.func19, Try.ntmps19
 go_wp2_with (first | ((with_reducible refine zax (f := 16) rfl ?_); refine zay (some 7) rfl rfl Try.func16 (by kernel_rfl) rfl #[.slice A0 l0.length c0, .slice A1 l1.length c1] rfl (by (try simp only [List.map_toArray, List.map_cons, List.map_nil]); first | done | rfl | (simp only [List.length_drop, List.length_take]; rfl)) ?_; (with_reducible refine (vinculumref10_Compare.calls k _ _ l0 _ _ l1 t206 _ ?side1 ?side2 ?side3 ?side4 A3.o).mono ?_); (case side1 => repeat (first | exact HR0.o | (with_reducible first | refine Kd.C_alloc ?_ _ | refine Kd.C_drewN ?_ _ | refine Kd.C_drew ?_))); (case side2 => exact HC0.out); (case side3 => repeat (first | exact HR1.o | (with_reducible first | refine Kd.C_alloc ?_ _ | refine Kd.C_drewN ?_ _ | refine Kd.C_drew ?_))); (case side4 => exact HC1.out); rintro e w' ⟨rfl, ⟨nd, rfl⟩⟩; refine ⟨_, rfl, ?_⟩))
 go_ret
 exact ⟨by first | rfl | (simp; done) | (simp [*]; done), by repeat (first | exact zar.refl _ | apply zar.step)⟩

end Go.Proofs.Ytikgflpobacndaa.P
