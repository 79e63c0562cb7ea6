--m
/- Written by wip/tool/hprint.py (the kit's print.py with hand-proved contracts set in): contracts of the functions that the statements of this seat reach, without conditions beyond those named in each theorem. -/
import Derived.Test.YtoieknocpphjoaaDoorP0
import Derived.Test.YtoieknocpphjoaaDoorP6
import Derived.Test.YtoieknocpphjoaaDoorP8
import Derived.Test.YtoieknocpphjoaaDoorP9
namespace Go.Proofs.YtoieknocpphjoaaDoor.P
open Go.RowKit Go.Proofs.YtoieknocpphjoaaDoorW.PrintWords Go.Proofs.YtoieknocpphjoaaDoorW.PrintLast Go.Proofs.YtoieknocpphjoaaDoorW.PrintMore
attribute [local go_sem] zay zaz zaA zaB zaC zaD zaE zaF   -- for this text's walks alone
set_option linter.unusedVariables false
set_option linter.unusedSimpArgs false

/-! ### vinculumlaw02_awake: function 12 -/
def vinculumlaw02_awake.f (k : Nat)  : Option (Bool) := (rational_Make.f k 6 (-4)).bind fun bt113 => (if bt113.2.2 = 0 then ((rational_Text.f k bt113.1 bt113.2.1).bind fun t117 => (some (t117.toList == ([45, 51, 47, 50] : List UInt8)))) else (none))
theorem vinculumlaw02_awake.mono : ∀ k, LeO (vinculumlaw02_awake.f k ) (vinculumlaw02_awake.f (k + 1) ) := by
 intro  k
 unfold vinculumlaw02_awake.f
 repeat' first
   | (with_reducible exact rational_Make.mono _ _ _)
   | (with_reducible exact rational_Text.mono _ _ _)
   | (with_reducible exact LeO.refl _)
   | (with_reducible exact LeO.none _)
   | (with_reducible refine LeO.ite ?_ ?_)
   | (with_reducible refine LeO.bind ?_ (fun _ => ?_))
   | exact rational_Make.mono _ _ _
   | exact rational_Text.mono _ _ _
   | exact LeO.none _
   | refine LeO.ite ?_ ?_
   | refine LeO.bind ?_ (fun _ => ?_)
set_option maxHeartbeats 8000000 in
set_option maxRecDepth 100000 in
theorem vinculumlaw02_awake.calls (k : Nat)  (r : Bool) (w : World) (htab : TB w) (h : vinculumlaw02_awake.f k  = some r) :
  Calls Tryd.prog 12 #[] w fun e w' => e = .returned (.bool r) ∧ Below w.heap.size w w' := by
 have hu24 := Tryd.underlying24
 have HB := zaa.mk (Below.refl w.heap.size w)
 have HT9 := zaa.mk htab.stays
 clear htab
 have H : ((rational_Make.f k 6 (-4)).bind fun bt113 => (if bt113.2.2 = 0 then ((rational_Text.f k bt113.1 bt113.2.1).bind fun t117 => (some (t117.toList == ([45, 51, 47, 50] : List UInt8)))) else (none))) = some r := h
 clear h
 replace H := Option.bind_eq_some_iff.mp H
 obtain ⟨⟨t113, t114, t115⟩, A10, H⟩ := H
 replace H : (if t115 = 0 then ((rational_Text.f k t113 t114).bind fun t117 => (some (t117.toList == ([45, 51, 47, 50] : List UInt8)))) else (none)) = some r := H
 have A1 := zaa.mk A10
 clear A10
 by_cases c2 : t115 = 0
 ·rw [if_pos c2] at H
  have c2b0 : (t115 == 0) = true := beq_iff_eq.mpr c2
  have c2b1 : (t115 != 0) = false := bne_eq_false_iff_eq.mpr c2
  clear c2
  replace H := Option.bind_eq_some_iff.mp H
  obtain ⟨t117, A30, H⟩ := H
  replace H : (some (t117.toList == ([45, 51, 47, 50] : List UInt8))) = some r := H
  have A3 := zaa.mk A30
  clear A30
  obtain rfl := Option.some.inj H
  go_enter Tryd.func12, Tryd.ntmps12
  go_wp2_with (first | ((with_reducible refine zas (f := 13) rfl ?_); refine zat (some 4) rfl rfl Tryd.func13 (by kernel_rfl) rfl #[.int .i64 6, .int .i64 (-4)] rfl (by (try simp only [List.map_toArray, List.map_cons, List.map_nil]); first | done | rfl | (simp only [List.length_drop, List.length_take]; rfl)) ?_; (with_reducible refine (rational_Make.calls k 6 (-4) t113 t114 t115 _ A1.o).mono ?_); rintro e w4 ⟨rfl, hb⟩; refine ⟨_, rfl, ?_⟩; have n0_ := zaa.mk (zao (by repeat (first | (with_reducible first | exact HB.o | apply zaf | apply zah | apply zag) | exact HB.o)) hb); clear HB; have HB := n0_; clear n0_; (try clear hb); (try clear hb2); (try clear hk); (try clear hi)) | ((with_reducible refine zaq (N := 1) rfl ?_); refine zar ?hg (N := 1) ?hd (cs := #[.int .i64 0, .int .i64 0]) (t := 24) ?hr ?_; (case hd => rfl); (case hg => rfl); (case hr => first | (go_simp; done) | (go_simp; rfl)); intro gb116 hg w5 hbox hb; have n0_ := zaa.mk (zao (by repeat (first | (with_reducible first | exact HB.o | apply zaf | apply zah | apply zag) | exact HB.o)) hb); have n1_ := zaa.mk (hbox); have n2_ := zaa.mk ((by rw [hg]; exact (zan (by repeat (first | (with_reducible first | exact HB.o | apply zaf | apply zah | apply zag) | exact HB.o))) : w.heap.size ≤ gb116)); have n3_ := zaa.mk ((by rw [hg]; exact (zan (by repeat (first | (with_reducible first | exact HB.o | apply zaf | apply zah | apply zag) | exact HB.o))) : w.heap.size ≤ gb116)); clear HB; have HB := n0_; have BK116 := n1_; have GW116 := n2_; have GE116 := n3_; clear n0_ n1_ n2_ n3_; clear hb hbox hg; obtain ⟨hcz6_0, hcz6_1⟩ := cz2 BK116.o; obtain ⟨hfz6_0, hfz6_1⟩ := fz2 BK116.o) | (go_at_call 16; (with_reducible refine (rational_Text.calls k t113 t114 t117 _ (HT9.out _ (by repeat (first | (with_reducible first | exact HB.o | apply zaf | apply zah | apply zag | refine zae ?_ GE116.o) | exact HB.o))) A3.o).mono ?_); rintro e w7 ⟨rfl, hb⟩; have n0_ := zaa.mk (zaj (g := gb116) (o := .cells #[.int .i64 t113, .int .i64 t114] 24 (0, 0)) (by (with_reducible repeat (first | refine zad ?_ _ | refine zab ?_ | refine zac ?_ _)); refine zap (cs := #[.int .i64 t113, .int .i64 0]) ?_ 1 _ rfl; (with_reducible repeat (first | refine zad ?_ _ | refine zab ?_ | refine zac ?_ _)); refine zap (cs := #[.int .i64 0, .int .i64 0]) ?_ 0 _ rfl; (with_reducible repeat (first | refine zad ?_ _ | refine zab ?_ | refine zac ?_ _)); exact BK116.o) hb); have n1_ := zaa.mk (zao (by repeat (first | (with_reducible first | exact HB.o | apply zaf | apply zah | apply zag | refine zae ?_ GE116.o) | exact HB.o)) hb); clear BK116; clear HB; have BK116 := n0_; have HB := n1_; clear n0_ n1_; (try clear hb); (try clear hb2); (try clear hk); (try clear hi)))
  go_ret
  exact ⟨by first | rfl | (simp [errW_none, errW_some] <;> rfl) | (simp [*, errW_none, errW_some] <;> rfl), by repeat (first | (with_reducible first | exact HB.o | apply zaf | apply zah | apply zag | refine zae ?_ GE116.o) | exact HB.o)⟩
 ·rw [if_neg c2] at H
  exact absurd H (by simp)

end Go.Proofs.YtoieknocpphjoaaDoor.P
