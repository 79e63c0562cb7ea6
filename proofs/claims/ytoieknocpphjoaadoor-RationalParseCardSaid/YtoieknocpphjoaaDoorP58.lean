--m
/- Written by wip/tool/hprint.py (the kit's print.py with hand-proved contracts set in): contracts of the functions that the statements of this seat reach, without conditions beyond those named in each theorem. -/
import Derived.Test.YtoieknocpphjoaaDoorP0
import Derived.Test.YtoieknocpphjoaaDoorP8
import Derived.Test.YtoieknocpphjoaaDoorP10
import Derived.Test.YtoieknocpphjoaaDoorP14
import Derived.Test.YtoieknocpphjoaaDoorP51
import Derived.Test.YtoieknocpphjoaaDoorP57
namespace Go.Proofs.YtoieknocpphjoaaDoor.P
open Go.RowKit Go.Proofs.YtoieknocpphjoaaDoorW.PrintWords Go.Proofs.YtoieknocpphjoaaDoorW.PrintLast Go.Proofs.YtoieknocpphjoaaDoorW.PrintMore
attribute [local go_sem] zay zaz zaA zaB zaC zaD zaE zaF   -- for this text's walks alone
set_option linter.unusedVariables false
set_option linter.unusedSimpArgs false

/-! ### vinculumlaw02_RationalParse: function 9 -/
def vinculumlaw02_RationalParse.f (k : Nat) (a0 : ByteArray) : Option (Bool) := (vinculumlaw02_awake.f k).bind fun t524 => (if t524 = true then (if (a0.size : Int) > 60 then (some true) else ((rational_Parse.f k a0).bind fun bt525 => ((vinculumref02_Parse.f k a0).bind fun bt529 => ((vinculumlaw02_is.f bt525.1 bt525.2.1 bt525.2.2 bt529.1 bt529.2.1 bt529.2.2).bind fun t533 => (some t533))))) else (none))
theorem vinculumlaw02_RationalParse.mono : ∀ a0 k, LeO (vinculumlaw02_RationalParse.f k a0) (vinculumlaw02_RationalParse.f (k + 1) a0) := by
 intro a0 k
 unfold vinculumlaw02_RationalParse.f
 repeat' first
   | (with_reducible exact rational_Parse.mono _ _)
   | (with_reducible exact vinculumlaw02_awake.mono _)
   | (with_reducible exact vinculumref02_Parse.mono _ _)
   | (with_reducible exact LeO.refl _)
   | (with_reducible exact LeO.none _)
   | (with_reducible refine LeO.ite ?_ ?_)
   | (with_reducible refine LeO.bind ?_ (fun _ => ?_))
   | exact rational_Parse.mono _ _
   | exact vinculumlaw02_awake.mono _
   | exact vinculumref02_Parse.mono _ _
   | exact LeO.none _
   | refine LeO.ite ?_ ?_
   | refine LeO.bind ?_ (fun _ => ?_)
set_option maxHeartbeats 8000000 in
set_option maxRecDepth 100000 in
theorem vinculumlaw02_RationalParse.calls (k : Nat) (a0 : ByteArray) (r : Bool) (w : World) (htab : TB w) (h : vinculumlaw02_RationalParse.f k a0 = some r) :
  Calls Tryd.prog 9 #[.string a0] w fun e w' => e = .returned (.bool r) ∧ Below w.heap.size w w' := by
 have hu24 := Tryd.underlying24
 have hu28 := Tryd.underlying28
 have HB := zaa.mk (Below.refl w.heap.size w)
 have HT9 := zaa.mk htab.stays
 clear htab
 have H : ((vinculumlaw02_awake.f k).bind fun t524 => (if t524 = true then (if (a0.size : Int) > 60 then (some true) else ((rational_Parse.f k a0).bind fun bt525 => ((vinculumref02_Parse.f k a0).bind fun bt529 => ((vinculumlaw02_is.f bt525.1 bt525.2.1 bt525.2.2 bt529.1 bt529.2.1 bt529.2.2).bind fun t533 => (some t533))))) else (none))) = some r := h
 clear h
 replace H := Option.bind_eq_some_iff.mp H
 obtain ⟨t524, A20, H⟩ := H
 replace H : (if t524 = true then (if (a0.size : Int) > 60 then (some true) else ((rational_Parse.f k a0).bind fun bt525 => ((vinculumref02_Parse.f k a0).bind fun bt529 => ((vinculumlaw02_is.f bt525.1 bt525.2.1 bt525.2.2 bt529.1 bt529.2.1 bt529.2.2).bind fun t533 => (some t533))))) else (none)) = some r := H
 have A2 := zaa.mk A20
 clear A20
 by_cases c3 : t524 = true
 ·subst c3
  have H1 : (if (a0.size : Int) > 60 then (some true) else ((rational_Parse.f k a0).bind fun bt525 => ((vinculumref02_Parse.f k a0).bind fun bt529 => ((vinculumlaw02_is.f bt525.1 bt525.2.1 bt525.2.2 bt529.1 bt529.2.1 bt529.2.2).bind fun t533 => (some t533))))) = some r := by rw [if_pos rfl] at H; exact H
  clear H
  have H := H1
  clear H1
  by_cases c4 : (a0.size : Int) > 60
  ·rw [if_pos c4] at H
   have c4b0 : decide (60 < (a0.size : Int)) = true := decide_eq_true c4
   have c4b1 : decide (60 < a0.size) = true := decide_eq_true (by omega)
   clear c4
   obtain rfl := Option.some.inj H
   go_enter Tryd.func9, Tryd.ntmps9
   go_wp2_with (first | ((with_reducible refine zas (f := 12) rfl ?_); refine zat (some 7) rfl rfl Tryd.func12 (by kernel_rfl) rfl #[] rfl (by (try simp only [List.map_toArray, List.map_cons, List.map_nil]); first | done | rfl | (simp only [List.length_drop, List.length_take]; rfl)) ?_; (with_reducible refine (vinculumlaw02_awake.calls k  true _ (HT9.out _ (by repeat (first | (with_reducible first | exact HB.o | apply zaf | apply zah | apply zag) | exact HB.o))) A2.o).mono ?_); rintro e w5 ⟨rfl, hb⟩; refine ⟨_, rfl, ?_⟩; have n0_ := zaa.mk (zao (by repeat (first | (with_reducible first | exact HB.o | apply zaf | apply zah | apply zag) | exact HB.o)) hb); clear HB; have HB := n0_; clear n0_; (try clear hb); (try clear hb2); (try clear hk); (try clear hi)))
   go_ret
   exact ⟨by first | rfl | (simp [errW_none, errW_some] <;> rfl) | (simp [*, errW_none, errW_some] <;> rfl), by repeat (first | (with_reducible first | exact HB.o | apply zaf | apply zah | apply zag) | exact HB.o)⟩
  ·rw [if_neg c4] at H
   have c4b0 : decide (60 < (a0.size : Int)) = false := decide_eq_false c4
   have c4b1 : decide (60 < a0.size) = false := decide_eq_false (by omega)
   clear c4
   replace H := Option.bind_eq_some_iff.mp H
   obtain ⟨⟨t525, t526, t527⟩, A60, H⟩ := H
   replace H : ((vinculumref02_Parse.f k a0).bind fun bt529 => ((vinculumlaw02_is.f t525 t526 t527 bt529.1 bt529.2.1 bt529.2.2).bind fun t533 => (some t533))) = some r := H
   have A6 := zaa.mk A60
   clear A60
   replace H := Option.bind_eq_some_iff.mp H
   obtain ⟨⟨t529, t530, t531⟩, A70, H⟩ := H
   replace H : ((vinculumlaw02_is.f t525 t526 t527 t529 t530 t531).bind fun t533 => (some t533)) = some r := H
   have A7 := zaa.mk A70
   clear A70
   replace H := Option.bind_eq_some_iff.mp H
   obtain ⟨t533, A80, H⟩ := H
   replace H : (some t533) = some r := H
   have A8 := zaa.mk A80
   clear A80
   obtain rfl := Option.some.inj H
   go_enter Tryd.func9, Tryd.ntmps9
   go_wp2_with (first | ((with_reducible refine zas (f := 12) rfl ?_); refine zat (some 7) rfl rfl Tryd.func12 (by kernel_rfl) rfl #[] rfl (by (try simp only [List.map_toArray, List.map_cons, List.map_nil]); first | done | rfl | (simp only [List.length_drop, List.length_take]; rfl)) ?_; (with_reducible refine (vinculumlaw02_awake.calls k  true _ (HT9.out _ (by repeat (first | (with_reducible first | exact HB.o | apply zaf | apply zah | apply zag) | exact HB.o))) A2.o).mono ?_); rintro e w9 ⟨rfl, hb⟩; refine ⟨_, rfl, ?_⟩; have n0_ := zaa.mk (zao (by repeat (first | (with_reducible first | exact HB.o | apply zaf | apply zah | apply zag) | exact HB.o)) hb); clear HB; have HB := n0_; clear n0_; (try clear hb); (try clear hb2); (try clear hk); (try clear hi)) | ((with_reducible refine zas (f := 39) rfl ?_); refine zat (some 14) rfl rfl Tryd.func39 (by kernel_rfl) rfl #[.string a0] rfl (by (try simp only [List.map_toArray, List.map_cons, List.map_nil]); first | done | rfl | (simp only [List.length_drop, List.length_take]; rfl)) ?_; (with_reducible refine (rational_Parse.calls k a0 t525 t526 t527 _ A6.o).mono ?_); rintro e w10 ⟨rfl, hb⟩; refine ⟨_, rfl, ?_⟩; have n0_ := zaa.mk (zao (by repeat (first | (with_reducible first | exact HB.o | apply zaf | apply zah | apply zag) | exact HB.o)) hb); clear HB; have HB := n0_; clear n0_; (try clear hb); (try clear hb2); (try clear hk); (try clear hi)) | ((with_reducible refine zaq (N := 3) rfl ?_); refine zar ?hg (N := 3) ?hd (cs := #[.int .i64 0, .int .i64 0]) (t := 24) ?hr ?_; (case hd => rfl); (case hg => rfl); (case hr => first | (go_simp; done) | (go_simp; rfl)); intro gb528 hg w11 hbox hb; have n0_ := zaa.mk (zao (by repeat (first | (with_reducible first | exact HB.o | apply zaf | apply zah | apply zag) | exact HB.o)) hb); have n1_ := zaa.mk (hbox); have n2_ := zaa.mk ((by rw [hg]; exact (zan (by repeat (first | (with_reducible first | exact HB.o | apply zaf | apply zah | apply zag) | exact HB.o))) : w.heap.size ≤ gb528)); have n3_ := zaa.mk ((by rw [hg]; exact (zan (by repeat (first | (with_reducible first | exact HB.o | apply zaf | apply zah | apply zag) | exact HB.o))) : w.heap.size ≤ gb528)); clear HB; have HB := n0_; have BK528 := n1_; have GW528 := n2_; have GE528 := n3_; clear n0_ n1_ n2_ n3_; clear hb hbox hg; obtain ⟨hcz12_0, hcz12_1⟩ := cz2 BK528.o; obtain ⟨hfz12_0, hfz12_1⟩ := fz2 BK528.o) | ((with_reducible refine zas (f := 40) rfl ?_); refine zat (some 19) rfl rfl Tryd.func40 (by kernel_rfl) rfl #[.string a0] rfl (by (try simp only [List.map_toArray, List.map_cons, List.map_nil]); first | done | rfl | (simp only [List.length_drop, List.length_take]; rfl)) ?_; (with_reducible refine (vinculumref02_Parse.calls k a0 t529 t530 t531 _ A7.o).mono ?_); rintro e w13 ⟨rfl, hb⟩; refine ⟨_, rfl, ?_⟩; have n0_ := zaa.mk (zaj (g := gb528) (o := .cells #[.int .i64 t525, .int .i64 t526] 24 (0, 0)) (by (with_reducible repeat (first | refine zad ?_ _ | refine zab ?_ | refine zac ?_ _)); refine zap (cs := #[.int .i64 t525, .int .i64 0]) ?_ 1 _ rfl; (with_reducible repeat (first | refine zad ?_ _ | refine zab ?_ | refine zac ?_ _)); refine zap (cs := #[.int .i64 0, .int .i64 0]) ?_ 0 _ rfl; (with_reducible repeat (first | refine zad ?_ _ | refine zab ?_ | refine zac ?_ _)); exact BK528.o) hb); have n1_ := zaa.mk (zao (by repeat (first | (with_reducible first | exact HB.o | apply zaf | apply zah | apply zag | refine zae ?_ GE528.o) | exact HB.o)) hb); clear BK528; clear HB; have BK528 := n0_; have HB := n1_; clear n0_ n1_; (try clear hb); (try clear hb2); (try clear hk); (try clear hi)) | ((with_reducible refine zaq (N := 5) rfl ?_); refine zar ?hg (N := 5) ?hd (cs := #[.int .i64 0, .int .i64 0]) (t := 28) ?hr ?_; (case hd => rfl); (case hg => rfl); (case hr => first | (go_simp; done) | (go_simp; rfl)); intro gb532 hg w14 hbox hb; have n0_ := zaa.mk (zaj (by (with_reducible repeat (first | refine zad ?_ _ | refine zab ?_ | refine zac ?_ _)); exact BK528.o) hb); have n1_ := zaa.mk (zao (by repeat (first | (with_reducible first | exact HB.o | apply zaf | apply zah | apply zag | refine zae ?_ GE528.o) | exact HB.o)) hb); have n2_ := zaa.mk (hbox); have n3_ := zaa.mk ((by rw [hg]; exact (zan (by repeat (first | (with_reducible first | exact HB.o | apply zaf | apply zah | apply zag | refine zae ?_ GE528.o) | exact HB.o))) : w.heap.size ≤ gb532)); have n4_ := zaa.mk ((by rw [hg]; exact (zan (by repeat (first | (with_reducible first | exact HB.o | apply zaf | apply zah | apply zag | refine zae ?_ GE528.o) | exact HB.o))) : w.heap.size ≤ gb532)); have n5_ := zaa.mk ((by rw [hg]; exact Nat.ne_of_lt (zal (g := gb528) (o := .cells #[.int .i64 t525, .int .i64 t526] 24 (0, 0)) (by (with_reducible repeat (first | refine zad ?_ _ | refine zab ?_ | refine zac ?_ _)); exact BK528.o)) : gb528 ≠ gb532)); have n6_ := zaa.mk ((by rw [hg]; exact Nat.ne_of_gt (zal (g := gb528) (o := .cells #[.int .i64 t525, .int .i64 t526] 24 (0, 0)) (by (with_reducible repeat (first | refine zad ?_ _ | refine zab ?_ | refine zac ?_ _)); exact BK528.o)) : gb532 ≠ gb528)); clear BK528; clear HB; have BK528 := n0_; have HB := n1_; have BK532 := n2_; have GW532 := n3_; have GE532 := n4_; have NB528_532 := n5_; have NB532_528 := n6_; clear n0_ n1_ n2_ n3_ n4_ n5_ n6_; clear hb hbox hg; have hnb15 := NB532_528.o; have hnc15 := NB528_532.o; obtain ⟨hcz16_0, hcz16_1⟩ := cz2 BK532.o; obtain ⟨hfz16_0, hfz16_1⟩ := fz2 BK532.o; obtain ⟨hcz17_0, hcz17_1⟩ := cz2 BK528.o; obtain ⟨hfz17_0, hfz17_1⟩ := fz2 BK528.o) | ((with_reducible refine zas (f := 15) rfl ?_); refine zat (some 26) rfl rfl Tryd.func15 (by kernel_rfl) rfl #[.agg #[.int .i64 t525, .int .i64 t526], .int .i64 t527, .agg #[.int .i64 t529, .int .i64 t530], .int .i64 t531] rfl (by (try simp only [List.map_toArray, List.map_cons, List.map_nil]); first | done | rfl | (simp only [List.length_drop, List.length_take]; rfl)) ?_; (with_reducible refine (vinculumlaw02_is.calls t525 t526 t527 t529 t530 t531 t533 _ A8.o).mono ?_); rintro e w18 ⟨rfl, hb⟩; refine ⟨_, rfl, ?_⟩; have n0_ := zaa.mk (zaj (g := gb528) (o := .cells #[.int .i64 t525, .int .i64 t526] 24 (0, 0)) (by (with_reducible repeat (first | refine zad ?_ _ | refine zab ?_ | refine zac ?_ _)); refine zam ?_ NB528_532.o _; (with_reducible repeat (first | refine zad ?_ _ | refine zab ?_ | refine zac ?_ _)); refine zam ?_ NB528_532.o _; (with_reducible repeat (first | refine zad ?_ _ | refine zab ?_ | refine zac ?_ _)); exact BK528.o) hb); have n1_ := zaa.mk (zaj (g := gb532) (o := .cells #[.int .i64 t529, .int .i64 t530] 28 (0, 0)) (by (with_reducible repeat (first | refine zad ?_ _ | refine zab ?_ | refine zac ?_ _)); refine zap (cs := #[.int .i64 t529, .int .i64 0]) ?_ 1 _ rfl; (with_reducible repeat (first | refine zad ?_ _ | refine zab ?_ | refine zac ?_ _)); refine zap (cs := #[.int .i64 0, .int .i64 0]) ?_ 0 _ rfl; (with_reducible repeat (first | refine zad ?_ _ | refine zab ?_ | refine zac ?_ _)); exact BK532.o) hb); have n2_ := zaa.mk (zao (by repeat (first | (with_reducible first | exact HB.o | apply zaf | apply zah | apply zag | refine zae ?_ GE528.o | refine zae ?_ GE532.o) | exact HB.o)) hb); clear BK528; clear BK532; clear HB; have BK528 := n0_; have BK532 := n1_; have HB := n2_; clear n0_ n1_ n2_; (try clear hb); (try clear hb2); (try clear hk); (try clear hi)))
   go_ret
   exact ⟨by first | rfl | (simp [errW_none, errW_some] <;> rfl) | (simp [*, errW_none, errW_some] <;> rfl), by repeat (first | (with_reducible first | exact HB.o | apply zaf | apply zah | apply zag | refine zae ?_ GE528.o | refine zae ?_ GE532.o) | exact HB.o)⟩
 ·replace c3 := Bool.eq_false_iff.mpr c3
  subst c3
  have H1 : (none) = some r := by rw [if_neg (show ¬ (false = true) by decide)] at H; exact H
  clear H
  have H := H1
  clear H1
  exact absurd H (by simp)

/-- THE ONE PURE STATEMENT of vinculumlaw02_RationalParse: yours. -/
def vinculumlaw02_RationalParse.Pure : Prop := ∀ (a0 : ByteArray), a0.size ≤ 140737488351232 → ∃ k, vinculumlaw02_RationalParse.f k a0 = some true
theorem vinculumlaw02_RationalParse.walk (P : vinculumlaw02_RationalParse.Pure) (a0 : ByteArray) (w : World) (htab : TB w) (w0 : a0.size ≤ 140737488351232) :
  Calls Tryd.prog 9 #[.string a0] w fun e w' => e = .returned (.bool true) ∧ Below w.heap.size w w' := by
 obtain ⟨k, h⟩ := P a0 w0
 refine (vinculumlaw02_RationalParse.calls k a0 true w htab h).mono ?_
 rintro e w' ⟨rfl, hd⟩
 exact ⟨rfl, hd⟩

end Go.Proofs.YtoieknocpphjoaaDoor.P
