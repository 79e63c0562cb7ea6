--m
/- Written by wip/tool/hprint.py (the kit's print.py with hand-proved contracts set in): contracts of the functions that the statements of this seat reach, without conditions beyond those named in each theorem. -/
import Derived.Test.YtoieknocpphjoaaDoorP0
import Derived.Test.YtoieknocpphjoaaDoorP1
import Derived.Test.YtoieknocpphjoaaDoorP7
import Derived.Test.YtoieknocpphjoaaDoorP9
import Derived.Test.YtoieknocpphjoaaDoorP19
import Derived.Test.YtoieknocpphjoaaDoorP20
import Derived.Test.YtoieknocpphjoaaDoorP21
import Derived.Test.YtoieknocpphjoaaDoorP24
import Derived.Test.YtoieknocpphjoaaDoorP25
namespace Go.Proofs.YtoieknocpphjoaaDoor.P
open Go.RowKit Go.Proofs.YtoieknocpphjoaaDoorW.PrintWords Go.Proofs.YtoieknocpphjoaaDoorW.PrintLast Go.Proofs.YtoieknocpphjoaaDoorW.PrintMore
attribute [local go_sem] zax zay zaz zaA zaB zaC zaD zaE   -- for this text's walks alone
set_option linter.unusedVariables false
set_option linter.unusedSimpArgs false

attribute [local go_sem high] eqA24
/-! ### vinculumlaw02_RationalField: function 4 -/
def vinculumlaw02_RationalField.l0 : Nat → Int → Int → Int → Int → Int → Int → Int → Option (Bool)
 | 0, _, _, _, _, _, _, _ => none
 | k + 1, x7, x218000, x218001, x219000, x219001, x220000, x220001 => if x7 ≤ 2 then ((vinculumlaw02_op.f k x7 x218000 x218001 0 x219000 x219001 0).bind fun bt220 => ((vinculumlaw02_op.f k x7 x219000 x219001 0 x218000 x218001 0).bind fun bt224 => ((vinculumlaw02_op.f k x7 x219000 x219001 0 x220000 x220001 0).bind fun bt228 => ((vinculumlaw02_op.f k x7 bt220.1 bt220.2.1 bt220.2.2 x220000 x220001 0).bind fun bt232 => ((vinculumlaw02_op.f k x7 x218000 x218001 0 bt228.1 bt228.2.1 bt228.2.2).bind fun bt236 => (if (!(bt220.1 == bt224.1) || (!(bt220.2.1 == bt224.2.1))) = true then (none) else (if bt220.2.2 = bt224.2.2 then ((vinculumlaw02_agree.f bt232.1 bt232.2.1 bt232.2.2 bt236.1 bt236.2.1 bt236.2.2).bind fun t240 => (if t240 = true then (vinculumlaw02_RationalField.l0 k (wrap64 (x7 + 2)) x218000 x218001 x219000 x219001 x220000 x220001) else (none))) else (none)))))))) else ((rational_Add.f k x219000 x219001 x220000 x220001).bind fun bt241 => ((vinculumlaw02_op.f k 2 x218000 x218001 0 bt241.1 bt241.2.1 bt241.2.2).bind fun bt245 => ((rational_Mul.f k x218000 x218001 x219000 x219001).bind fun bt249 => ((rational_Mul.f k x218000 x218001 x220000 x220001).bind fun bt253 => ((vinculumlaw02_op.f k 0 bt249.1 bt249.2.1 bt249.2.2 bt253.1 bt253.2.1 bt253.2.2).bind fun bt257 => ((vinculumlaw02_agree.f bt245.1 bt245.2.1 bt245.2.2 bt257.1 bt257.2.1 bt257.2.2).bind fun t261 => (some t261)))))))
def vinculumlaw02_RationalField.f (k : Nat) (a0_0 : Int) (a0_1 : Int) (a0_2 : Int) (a0_3 : Int) (a0_4 : Int) (a0_5 : Int) : Option (Bool) := (vinculumlaw02_awake.f k).bind fun t209 => (if t209 = true then ((vinculumlaw02_numbers.f k a0_0 a0_1 a0_2 a0_3 a0_4 a0_5).bind fun bt210 => (vinculumlaw02_RationalField.l0 k 0 bt210.1 bt210.2.1 bt210.2.2.1 bt210.2.2.2.1 bt210.2.2.2.2.1 bt210.2.2.2.2.2)) else (none))
theorem vinculumlaw02_RationalField.mono_l : ∀ k, (∀ y0 y1 y2 y3 y4 y5 y6, LeO (vinculumlaw02_RationalField.l0 k y0 y1 y2 y3 y4 y5 y6) (vinculumlaw02_RationalField.l0 (k + 1) y0 y1 y2 y3 y4 y5 y6))
 | 0 => fun _ _ _ _ _ _ _ r h => by simp [vinculumlaw02_RationalField.l0] at h
 | k + 1 => by
  have ih0 := vinculumlaw02_RationalField.mono_l k
  ·intro y0 y1 y2 y3 y4 y5 y6
   unfold vinculumlaw02_RationalField.l0
   repeat' first
   | (with_reducible exact ih0 _ _ _ _ _ _ _)
   | (with_reducible exact rational_Add.mono _ _ _ _ _)
   | (with_reducible exact rational_Mul.mono _ _ _ _ _)
   | (with_reducible exact vinculumlaw02_awake.mono _)
   | (with_reducible exact vinculumlaw02_numbers.mono _ _ _ _ _ _ _)
   | (with_reducible exact vinculumlaw02_op.mono _ _ _ _ _ _ _ _)
   | (with_reducible exact LeO.refl _)
   | (with_reducible exact LeO.none _)
   | (with_reducible refine LeO.ite ?_ ?_)
   | (with_reducible refine LeO.bind ?_ (fun _ => ?_))
   | exact ih0 _ _ _ _ _ _ _
   | exact rational_Add.mono _ _ _ _ _
   | exact rational_Mul.mono _ _ _ _ _
   | exact vinculumlaw02_awake.mono _
   | exact vinculumlaw02_numbers.mono _ _ _ _ _ _ _
   | exact vinculumlaw02_op.mono _ _ _ _ _ _ _ _
   | exact LeO.none _
   | refine LeO.ite ?_ ?_
   | refine LeO.bind ?_ (fun _ => ?_)
theorem vinculumlaw02_RationalField.mono : ∀ a0 a1 a2 a3 a4 a5 k, LeO (vinculumlaw02_RationalField.f k a0 a1 a2 a3 a4 a5) (vinculumlaw02_RationalField.f (k + 1) a0 a1 a2 a3 a4 a5) := by
 intro a0 a1 a2 a3 a4 a5 k
 have ih0 := vinculumlaw02_RationalField.mono_l k
 unfold vinculumlaw02_RationalField.f
 repeat' first
   | (with_reducible exact ih0 _ _ _ _ _ _ _)
   | (with_reducible exact rational_Add.mono _ _ _ _ _)
   | (with_reducible exact rational_Mul.mono _ _ _ _ _)
   | (with_reducible exact vinculumlaw02_awake.mono _)
   | (with_reducible exact vinculumlaw02_numbers.mono _ _ _ _ _ _ _)
   | (with_reducible exact vinculumlaw02_op.mono _ _ _ _ _ _ _ _)
   | (with_reducible exact LeO.refl _)
   | (with_reducible exact LeO.none _)
   | (with_reducible refine LeO.ite ?_ ?_)
   | (with_reducible refine LeO.bind ?_ (fun _ => ?_))
   | exact ih0 _ _ _ _ _ _ _
   | exact rational_Add.mono _ _ _ _ _
   | exact rational_Mul.mono _ _ _ _ _
   | exact vinculumlaw02_awake.mono _
   | exact vinculumlaw02_numbers.mono _ _ _ _ _ _ _
   | exact vinculumlaw02_op.mono _ _ _ _ _ _ _ _
   | exact LeO.none _
   | refine LeO.ite ?_ ?_
   | refine LeO.bind ?_ (fun _ => ?_)
def vinculumlaw02_RationalField.T4 : Bool × List (List Nat × List Nat) := (true, [([], []), ([0], [0]), ([], []), ([2], [2]), ([], []), ([4], [4]), ([], []), ([], []), ([], []), ([6, 1, 0, 1, 6, 7, 8], [1, 6]), ([7, 3, 9, 0, 1, 2, 3, 6, 7, 8, 9], [3, 7]), ([8, 5, 10, 0, 1, 2, 3, 4, 5, 6, 7, 8, 9, 10], [5, 8])])
def vinculumlaw02_RationalField.B4 : List Nat := [0, 1, 0, 4, 0, 16, 0, 0, 0, 451, 975, 2047]
theorem vinculumlaw02_RationalField.tab4 : rtab .any (opsOf Tryd.f4 4) = vinculumlaw02_RationalField.T4 := by kernel_rfl
theorem vinculumlaw02_RationalField.bits4 : waitsOk vinculumlaw02_RationalField.T4.2 vinculumlaw02_RationalField.B4 = true := by kernel_rfl
set_option maxHeartbeats 8000000 in
set_option maxRecDepth 100000 in
theorem vinculumlaw02_RationalField.calls (k : Nat) (a0_0 : Int) (a0_1 : Int) (a0_2 : Int) (a0_3 : Int) (a0_4 : Int) (a0_5 : Int) (r : Bool) (w : World) (htab : TB w) (h : vinculumlaw02_RationalField.f k a0_0 a0_1 a0_2 a0_3 a0_4 a0_5 = some r) :
  Calls Tryd.prog 4 #[.agg #[.int .i16 a0_0, .int .i16 a0_1, .int .i16 a0_2, .int .i16 a0_3, .int .i16 a0_4, .int .i16 a0_5]] w fun e w' => e = .returned (.bool r) ∧ Below w.heap.size w w' := by
 have hu40 := Tryd.underlying40
 have hu41 := Tryd.underlying41
 have hu24 := Tryd.underlying24
 have HB := zaa.mk (Below.refl w.heap.size w)
 have HT9 := zaa.mk htab.stays
 clear htab
 have H : ((vinculumlaw02_awake.f k).bind fun t209 => (if t209 = true then ((vinculumlaw02_numbers.f k a0_0 a0_1 a0_2 a0_3 a0_4 a0_5).bind fun bt210 => (vinculumlaw02_RationalField.l0 k 0 bt210.1 bt210.2.1 bt210.2.2.1 bt210.2.2.2.1 bt210.2.2.2.2.1 bt210.2.2.2.2.2)) else (none))) = some r := h
 clear h
 replace H := Option.bind_eq_some_iff.mp H
 obtain ⟨t209, A20, H⟩ := H
 replace H : (if t209 = true then ((vinculumlaw02_numbers.f k a0_0 a0_1 a0_2 a0_3 a0_4 a0_5).bind fun bt210 => (vinculumlaw02_RationalField.l0 k 0 bt210.1 bt210.2.1 bt210.2.2.1 bt210.2.2.2.1 bt210.2.2.2.2.1 bt210.2.2.2.2.2)) else (none)) = some r := H
 have A2 := zaa.mk A20
 clear A20
 by_cases c3 : t209 = true
 ·subst c3
  have H1 : ((vinculumlaw02_numbers.f k a0_0 a0_1 a0_2 a0_3 a0_4 a0_5).bind fun bt210 => (vinculumlaw02_RationalField.l0 k 0 bt210.1 bt210.2.1 bt210.2.2.1 bt210.2.2.2.1 bt210.2.2.2.2.1 bt210.2.2.2.2.2)) = some r := by rw [if_pos rfl] at H; exact H
  clear H
  have H := H1
  clear H1
  replace H := Option.bind_eq_some_iff.mp H
  obtain ⟨⟨t210, t211, t212, t213, t214, t215⟩, A40, H⟩ := H
  replace H : (vinculumlaw02_RationalField.l0 k 0 t210 t211 t212 t213 t214 t215) = some r := H
  have A4 := zaa.mk A40
  clear A40
  have H' := zaa.mk H
  clear H
  go_enter Tryd.func4, Tryd.ntmps4
  try go_wp2_with (first | ((with_reducible refine zaq (N := 1) rfl ?_); refine zar ?hg (N := 1) ?hd (cs := #[.int .i16 a0_0, .int .i16 a0_1, .int .i16 a0_2, .int .i16 a0_3, .int .i16 a0_4, .int .i16 a0_5]) (t := 40) ?hr ?_; (case hd => rfl); (case hg => rfl); (case hr => first | (go_simp; done) | (go_simp; rfl)); intro gb208 hg w5 hbox hb; have n0_ := zaa.mk (zao (by repeat (first | (with_reducible first | exact HB.o | apply zaf | apply zah | apply zag) | exact HB.o)) hb); have n1_ := zaa.mk (hbox); have n2_ := zaa.mk ((by rw [hg]; exact (zan (by repeat (first | (with_reducible first | exact HB.o | apply zaf | apply zah | apply zag) | exact HB.o))) : w.heap.size ≤ gb208)); have n3_ := zaa.mk ((by rw [hg]; exact (zan (by repeat (first | (with_reducible first | exact HB.o | apply zaf | apply zah | apply zag) | exact HB.o))) : w.heap.size ≤ gb208)); clear HB; have HB := n0_; have BK208 := n1_; have GW208 := n2_; have GE208 := n3_; clear n0_ n1_ n2_ n3_; clear hb hbox hg) | ((with_reducible refine zas (f := 12) rfl ?_); refine zat (some 28) rfl rfl Tryd.func12 (by kernel_rfl) rfl #[] rfl (by (try simp only [List.map_toArray, List.map_cons, List.map_nil]); first | done | rfl | (simp only [List.length_drop, List.length_take]; rfl)) ?_; (with_reducible refine (vinculumlaw02_awake.calls k  true _ (HT9.out _ (by repeat (first | (with_reducible first | exact HB.o | apply zaf | apply zah | apply zag | refine zae ?_ GE208.o) | exact HB.o))) A2.o).mono ?_); rintro e w6 ⟨rfl, hb⟩; refine ⟨_, rfl, ?_⟩; have n0_ := zaa.mk (zaj (by (with_reducible repeat (first | refine zad ?_ _ | refine zab ?_ | refine zac ?_ _)); exact BK208.o) hb); have n1_ := zaa.mk (zao (by repeat (first | (with_reducible first | exact HB.o | apply zaf | apply zah | apply zag | refine zae ?_ GE208.o) | exact HB.o)) hb); clear BK208; clear HB; have BK208 := n0_; have HB := n1_; clear n0_ n1_; (try clear hb); (try clear hb2); (try clear hk); (try clear hi); obtain ⟨hcz7_0, hcz7_1, hcz7_2, hcz7_3, hcz7_4, hcz7_5⟩ := cz6 BK208.o; obtain ⟨hfz7_0, hfz7_1, hfz7_2, hfz7_3, hfz7_4, hfz7_5⟩ := fz6 BK208.o) | ((with_reducible refine zas (f := 20) rfl ?_); refine zat (some 31) rfl rfl Tryd.func20 (by kernel_rfl) rfl #[.agg #[.int .i16 a0_0, .int .i16 a0_1, .int .i16 a0_2, .int .i16 a0_3, .int .i16 a0_4, .int .i16 a0_5]] rfl (by (try simp only [List.map_toArray, List.map_cons, List.map_nil]); first | done | rfl | (simp only [List.length_drop, List.length_take]; rfl)) ?_; (with_reducible refine (vinculumlaw02_numbers.calls k a0_0 a0_1 a0_2 a0_3 a0_4 a0_5 t210 t211 t212 t213 t214 t215 _ A4.o).mono ?_); rintro e w8 ⟨rfl, hb⟩; refine ⟨_, rfl, ?_⟩; have n0_ := zaa.mk (zaj (by (with_reducible repeat (first | refine zad ?_ _ | refine zab ?_ | refine zac ?_ _)); exact BK208.o) hb); have n1_ := zaa.mk (zao (by repeat (first | (with_reducible first | exact HB.o | apply zaf | apply zah | apply zag | refine zae ?_ GE208.o) | exact HB.o)) hb); clear BK208; clear HB; have BK208 := n0_; have HB := n1_; clear n0_ n1_; (try clear hb); (try clear hb2); (try clear hk); (try clear hi)) | ((with_reducible refine zaq (N := 3) rfl ?_); refine zar ?hg (N := 3) ?hd (cs := #[.int .i64 0, .int .i64 0, .int .i64 0, .int .i64 0, .int .i64 0, .int .i64 0]) (t := 41) ?hr ?_; (case hd => rfl); (case hg => rfl); (case hr => first | (go_simp; done) | (go_simp; rfl)); intro gb216 hg w9 hbox hb; have n0_ := zaa.mk (zaj (by (with_reducible repeat (first | refine zad ?_ _ | refine zab ?_ | refine zac ?_ _)); exact BK208.o) hb); have n1_ := zaa.mk (zao (by repeat (first | (with_reducible first | exact HB.o | apply zaf | apply zah | apply zag | refine zae ?_ GE208.o) | exact HB.o)) hb); have n2_ := zaa.mk (hbox); have n3_ := zaa.mk ((by rw [hg]; exact (zan (by repeat (first | (with_reducible first | exact HB.o | apply zaf | apply zah | apply zag | refine zae ?_ GE208.o) | exact HB.o))) : w.heap.size ≤ gb216)); have n4_ := zaa.mk ((by rw [hg]; exact (zan (by repeat (first | (with_reducible first | exact HB.o | apply zaf | apply zah | apply zag | refine zae ?_ GE208.o) | exact HB.o))) : w.heap.size ≤ gb216)); have n5_ := zaa.mk ((by rw [hg]; exact Nat.ne_of_lt (zal (g := gb208) (o := .cells #[.int .i16 a0_0, .int .i16 a0_1, .int .i16 a0_2, .int .i16 a0_3, .int .i16 a0_4, .int .i16 a0_5] 40 (0, 0)) (by (with_reducible repeat (first | refine zad ?_ _ | refine zab ?_ | refine zac ?_ _)); exact BK208.o)) : gb208 ≠ gb216)); have n6_ := zaa.mk ((by rw [hg]; exact Nat.ne_of_gt (zal (g := gb208) (o := .cells #[.int .i16 a0_0, .int .i16 a0_1, .int .i16 a0_2, .int .i16 a0_3, .int .i16 a0_4, .int .i16 a0_5] 40 (0, 0)) (by (with_reducible repeat (first | refine zad ?_ _ | refine zab ?_ | refine zac ?_ _)); exact BK208.o)) : gb216 ≠ gb208)); clear BK208; clear HB; have BK208 := n0_; have HB := n1_; have BK216 := n2_; have GW216 := n3_; have GE216 := n4_; have NB208_216 := n5_; have NB216_208 := n6_; clear n0_ n1_ n2_ n3_ n4_ n5_ n6_; clear hb hbox hg; have hnb10 := NB216_208.o; have hnc10 := NB208_216.o; obtain ⟨hcz11_0, hcz11_1, hcz11_2, hcz11_3, hcz11_4, hcz11_5⟩ := cz6 BK216.o; obtain ⟨hfz11_0, hfz11_1, hfz11_2, hfz11_3, hfz11_4, hfz11_5⟩ := fz6 BK216.o))
  have n0_ : zaa (((((((w9.setCell ⟨gb216, 0, none⟩ (.int .i64 t210)).setCell ⟨gb216, 1, none⟩ (.int .i64 t211)).setCell ⟨gb216, 2, none⟩ (.int .i64 t212)).setCell ⟨gb216, 3, none⟩ (.int .i64 t213)).setCell ⟨gb216, 4, none⟩ (.int .i64 t214)).setCell ⟨gb216, 5, none⟩ (.int .i64 t215)).heap[gb208]? = some (.cells #[.int .i16 a0_0, .int .i16 a0_1, .int .i16 a0_2, .int .i16 a0_3, .int .i16 a0_4, .int .i16 a0_5] 40 (0, 0))) := ⟨by (with_reducible repeat (first | refine zad ?_ _ | refine zab ?_ | refine zac ?_ _)); refine zam ?_ NB208_216.o _; (with_reducible repeat (first | refine zad ?_ _ | refine zab ?_ | refine zac ?_ _)); refine zam ?_ NB208_216.o _; (with_reducible repeat (first | refine zad ?_ _ | refine zab ?_ | refine zac ?_ _)); refine zam ?_ NB208_216.o _; (with_reducible repeat (first | refine zad ?_ _ | refine zab ?_ | refine zac ?_ _)); refine zam ?_ NB208_216.o _; (with_reducible repeat (first | refine zad ?_ _ | refine zab ?_ | refine zac ?_ _)); refine zam ?_ NB208_216.o _; (with_reducible repeat (first | refine zad ?_ _ | refine zab ?_ | refine zac ?_ _)); refine zam ?_ NB208_216.o _; (with_reducible repeat (first | refine zad ?_ _ | refine zab ?_ | refine zac ?_ _)); exact BK208.o⟩
  have n1_ : zaa (((((((w9.setCell ⟨gb216, 0, none⟩ (.int .i64 t210)).setCell ⟨gb216, 1, none⟩ (.int .i64 t211)).setCell ⟨gb216, 2, none⟩ (.int .i64 t212)).setCell ⟨gb216, 3, none⟩ (.int .i64 t213)).setCell ⟨gb216, 4, none⟩ (.int .i64 t214)).setCell ⟨gb216, 5, none⟩ (.int .i64 t215)).heap[gb216]? = some (.cells #[.int .i64 t210, .int .i64 t211, .int .i64 t212, .int .i64 t213, .int .i64 t214, .int .i64 t215] 41 (0, 0))) := ⟨by (with_reducible repeat (first | refine zad ?_ _ | refine zab ?_ | refine zac ?_ _)); refine zap (cs := #[.int .i64 t210, .int .i64 t211, .int .i64 t212, .int .i64 t213, .int .i64 t214, .int .i64 0]) ?_ 5 _ rfl; (with_reducible repeat (first | refine zad ?_ _ | refine zab ?_ | refine zac ?_ _)); refine zap (cs := #[.int .i64 t210, .int .i64 t211, .int .i64 t212, .int .i64 t213, .int .i64 0, .int .i64 0]) ?_ 4 _ rfl; (with_reducible repeat (first | refine zad ?_ _ | refine zab ?_ | refine zac ?_ _)); refine zap (cs := #[.int .i64 t210, .int .i64 t211, .int .i64 t212, .int .i64 0, .int .i64 0, .int .i64 0]) ?_ 3 _ rfl; (with_reducible repeat (first | refine zad ?_ _ | refine zab ?_ | refine zac ?_ _)); refine zap (cs := #[.int .i64 t210, .int .i64 t211, .int .i64 0, .int .i64 0, .int .i64 0, .int .i64 0]) ?_ 2 _ rfl; (with_reducible repeat (first | refine zad ?_ _ | refine zab ?_ | refine zac ?_ _)); refine zap (cs := #[.int .i64 t210, .int .i64 0, .int .i64 0, .int .i64 0, .int .i64 0, .int .i64 0]) ?_ 1 _ rfl; (with_reducible repeat (first | refine zad ?_ _ | refine zab ?_ | refine zac ?_ _)); refine zap (cs := #[.int .i64 0, .int .i64 0, .int .i64 0, .int .i64 0, .int .i64 0, .int .i64 0]) ?_ 0 _ rfl; (with_reducible repeat (first | refine zad ?_ _ | refine zab ?_ | refine zac ?_ _)); exact BK216.o⟩
  have n2_ : zaa (Below w.heap.size w ((((((w9.setCell ⟨gb216, 0, none⟩ (.int .i64 t210)).setCell ⟨gb216, 1, none⟩ (.int .i64 t211)).setCell ⟨gb216, 2, none⟩ (.int .i64 t212)).setCell ⟨gb216, 3, none⟩ (.int .i64 t213)).setCell ⟨gb216, 4, none⟩ (.int .i64 t214)).setCell ⟨gb216, 5, none⟩ (.int .i64 t215))) := ⟨by repeat (first | (with_reducible first | exact HB.o | apply zaf | apply zah | apply zag | refine zae ?_ GE208.o | refine zae ?_ GE216.o) | exact HB.o)⟩
  (try clear BK208)
  (try clear BK216)
  (try clear HB)
  generalize ((((((w9.setCell ⟨gb216, 0, none⟩ (.int .i64 t210)).setCell ⟨gb216, 1, none⟩ (.int .i64 t211)).setCell ⟨gb216, 2, none⟩ (.int .i64 t212)).setCell ⟨gb216, 3, none⟩ (.int .i64 t213)).setCell ⟨gb216, 4, none⟩ (.int .i64 t214)).setCell ⟨gb216, 5, none⟩ (.int .i64 t215)) = w12 at n0_ n1_ n2_ ⊢
  have BK208 := n0_
  have BK216 := n1_
  have HB := n2_
  clear n0_ n1_ n2_
  have n0_ := zaa.mk (zab BK208.o)
  have n1_ := zaa.mk (zab BK216.o)
  have n2_ := zaa.mk (zag HB.o)
  clear BK208
  clear BK216
  clear HB
  have BK208 := n0_
  have BK216 := n1_
  have HB := n2_
  clear n0_ n1_ n2_
  refine start_ (n := 12) (S := fun w' => w'.cell? ⟨gb216, 0, none⟩ = some (.int .i64 t210) ∧ w'.cell? ⟨gb216, 1, none⟩ = some (.int .i64 t211) ∧ w'.cell? ⟨gb216, 2, none⟩ = some (.int .i64 t212) ∧ w'.cell? ⟨gb216, 3, none⟩ = some (.int .i64 t213) ∧ w'.cell? ⟨gb216, 4, none⟩ = some (.int .i64 t214) ∧ w'.cell? ⟨gb216, 5, none⟩ = some (.int .i64 t215)) (ds := []) #[false, false, false, false, false, false, false, false, false, false, false, false] (by kernel_rfl) rfl rfl (cz6 BK216.o) (fun hHeld => ?_); refine with_tabW vinculumlaw02_RationalField.tab4 vinculumlaw02_RationalField.bits4 (fun HT_ HW_ => ?_)
  generalize w12.drew = w13 at BK208 BK216 HB hHeld ⊢
  refine pure_ (i := 0) (N := some 32) (v := ?_) (a' := ?_) #[true, false, false, false, false, false, false, false, false, false, false, false] rfl rfl (zaH HT_.out (by kernel_rfl)) (fun _ _ _ h => h) (Or.inl ⟨by rfl, ?_⟩) ?_ ?_
  rotate_left
  ·intro w'
   go_simp
   with_reducible rfl
  rotate_left
  ·simp only [Act.put, List.setIfInBounds_toArray, List.set_cons_zero, List.set_cons_succ, i64_w, i32_w]
   rfl
  refine pure_ (i := 2) (N := some 34) (v := ?_) (a' := ?_) #[true, false, true, false, false, false, false, false, false, false, false, false] rfl rfl (zaH HT_.out (by kernel_rfl)) (fun _ _ _ h => h) (Or.inl ⟨by rfl, ?_⟩) ?_ ?_
  rotate_left
  ·intro w'
   go_simp
   with_reducible rfl
  rotate_left
  ·simp only [Act.put, List.setIfInBounds_toArray, List.set_cons_zero, List.set_cons_succ, i64_w, i32_w]
   rfl
  refine pure_ (i := 4) (N := some 36) (v := ?_) (a' := ?_) #[true, false, true, false, true, false, false, false, false, false, false, false] rfl rfl (zaH HT_.out (by kernel_rfl)) (fun _ _ _ h => h) (Or.inl ⟨by rfl, ?_⟩) ?_ ?_
  rotate_left
  ·intro w'
   go_simp
   with_reducible rfl
  rotate_left
  ·simp only [Act.put, List.setIfInBounds_toArray, List.set_cons_zero, List.set_cons_succ, i64_w, i32_w]
   rfl
  refine take_ (i := 1) (N := some 33) (v := ?_) (a' := ?_) #[true, true, true, false, true, false, false, false, false, false, false, false] rfl rfl (zaK HT_.out HW_.out (by kernel_rfl)) (fun _ _ _ h => h) (Or.inl ⟨by rfl, ?_⟩) hHeld ?_ ?_
  rotate_left
  ·rintro w' ⟨s0, s1, s2, s3, s4, s5⟩
   go_simp
   with_reducible rfl
  rotate_left
  ·simp only [Act.put, List.setIfInBounds_toArray, List.set_cons_zero, List.set_cons_succ, i64_w, i32_w]
   rfl
  refine take_ (i := 3) (N := some 35) (v := ?_) (a' := ?_) #[true, true, true, true, true, false, false, false, false, false, false, false] rfl rfl (zaK HT_.out HW_.out (by kernel_rfl)) (fun _ _ _ h => h) (Or.inl ⟨by rfl, ?_⟩) hHeld ?_ ?_
  rotate_left
  ·rintro w' ⟨s0, s1, s2, s3, s4, s5⟩
   go_simp
   with_reducible rfl
  rotate_left
  ·simp only [Act.put, List.setIfInBounds_toArray, List.set_cons_zero, List.set_cons_succ, i64_w, i32_w]
   rfl
  refine take_ (i := 5) (N := some 37) (v := ?_) (a' := ?_) #[true, true, true, true, true, true, false, false, false, false, false, false] rfl rfl (zaK HT_.out HW_.out (by kernel_rfl)) (fun _ _ _ h => h) (Or.inl ⟨by rfl, ?_⟩) hHeld ?_ ?_
  rotate_left
  ·rintro w' ⟨s0, s1, s2, s3, s4, s5⟩
   go_simp
   with_reducible rfl
  rotate_left
  ·simp only [Act.put, List.setIfInBounds_toArray, List.set_cons_zero, List.set_cons_succ, i64_w, i32_w]
   rfl
  refine join_ (σ := Nat × Nat × Nat) 3 #[true, true, true, true, true, true, true, true, true, false, false, false] (fun s_ => [(4, .pointer (some ⟨s_.1, 0, none⟩)), (5, .pointer (some ⟨s_.2.1, 0, none⟩)), (6, .pointer (some ⟨s_.2.2, 0, none⟩))]) (fun s_ w' => (w'.cell? ⟨gb216, 0, none⟩ = some (.int .i64 t210) ∧ w'.cell? ⟨gb216, 1, none⟩ = some (.int .i64 t211) ∧ w'.cell? ⟨gb216, 2, none⟩ = some (.int .i64 t212) ∧ w'.cell? ⟨gb216, 3, none⟩ = some (.int .i64 t213) ∧ w'.cell? ⟨gb216, 4, none⟩ = some (.int .i64 t214) ∧ w'.cell? ⟨gb216, 5, none⟩ = some (.int .i64 t215)) ∧ (w'.heap[gb208]? = some (.cells #[.int .i16 a0_0, .int .i16 a0_1, .int .i16 a0_2, .int .i16 a0_3, .int .i16 a0_4, .int .i16 a0_5] 40 (0, 0))) ∧ (w'.heap[gb216]? = some (.cells #[.int .i64 t210, .int .i64 t211, .int .i64 t212, .int .i64 t213, .int .i64 t214, .int .i64 t215] 41 (0, 0))) ∧ (w'.heap[s_.1]? = some (.cells #[.int .i64 0, .int .i64 0] 24 (0, 0))) ∧ (w'.heap[s_.2.1]? = some (.cells #[.int .i64 0, .int .i64 0] 24 (0, 0))) ∧ (w'.heap[s_.2.2]? = some (.cells #[.int .i64 0, .int .i64 0] 24 (0, 0))) ∧ (w.heap.size ≤ s_.1) ∧ (w.heap.size ≤ s_.1) ∧ (gb208 ≠ s_.1) ∧ (s_.1 ≠ gb208) ∧ (gb216 ≠ s_.1) ∧ (s_.1 ≠ gb216) ∧ (s_.2.1 ≠ s_.1) ∧ (s_.1 ≠ s_.2.1) ∧ (s_.2.2 ≠ s_.1) ∧ (s_.1 ≠ s_.2.2) ∧ (w.heap.size ≤ s_.2.1) ∧ (w.heap.size ≤ s_.2.1) ∧ (gb208 ≠ s_.2.1) ∧ (s_.2.1 ≠ gb208) ∧ (gb216 ≠ s_.2.1) ∧ (s_.2.1 ≠ gb216) ∧ (s_.2.2 ≠ s_.2.1) ∧ (s_.2.1 ≠ s_.2.2) ∧ (w.heap.size ≤ s_.2.2) ∧ (w.heap.size ≤ s_.2.2) ∧ (gb208 ≠ s_.2.2) ∧ (s_.2.2 ≠ gb208) ∧ (gb216 ≠ s_.2.2) ∧ (s_.2.2 ≠ gb216) ∧ (Below w.heap.size w w')) ?_ ?_
  rotate_left
  ·intro hJ6_7_8
   refine join_ (σ := Nat × Nat) 4 #[true, true, true, true, true, true, true, true, false, false, false, false] (fun s_ => [(4, .pointer (some ⟨s_.1, 0, none⟩)), (5, .pointer (some ⟨s_.2, 0, none⟩))]) (fun s_ w' => (w'.cell? ⟨gb216, 0, none⟩ = some (.int .i64 t210) ∧ w'.cell? ⟨gb216, 1, none⟩ = some (.int .i64 t211) ∧ w'.cell? ⟨gb216, 2, none⟩ = some (.int .i64 t212) ∧ w'.cell? ⟨gb216, 3, none⟩ = some (.int .i64 t213) ∧ w'.cell? ⟨gb216, 4, none⟩ = some (.int .i64 t214) ∧ w'.cell? ⟨gb216, 5, none⟩ = some (.int .i64 t215)) ∧ (w'.heap[gb208]? = some (.cells #[.int .i16 a0_0, .int .i16 a0_1, .int .i16 a0_2, .int .i16 a0_3, .int .i16 a0_4, .int .i16 a0_5] 40 (0, 0))) ∧ (w'.heap[gb216]? = some (.cells #[.int .i64 t210, .int .i64 t211, .int .i64 t212, .int .i64 t213, .int .i64 t214, .int .i64 t215] 41 (0, 0))) ∧ (w'.heap[s_.1]? = some (.cells #[.int .i64 0, .int .i64 0] 24 (0, 0))) ∧ (w'.heap[s_.2]? = some (.cells #[.int .i64 0, .int .i64 0] 24 (0, 0))) ∧ (w.heap.size ≤ s_.1) ∧ (w.heap.size ≤ s_.1) ∧ (gb208 ≠ s_.1) ∧ (s_.1 ≠ gb208) ∧ (gb216 ≠ s_.1) ∧ (s_.1 ≠ gb216) ∧ (s_.2 ≠ s_.1) ∧ (s_.1 ≠ s_.2) ∧ (w.heap.size ≤ s_.2) ∧ (w.heap.size ≤ s_.2) ∧ (gb208 ≠ s_.2) ∧ (s_.2 ≠ gb208) ∧ (gb216 ≠ s_.2) ∧ (s_.2 ≠ gb216) ∧ (Below w.heap.size w w')) ?_ ?_
   rotate_left
   ·intro hJ6_7
    refine join_ (σ := Nat × Nat) 4 #[true, true, true, true, true, true, true, false, true, false, false, false] (fun s_ => [(4, .pointer (some ⟨s_.1, 0, none⟩)), (6, .pointer (some ⟨s_.2, 0, none⟩))]) (fun s_ w' => (w'.cell? ⟨gb216, 0, none⟩ = some (.int .i64 t210) ∧ w'.cell? ⟨gb216, 1, none⟩ = some (.int .i64 t211) ∧ w'.cell? ⟨gb216, 2, none⟩ = some (.int .i64 t212) ∧ w'.cell? ⟨gb216, 3, none⟩ = some (.int .i64 t213) ∧ w'.cell? ⟨gb216, 4, none⟩ = some (.int .i64 t214) ∧ w'.cell? ⟨gb216, 5, none⟩ = some (.int .i64 t215)) ∧ (w'.heap[gb208]? = some (.cells #[.int .i16 a0_0, .int .i16 a0_1, .int .i16 a0_2, .int .i16 a0_3, .int .i16 a0_4, .int .i16 a0_5] 40 (0, 0))) ∧ (w'.heap[gb216]? = some (.cells #[.int .i64 t210, .int .i64 t211, .int .i64 t212, .int .i64 t213, .int .i64 t214, .int .i64 t215] 41 (0, 0))) ∧ (w'.heap[s_.1]? = some (.cells #[.int .i64 0, .int .i64 0] 24 (0, 0))) ∧ (w'.heap[s_.2]? = some (.cells #[.int .i64 0, .int .i64 0] 24 (0, 0))) ∧ (w.heap.size ≤ s_.1) ∧ (w.heap.size ≤ s_.1) ∧ (gb208 ≠ s_.1) ∧ (s_.1 ≠ gb208) ∧ (gb216 ≠ s_.1) ∧ (s_.1 ≠ gb216) ∧ (s_.2 ≠ s_.1) ∧ (s_.1 ≠ s_.2) ∧ (w.heap.size ≤ s_.2) ∧ (w.heap.size ≤ s_.2) ∧ (gb208 ≠ s_.2) ∧ (s_.2 ≠ gb208) ∧ (gb216 ≠ s_.2) ∧ (s_.2 ≠ gb216) ∧ (Below w.heap.size w w')) ?_ ?_
    rotate_left
    ·intro hJ6_8
     refine join_ (σ := Nat × Nat) 4 #[true, true, true, true, true, true, false, true, true, false, false, false] (fun s_ => [(5, .pointer (some ⟨s_.1, 0, none⟩)), (6, .pointer (some ⟨s_.2, 0, none⟩))]) (fun s_ w' => (w'.cell? ⟨gb216, 0, none⟩ = some (.int .i64 t210) ∧ w'.cell? ⟨gb216, 1, none⟩ = some (.int .i64 t211) ∧ w'.cell? ⟨gb216, 2, none⟩ = some (.int .i64 t212) ∧ w'.cell? ⟨gb216, 3, none⟩ = some (.int .i64 t213) ∧ w'.cell? ⟨gb216, 4, none⟩ = some (.int .i64 t214) ∧ w'.cell? ⟨gb216, 5, none⟩ = some (.int .i64 t215)) ∧ (w'.heap[gb208]? = some (.cells #[.int .i16 a0_0, .int .i16 a0_1, .int .i16 a0_2, .int .i16 a0_3, .int .i16 a0_4, .int .i16 a0_5] 40 (0, 0))) ∧ (w'.heap[gb216]? = some (.cells #[.int .i64 t210, .int .i64 t211, .int .i64 t212, .int .i64 t213, .int .i64 t214, .int .i64 t215] 41 (0, 0))) ∧ (w'.heap[s_.1]? = some (.cells #[.int .i64 0, .int .i64 0] 24 (0, 0))) ∧ (w'.heap[s_.2]? = some (.cells #[.int .i64 0, .int .i64 0] 24 (0, 0))) ∧ (w.heap.size ≤ s_.1) ∧ (w.heap.size ≤ s_.1) ∧ (gb208 ≠ s_.1) ∧ (s_.1 ≠ gb208) ∧ (gb216 ≠ s_.1) ∧ (s_.1 ≠ gb216) ∧ (s_.2 ≠ s_.1) ∧ (s_.1 ≠ s_.2) ∧ (w.heap.size ≤ s_.2) ∧ (w.heap.size ≤ s_.2) ∧ (gb208 ≠ s_.2) ∧ (s_.2 ≠ gb208) ∧ (gb216 ≠ s_.2) ∧ (s_.2 ≠ gb216) ∧ (Below w.heap.size w w')) ?_ ?_
     rotate_left
     ·intro hJ7_8
      refine join_ (σ := Nat) 5 #[true, true, true, true, true, true, true, false, false, false, false, false] (fun s_ => [(4, .pointer (some ⟨s_, 0, none⟩))]) (fun s_ w' => (w'.cell? ⟨gb216, 0, none⟩ = some (.int .i64 t210) ∧ w'.cell? ⟨gb216, 1, none⟩ = some (.int .i64 t211) ∧ w'.cell? ⟨gb216, 2, none⟩ = some (.int .i64 t212) ∧ w'.cell? ⟨gb216, 3, none⟩ = some (.int .i64 t213) ∧ w'.cell? ⟨gb216, 4, none⟩ = some (.int .i64 t214) ∧ w'.cell? ⟨gb216, 5, none⟩ = some (.int .i64 t215)) ∧ (w'.heap[gb208]? = some (.cells #[.int .i16 a0_0, .int .i16 a0_1, .int .i16 a0_2, .int .i16 a0_3, .int .i16 a0_4, .int .i16 a0_5] 40 (0, 0))) ∧ (w'.heap[gb216]? = some (.cells #[.int .i64 t210, .int .i64 t211, .int .i64 t212, .int .i64 t213, .int .i64 t214, .int .i64 t215] 41 (0, 0))) ∧ (w'.heap[s_]? = some (.cells #[.int .i64 0, .int .i64 0] 24 (0, 0))) ∧ (w.heap.size ≤ s_) ∧ (w.heap.size ≤ s_) ∧ (gb208 ≠ s_) ∧ (s_ ≠ gb208) ∧ (gb216 ≠ s_) ∧ (s_ ≠ gb216) ∧ (Below w.heap.size w w')) ?_ ?_
      rotate_left
      ·intro hJ6
       refine join_ (σ := Nat) 5 #[true, true, true, true, true, true, false, true, false, false, false, false] (fun s_ => [(5, .pointer (some ⟨s_, 0, none⟩))]) (fun s_ w' => (w'.cell? ⟨gb216, 0, none⟩ = some (.int .i64 t210) ∧ w'.cell? ⟨gb216, 1, none⟩ = some (.int .i64 t211) ∧ w'.cell? ⟨gb216, 2, none⟩ = some (.int .i64 t212) ∧ w'.cell? ⟨gb216, 3, none⟩ = some (.int .i64 t213) ∧ w'.cell? ⟨gb216, 4, none⟩ = some (.int .i64 t214) ∧ w'.cell? ⟨gb216, 5, none⟩ = some (.int .i64 t215)) ∧ (w'.heap[gb208]? = some (.cells #[.int .i16 a0_0, .int .i16 a0_1, .int .i16 a0_2, .int .i16 a0_3, .int .i16 a0_4, .int .i16 a0_5] 40 (0, 0))) ∧ (w'.heap[gb216]? = some (.cells #[.int .i64 t210, .int .i64 t211, .int .i64 t212, .int .i64 t213, .int .i64 t214, .int .i64 t215] 41 (0, 0))) ∧ (w'.heap[s_]? = some (.cells #[.int .i64 0, .int .i64 0] 24 (0, 0))) ∧ (w.heap.size ≤ s_) ∧ (w.heap.size ≤ s_) ∧ (gb208 ≠ s_) ∧ (s_ ≠ gb208) ∧ (gb216 ≠ s_) ∧ (s_ ≠ gb216) ∧ (Below w.heap.size w w')) ?_ ?_
       rotate_left
       ·intro hJ7
        refine join_ (σ := Nat) 5 #[true, true, true, true, true, true, false, false, true, false, false, false] (fun s_ => [(6, .pointer (some ⟨s_, 0, none⟩))]) (fun s_ w' => (w'.cell? ⟨gb216, 0, none⟩ = some (.int .i64 t210) ∧ w'.cell? ⟨gb216, 1, none⟩ = some (.int .i64 t211) ∧ w'.cell? ⟨gb216, 2, none⟩ = some (.int .i64 t212) ∧ w'.cell? ⟨gb216, 3, none⟩ = some (.int .i64 t213) ∧ w'.cell? ⟨gb216, 4, none⟩ = some (.int .i64 t214) ∧ w'.cell? ⟨gb216, 5, none⟩ = some (.int .i64 t215)) ∧ (w'.heap[gb208]? = some (.cells #[.int .i16 a0_0, .int .i16 a0_1, .int .i16 a0_2, .int .i16 a0_3, .int .i16 a0_4, .int .i16 a0_5] 40 (0, 0))) ∧ (w'.heap[gb216]? = some (.cells #[.int .i64 t210, .int .i64 t211, .int .i64 t212, .int .i64 t213, .int .i64 t214, .int .i64 t215] 41 (0, 0))) ∧ (w'.heap[s_]? = some (.cells #[.int .i64 0, .int .i64 0] 24 (0, 0))) ∧ (w.heap.size ≤ s_) ∧ (w.heap.size ≤ s_) ∧ (gb208 ≠ s_) ∧ (s_ ≠ gb208) ∧ (gb216 ≠ s_) ∧ (s_ ≠ gb216) ∧ (Below w.heap.size w w')) ?_ ?_
        rotate_left
        ·intro hJ8
         refine three_ (i := 6) (j := 7) (k := 8) (Ni := some 4) (Nj := some 5) (Nk := some 6) #[true, true, true, true, true, true, true, false, false, false, false, false] #[true, true, true, true, true, true, false, true, false, false, false, false] #[true, true, true, true, true, true, false, false, true, false, false, false] rfl rfl rfl rfl rfl rfl (three_of HT_.out (by kernel_rfl)) (by decide) (by decide) (by decide) (fun K hK => ?_) (fun K hK => ?_) (fun K hK => ?_)
         ·skip
          refine zaI ?hg (N := 4) ?hd (cs := #[.int .i64 0, .int .i64 0]) (t := 24) ?hr ?_; (case hd => rfl); (case hg => rfl); (case hr => first | (go_simp; done) | (go_simp; rfl))
          intro gb217 hg w14 hbox hb
          have n0_ := zaa.mk (zaj (by (with_reducible repeat (first | refine zad ?_ _ | refine zab ?_ | refine zac ?_ _)); exact BK208.o) hb)
          have n1_ := zaa.mk (zaj (by (with_reducible repeat (first | refine zad ?_ _ | refine zab ?_ | refine zac ?_ _)); exact BK216.o) hb)
          have n2_ := zaa.mk (zao (by repeat (first | (with_reducible first | exact HB.o | apply zaf | apply zah | apply zag | refine zae ?_ GE208.o | refine zae ?_ GE216.o) | exact HB.o)) hb)
          have n3_ := zaa.mk (hbox)
          have n4_ := zaa.mk ((by rw [hg]; exact (zan (by repeat (first | (with_reducible first | exact HB.o | apply zaf | apply zah | apply zag | refine zae ?_ GE208.o | refine zae ?_ GE216.o) | exact HB.o))) : w.heap.size ≤ gb217))
          have n5_ := zaa.mk ((by rw [hg]; exact (zan (by repeat (first | (with_reducible first | exact HB.o | apply zaf | apply zah | apply zag | refine zae ?_ GE208.o | refine zae ?_ GE216.o) | exact HB.o))) : w.heap.size ≤ gb217))
          have n6_ := zaa.mk ((by rw [hg]; exact Nat.ne_of_lt (zal (g := gb208) (o := .cells #[.int .i16 a0_0, .int .i16 a0_1, .int .i16 a0_2, .int .i16 a0_3, .int .i16 a0_4, .int .i16 a0_5] 40 (0, 0)) (by (with_reducible repeat (first | refine zad ?_ _ | refine zab ?_ | refine zac ?_ _)); exact BK208.o)) : gb208 ≠ gb217))
          have n7_ := zaa.mk ((by rw [hg]; exact Nat.ne_of_gt (zal (g := gb208) (o := .cells #[.int .i16 a0_0, .int .i16 a0_1, .int .i16 a0_2, .int .i16 a0_3, .int .i16 a0_4, .int .i16 a0_5] 40 (0, 0)) (by (with_reducible repeat (first | refine zad ?_ _ | refine zab ?_ | refine zac ?_ _)); exact BK208.o)) : gb217 ≠ gb208))
          have n8_ := zaa.mk ((by rw [hg]; exact Nat.ne_of_lt (zal (g := gb216) (o := .cells #[.int .i64 t210, .int .i64 t211, .int .i64 t212, .int .i64 t213, .int .i64 t214, .int .i64 t215] 41 (0, 0)) (by (with_reducible repeat (first | refine zad ?_ _ | refine zab ?_ | refine zac ?_ _)); exact BK216.o)) : gb216 ≠ gb217))
          have n9_ := zaa.mk ((by rw [hg]; exact Nat.ne_of_gt (zal (g := gb216) (o := .cells #[.int .i64 t210, .int .i64 t211, .int .i64 t212, .int .i64 t213, .int .i64 t214, .int .i64 t215] 41 (0, 0)) (by (with_reducible repeat (first | refine zad ?_ _ | refine zab ?_ | refine zac ?_ _)); exact BK216.o)) : gb217 ≠ gb216))
          clear BK208
          clear BK216
          clear HB
          have BK208 := n0_
          have BK216 := n1_
          have HB := n2_
          have BK217 := n3_
          have GW217 := n4_
          have GE217 := n5_
          have NB208_217 := n6_
          have NB217_208 := n7_
          have NB216_217 := n8_
          have NB217_216 := n9_
          clear n0_ n1_ n2_ n3_ n4_ n5_ n6_ n7_ n8_ n9_
          clear hb hbox hg
          refine hK.out _ _ (cz6 BK216.o) (fun hHeld => ?_)
          clear hK K
          refine norm_ (a' := ?_) ?_ ?_
          rotate_left
          ·show Act.put _ (some 4) _ = _
           simp only [Act.put, List.setIfInBounds_toArray, List.set_cons_zero, List.set_cons_succ, i64_w, i32_w]
           rfl
          exact norm_ (by first | (simp only [zaF, Act.put, List.setIfInBounds_toArray, List.set_cons_zero, List.set_cons_succ]; done) | (simp only [zaF, Act.put, List.setIfInBounds_toArray, List.set_cons_zero, List.set_cons_succ]; rfl)) (hJ6 (gb217) _ ⟨hHeld, (by (with_reducible repeat (first | refine zad ?_ _ | refine zab ?_ | refine zac ?_ _)); exact BK208.o), (by (with_reducible repeat (first | refine zad ?_ _ | refine zab ?_ | refine zac ?_ _)); exact BK216.o), (by (with_reducible repeat (first | refine zad ?_ _ | refine zab ?_ | refine zac ?_ _)); exact BK217.o), GW217.o, GE217.o, NB208_217.o, NB217_208.o, NB216_217.o, NB217_216.o, (by repeat (first | (with_reducible first | exact HB.o | apply zaf | apply zah | apply zag | refine zae ?_ GE208.o | refine zae ?_ GE216.o | refine zae ?_ GE217.o) | exact HB.o))⟩)
         ·skip
          refine zaI ?hg (N := 5) ?hd (cs := #[.int .i64 0, .int .i64 0]) (t := 24) ?hr ?_; (case hd => rfl); (case hg => rfl); (case hr => first | (go_simp; done) | (go_simp; rfl))
          intro gb218 hg w14 hbox hb
          have n0_ := zaa.mk (zaj (by (with_reducible repeat (first | refine zad ?_ _ | refine zab ?_ | refine zac ?_ _)); exact BK208.o) hb)
          have n1_ := zaa.mk (zaj (by (with_reducible repeat (first | refine zad ?_ _ | refine zab ?_ | refine zac ?_ _)); exact BK216.o) hb)
          have n2_ := zaa.mk (zao (by repeat (first | (with_reducible first | exact HB.o | apply zaf | apply zah | apply zag | refine zae ?_ GE208.o | refine zae ?_ GE216.o) | exact HB.o)) hb)
          have n3_ := zaa.mk (hbox)
          have n4_ := zaa.mk ((by rw [hg]; exact (zan (by repeat (first | (with_reducible first | exact HB.o | apply zaf | apply zah | apply zag | refine zae ?_ GE208.o | refine zae ?_ GE216.o) | exact HB.o))) : w.heap.size ≤ gb218))
          have n5_ := zaa.mk ((by rw [hg]; exact (zan (by repeat (first | (with_reducible first | exact HB.o | apply zaf | apply zah | apply zag | refine zae ?_ GE208.o | refine zae ?_ GE216.o) | exact HB.o))) : w.heap.size ≤ gb218))
          have n6_ := zaa.mk ((by rw [hg]; exact Nat.ne_of_lt (zal (g := gb208) (o := .cells #[.int .i16 a0_0, .int .i16 a0_1, .int .i16 a0_2, .int .i16 a0_3, .int .i16 a0_4, .int .i16 a0_5] 40 (0, 0)) (by (with_reducible repeat (first | refine zad ?_ _ | refine zab ?_ | refine zac ?_ _)); exact BK208.o)) : gb208 ≠ gb218))
          have n7_ := zaa.mk ((by rw [hg]; exact Nat.ne_of_gt (zal (g := gb208) (o := .cells #[.int .i16 a0_0, .int .i16 a0_1, .int .i16 a0_2, .int .i16 a0_3, .int .i16 a0_4, .int .i16 a0_5] 40 (0, 0)) (by (with_reducible repeat (first | refine zad ?_ _ | refine zab ?_ | refine zac ?_ _)); exact BK208.o)) : gb218 ≠ gb208))
          have n8_ := zaa.mk ((by rw [hg]; exact Nat.ne_of_lt (zal (g := gb216) (o := .cells #[.int .i64 t210, .int .i64 t211, .int .i64 t212, .int .i64 t213, .int .i64 t214, .int .i64 t215] 41 (0, 0)) (by (with_reducible repeat (first | refine zad ?_ _ | refine zab ?_ | refine zac ?_ _)); exact BK216.o)) : gb216 ≠ gb218))
          have n9_ := zaa.mk ((by rw [hg]; exact Nat.ne_of_gt (zal (g := gb216) (o := .cells #[.int .i64 t210, .int .i64 t211, .int .i64 t212, .int .i64 t213, .int .i64 t214, .int .i64 t215] 41 (0, 0)) (by (with_reducible repeat (first | refine zad ?_ _ | refine zab ?_ | refine zac ?_ _)); exact BK216.o)) : gb218 ≠ gb216))
          clear BK208
          clear BK216
          clear HB
          have BK208 := n0_
          have BK216 := n1_
          have HB := n2_
          have BK218 := n3_
          have GW218 := n4_
          have GE218 := n5_
          have NB208_218 := n6_
          have NB218_208 := n7_
          have NB216_218 := n8_
          have NB218_216 := n9_
          clear n0_ n1_ n2_ n3_ n4_ n5_ n6_ n7_ n8_ n9_
          clear hb hbox hg
          refine hK.out _ _ (cz6 BK216.o) (fun hHeld => ?_)
          clear hK K
          refine norm_ (a' := ?_) ?_ ?_
          rotate_left
          ·show Act.put _ (some 5) _ = _
           simp only [Act.put, List.setIfInBounds_toArray, List.set_cons_zero, List.set_cons_succ, i64_w, i32_w]
           rfl
          exact norm_ (by first | (simp only [zaF, Act.put, List.setIfInBounds_toArray, List.set_cons_zero, List.set_cons_succ]; done) | (simp only [zaF, Act.put, List.setIfInBounds_toArray, List.set_cons_zero, List.set_cons_succ]; rfl)) (hJ7 (gb218) _ ⟨hHeld, (by (with_reducible repeat (first | refine zad ?_ _ | refine zab ?_ | refine zac ?_ _)); exact BK208.o), (by (with_reducible repeat (first | refine zad ?_ _ | refine zab ?_ | refine zac ?_ _)); exact BK216.o), (by (with_reducible repeat (first | refine zad ?_ _ | refine zab ?_ | refine zac ?_ _)); exact BK218.o), GW218.o, GE218.o, NB208_218.o, NB218_208.o, NB216_218.o, NB218_216.o, (by repeat (first | (with_reducible first | exact HB.o | apply zaf | apply zah | apply zag | refine zae ?_ GE208.o | refine zae ?_ GE216.o | refine zae ?_ GE218.o) | exact HB.o))⟩)
         ·skip
          refine zaI ?hg (N := 6) ?hd (cs := #[.int .i64 0, .int .i64 0]) (t := 24) ?hr ?_; (case hd => rfl); (case hg => rfl); (case hr => first | (go_simp; done) | (go_simp; rfl))
          intro gb219 hg w14 hbox hb
          have n0_ := zaa.mk (zaj (by (with_reducible repeat (first | refine zad ?_ _ | refine zab ?_ | refine zac ?_ _)); exact BK208.o) hb)
          have n1_ := zaa.mk (zaj (by (with_reducible repeat (first | refine zad ?_ _ | refine zab ?_ | refine zac ?_ _)); exact BK216.o) hb)
          have n2_ := zaa.mk (zao (by repeat (first | (with_reducible first | exact HB.o | apply zaf | apply zah | apply zag | refine zae ?_ GE208.o | refine zae ?_ GE216.o) | exact HB.o)) hb)
          have n3_ := zaa.mk (hbox)
          have n4_ := zaa.mk ((by rw [hg]; exact (zan (by repeat (first | (with_reducible first | exact HB.o | apply zaf | apply zah | apply zag | refine zae ?_ GE208.o | refine zae ?_ GE216.o) | exact HB.o))) : w.heap.size ≤ gb219))
          have n5_ := zaa.mk ((by rw [hg]; exact (zan (by repeat (first | (with_reducible first | exact HB.o | apply zaf | apply zah | apply zag | refine zae ?_ GE208.o | refine zae ?_ GE216.o) | exact HB.o))) : w.heap.size ≤ gb219))
          have n6_ := zaa.mk ((by rw [hg]; exact Nat.ne_of_lt (zal (g := gb208) (o := .cells #[.int .i16 a0_0, .int .i16 a0_1, .int .i16 a0_2, .int .i16 a0_3, .int .i16 a0_4, .int .i16 a0_5] 40 (0, 0)) (by (with_reducible repeat (first | refine zad ?_ _ | refine zab ?_ | refine zac ?_ _)); exact BK208.o)) : gb208 ≠ gb219))
          have n7_ := zaa.mk ((by rw [hg]; exact Nat.ne_of_gt (zal (g := gb208) (o := .cells #[.int .i16 a0_0, .int .i16 a0_1, .int .i16 a0_2, .int .i16 a0_3, .int .i16 a0_4, .int .i16 a0_5] 40 (0, 0)) (by (with_reducible repeat (first | refine zad ?_ _ | refine zab ?_ | refine zac ?_ _)); exact BK208.o)) : gb219 ≠ gb208))
          have n8_ := zaa.mk ((by rw [hg]; exact Nat.ne_of_lt (zal (g := gb216) (o := .cells #[.int .i64 t210, .int .i64 t211, .int .i64 t212, .int .i64 t213, .int .i64 t214, .int .i64 t215] 41 (0, 0)) (by (with_reducible repeat (first | refine zad ?_ _ | refine zab ?_ | refine zac ?_ _)); exact BK216.o)) : gb216 ≠ gb219))
          have n9_ := zaa.mk ((by rw [hg]; exact Nat.ne_of_gt (zal (g := gb216) (o := .cells #[.int .i64 t210, .int .i64 t211, .int .i64 t212, .int .i64 t213, .int .i64 t214, .int .i64 t215] 41 (0, 0)) (by (with_reducible repeat (first | refine zad ?_ _ | refine zab ?_ | refine zac ?_ _)); exact BK216.o)) : gb219 ≠ gb216))
          clear BK208
          clear BK216
          clear HB
          have BK208 := n0_
          have BK216 := n1_
          have HB := n2_
          have BK219 := n3_
          have GW219 := n4_
          have GE219 := n5_
          have NB208_219 := n6_
          have NB219_208 := n7_
          have NB216_219 := n8_
          have NB219_216 := n9_
          clear n0_ n1_ n2_ n3_ n4_ n5_ n6_ n7_ n8_ n9_
          clear hb hbox hg
          refine hK.out _ _ (cz6 BK216.o) (fun hHeld => ?_)
          clear hK K
          refine norm_ (a' := ?_) ?_ ?_
          rotate_left
          ·show Act.put _ (some 6) _ = _
           simp only [Act.put, List.setIfInBounds_toArray, List.set_cons_zero, List.set_cons_succ, i64_w, i32_w]
           rfl
          exact norm_ (by first | (simp only [zaF, Act.put, List.setIfInBounds_toArray, List.set_cons_zero, List.set_cons_succ]; done) | (simp only [zaF, Act.put, List.setIfInBounds_toArray, List.set_cons_zero, List.set_cons_succ]; rfl)) (hJ8 (gb219) _ ⟨hHeld, (by (with_reducible repeat (first | refine zad ?_ _ | refine zab ?_ | refine zac ?_ _)); exact BK208.o), (by (with_reducible repeat (first | refine zad ?_ _ | refine zab ?_ | refine zac ?_ _)); exact BK216.o), (by (with_reducible repeat (first | refine zad ?_ _ | refine zab ?_ | refine zac ?_ _)); exact BK219.o), GW219.o, GE219.o, NB208_219.o, NB219_208.o, NB216_219.o, NB219_216.o, (by repeat (first | (with_reducible first | exact HB.o | apply zaf | apply zah | apply zag | refine zae ?_ GE208.o | refine zae ?_ GE216.o | refine zae ?_ GE219.o) | exact HB.o))⟩)
        ·skip
         rintro gb219 w15 ⟨hS_, h0_, h1_, h2_, h3_, h4_, h5_, h6_, h7_, h8_, h9_⟩
         have n0_ : zaa (w15.heap[gb208]? = some (.cells #[.int .i16 a0_0, .int .i16 a0_1, .int .i16 a0_2, .int .i16 a0_3, .int .i16 a0_4, .int .i16 a0_5] 40 (0, 0))) := ⟨h0_⟩
         have n1_ : zaa (w15.heap[gb216]? = some (.cells #[.int .i64 t210, .int .i64 t211, .int .i64 t212, .int .i64 t213, .int .i64 t214, .int .i64 t215] 41 (0, 0))) := ⟨h1_⟩
         have n2_ : zaa (w15.heap[gb219]? = some (.cells #[.int .i64 0, .int .i64 0] 24 (0, 0))) := ⟨h2_⟩
         have n3_ : zaa (w.heap.size ≤ gb219) := ⟨h3_⟩
         have n4_ : zaa (w.heap.size ≤ gb219) := ⟨h4_⟩
         have n5_ : zaa (gb208 ≠ gb219) := ⟨h5_⟩
         have n6_ : zaa (gb219 ≠ gb208) := ⟨h6_⟩
         have n7_ : zaa (gb216 ≠ gb219) := ⟨h7_⟩
         have n8_ : zaa (gb219 ≠ gb216) := ⟨h8_⟩
         have n9_ : zaa (Below w.heap.size w w15) := ⟨h9_⟩
         clear BK208
         clear BK216
         clear HB
         clear h0_ h1_ h2_ h3_ h4_ h5_ h6_ h7_ h8_ h9_
         have BK208 := n0_
         have BK216 := n1_
         have BK219 := n2_
         have GW219 := n3_
         have GE219 := n4_
         have NB208_219 := n5_
         have NB219_208 := n6_
         have NB216_219 := n7_
         have NB219_216 := n8_
         have HB := n9_
         clear n0_ n1_ n2_ n3_ n4_ n5_ n6_ n7_ n8_ n9_
         have hHeld : w15.cell? ⟨gb216, 0, none⟩ = some (.int .i64 t210) ∧ w15.cell? ⟨gb216, 1, none⟩ = some (.int .i64 t211) ∧ w15.cell? ⟨gb216, 2, none⟩ = some (.int .i64 t212) ∧ w15.cell? ⟨gb216, 3, none⟩ = some (.int .i64 t213) ∧ w15.cell? ⟨gb216, 4, none⟩ = some (.int .i64 t214) ∧ w15.cell? ⟨gb216, 5, none⟩ = some (.int .i64 t215) := hS_
         refine norm_ (a' := ?_) ?_ ?_
         rotate_left
         ·simp only [zaF, Act.put, List.setIfInBounds_toArray, List.set_cons_zero, List.set_cons_succ]
          rfl
         refine two_ (i := 6) (j := 7) (Ni := some 4) (Nj := some 5) #[true, true, true, true, true, true, true, false, true, false, false, false] #[true, true, true, true, true, true, false, true, true, false, false, false] rfl rfl rfl rfl (two_of HT_.out (by kernel_rfl)) (by decide) (by decide) (fun K hK => ?_) (fun K hK => ?_)
         ·skip
          refine zaI ?hg (N := 4) ?hd (cs := #[.int .i64 0, .int .i64 0]) (t := 24) ?hr ?_; (case hd => rfl); (case hg => rfl); (case hr => first | (go_simp; done) | (go_simp; rfl))
          intro gb217 hg w16 hbox hb
          have n0_ := zaa.mk (zaj (by (with_reducible repeat (first | refine zad ?_ _ | refine zab ?_ | refine zac ?_ _)); exact BK208.o) hb)
          have n1_ := zaa.mk (zaj (by (with_reducible repeat (first | refine zad ?_ _ | refine zab ?_ | refine zac ?_ _)); exact BK216.o) hb)
          have n2_ := zaa.mk (zaj (by (with_reducible repeat (first | refine zad ?_ _ | refine zab ?_ | refine zac ?_ _)); exact BK219.o) hb)
          have n3_ := zaa.mk (zao (by repeat (first | (with_reducible first | exact HB.o | apply zaf | apply zah | apply zag | refine zae ?_ GE208.o | refine zae ?_ GE216.o | refine zae ?_ GE219.o) | exact HB.o)) hb)
          have n4_ := zaa.mk (hbox)
          have n5_ := zaa.mk ((by rw [hg]; exact (zan (by repeat (first | (with_reducible first | exact HB.o | apply zaf | apply zah | apply zag | refine zae ?_ GE208.o | refine zae ?_ GE216.o | refine zae ?_ GE219.o) | exact HB.o))) : w.heap.size ≤ gb217))
          have n6_ := zaa.mk ((by rw [hg]; exact (zan (by repeat (first | (with_reducible first | exact HB.o | apply zaf | apply zah | apply zag | refine zae ?_ GE208.o | refine zae ?_ GE216.o | refine zae ?_ GE219.o) | exact HB.o))) : w.heap.size ≤ gb217))
          have n7_ := zaa.mk ((by rw [hg]; exact Nat.ne_of_lt (zal (g := gb208) (o := .cells #[.int .i16 a0_0, .int .i16 a0_1, .int .i16 a0_2, .int .i16 a0_3, .int .i16 a0_4, .int .i16 a0_5] 40 (0, 0)) (by (with_reducible repeat (first | refine zad ?_ _ | refine zab ?_ | refine zac ?_ _)); exact BK208.o)) : gb208 ≠ gb217))
          have n8_ := zaa.mk ((by rw [hg]; exact Nat.ne_of_gt (zal (g := gb208) (o := .cells #[.int .i16 a0_0, .int .i16 a0_1, .int .i16 a0_2, .int .i16 a0_3, .int .i16 a0_4, .int .i16 a0_5] 40 (0, 0)) (by (with_reducible repeat (first | refine zad ?_ _ | refine zab ?_ | refine zac ?_ _)); exact BK208.o)) : gb217 ≠ gb208))
          have n9_ := zaa.mk ((by rw [hg]; exact Nat.ne_of_lt (zal (g := gb216) (o := .cells #[.int .i64 t210, .int .i64 t211, .int .i64 t212, .int .i64 t213, .int .i64 t214, .int .i64 t215] 41 (0, 0)) (by (with_reducible repeat (first | refine zad ?_ _ | refine zab ?_ | refine zac ?_ _)); exact BK216.o)) : gb216 ≠ gb217))
          have n10_ := zaa.mk ((by rw [hg]; exact Nat.ne_of_gt (zal (g := gb216) (o := .cells #[.int .i64 t210, .int .i64 t211, .int .i64 t212, .int .i64 t213, .int .i64 t214, .int .i64 t215] 41 (0, 0)) (by (with_reducible repeat (first | refine zad ?_ _ | refine zab ?_ | refine zac ?_ _)); exact BK216.o)) : gb217 ≠ gb216))
          have n11_ := zaa.mk ((by rw [hg]; exact Nat.ne_of_lt (zal (g := gb219) (o := .cells #[.int .i64 0, .int .i64 0] 24 (0, 0)) (by (with_reducible repeat (first | refine zad ?_ _ | refine zab ?_ | refine zac ?_ _)); exact BK219.o)) : gb219 ≠ gb217))
          have n12_ := zaa.mk ((by rw [hg]; exact Nat.ne_of_gt (zal (g := gb219) (o := .cells #[.int .i64 0, .int .i64 0] 24 (0, 0)) (by (with_reducible repeat (first | refine zad ?_ _ | refine zab ?_ | refine zac ?_ _)); exact BK219.o)) : gb217 ≠ gb219))
          clear BK208
          clear BK216
          clear BK219
          clear HB
          have BK208 := n0_
          have BK216 := n1_
          have BK219 := n2_
          have HB := n3_
          have BK217 := n4_
          have GW217 := n5_
          have GE217 := n6_
          have NB208_217 := n7_
          have NB217_208 := n8_
          have NB216_217 := n9_
          have NB217_216 := n10_
          have NB219_217 := n11_
          have NB217_219 := n12_
          clear n0_ n1_ n2_ n3_ n4_ n5_ n6_ n7_ n8_ n9_ n10_ n11_ n12_
          clear hb hbox hg
          refine hK.out _ _ (cz6 BK216.o) (fun hHeld => ?_)
          clear hK K
          refine norm_ (a' := ?_) ?_ ?_
          rotate_left
          ·show Act.put _ (some 4) _ = _
           simp only [Act.put, List.setIfInBounds_toArray, List.set_cons_zero, List.set_cons_succ, i64_w, i32_w]
           rfl
          exact norm_ (by first | (simp only [zaF, Act.put, List.setIfInBounds_toArray, List.set_cons_zero, List.set_cons_succ]; done) | (simp only [zaF, Act.put, List.setIfInBounds_toArray, List.set_cons_zero, List.set_cons_succ]; rfl)) (hJ6_8 (gb217, gb219) _ ⟨hHeld, (by (with_reducible repeat (first | refine zad ?_ _ | refine zab ?_ | refine zac ?_ _)); exact BK208.o), (by (with_reducible repeat (first | refine zad ?_ _ | refine zab ?_ | refine zac ?_ _)); exact BK216.o), (by (with_reducible repeat (first | refine zad ?_ _ | refine zab ?_ | refine zac ?_ _)); exact BK217.o), (by (with_reducible repeat (first | refine zad ?_ _ | refine zab ?_ | refine zac ?_ _)); exact BK219.o), GW217.o, GE217.o, NB208_217.o, NB217_208.o, NB216_217.o, NB217_216.o, NB219_217.o, NB217_219.o, GW219.o, GE219.o, NB208_219.o, NB219_208.o, NB216_219.o, NB219_216.o, (by repeat (first | (with_reducible first | exact HB.o | apply zaf | apply zah | apply zag | refine zae ?_ GE208.o | refine zae ?_ GE216.o | refine zae ?_ GE219.o | refine zae ?_ GE217.o) | exact HB.o))⟩)
         ·skip
          refine zaI ?hg (N := 5) ?hd (cs := #[.int .i64 0, .int .i64 0]) (t := 24) ?hr ?_; (case hd => rfl); (case hg => rfl); (case hr => first | (go_simp; done) | (go_simp; rfl))
          intro gb218 hg w16 hbox hb
          have n0_ := zaa.mk (zaj (by (with_reducible repeat (first | refine zad ?_ _ | refine zab ?_ | refine zac ?_ _)); exact BK208.o) hb)
          have n1_ := zaa.mk (zaj (by (with_reducible repeat (first | refine zad ?_ _ | refine zab ?_ | refine zac ?_ _)); exact BK216.o) hb)
          have n2_ := zaa.mk (zaj (by (with_reducible repeat (first | refine zad ?_ _ | refine zab ?_ | refine zac ?_ _)); exact BK219.o) hb)
          have n3_ := zaa.mk (zao (by repeat (first | (with_reducible first | exact HB.o | apply zaf | apply zah | apply zag | refine zae ?_ GE208.o | refine zae ?_ GE216.o | refine zae ?_ GE219.o) | exact HB.o)) hb)
          have n4_ := zaa.mk (hbox)
          have n5_ := zaa.mk ((by rw [hg]; exact (zan (by repeat (first | (with_reducible first | exact HB.o | apply zaf | apply zah | apply zag | refine zae ?_ GE208.o | refine zae ?_ GE216.o | refine zae ?_ GE219.o) | exact HB.o))) : w.heap.size ≤ gb218))
          have n6_ := zaa.mk ((by rw [hg]; exact (zan (by repeat (first | (with_reducible first | exact HB.o | apply zaf | apply zah | apply zag | refine zae ?_ GE208.o | refine zae ?_ GE216.o | refine zae ?_ GE219.o) | exact HB.o))) : w.heap.size ≤ gb218))
          have n7_ := zaa.mk ((by rw [hg]; exact Nat.ne_of_lt (zal (g := gb208) (o := .cells #[.int .i16 a0_0, .int .i16 a0_1, .int .i16 a0_2, .int .i16 a0_3, .int .i16 a0_4, .int .i16 a0_5] 40 (0, 0)) (by (with_reducible repeat (first | refine zad ?_ _ | refine zab ?_ | refine zac ?_ _)); exact BK208.o)) : gb208 ≠ gb218))
          have n8_ := zaa.mk ((by rw [hg]; exact Nat.ne_of_gt (zal (g := gb208) (o := .cells #[.int .i16 a0_0, .int .i16 a0_1, .int .i16 a0_2, .int .i16 a0_3, .int .i16 a0_4, .int .i16 a0_5] 40 (0, 0)) (by (with_reducible repeat (first | refine zad ?_ _ | refine zab ?_ | refine zac ?_ _)); exact BK208.o)) : gb218 ≠ gb208))
          have n9_ := zaa.mk ((by rw [hg]; exact Nat.ne_of_lt (zal (g := gb216) (o := .cells #[.int .i64 t210, .int .i64 t211, .int .i64 t212, .int .i64 t213, .int .i64 t214, .int .i64 t215] 41 (0, 0)) (by (with_reducible repeat (first | refine zad ?_ _ | refine zab ?_ | refine zac ?_ _)); exact BK216.o)) : gb216 ≠ gb218))
          have n10_ := zaa.mk ((by rw [hg]; exact Nat.ne_of_gt (zal (g := gb216) (o := .cells #[.int .i64 t210, .int .i64 t211, .int .i64 t212, .int .i64 t213, .int .i64 t214, .int .i64 t215] 41 (0, 0)) (by (with_reducible repeat (first | refine zad ?_ _ | refine zab ?_ | refine zac ?_ _)); exact BK216.o)) : gb218 ≠ gb216))
          have n11_ := zaa.mk ((by rw [hg]; exact Nat.ne_of_lt (zal (g := gb219) (o := .cells #[.int .i64 0, .int .i64 0] 24 (0, 0)) (by (with_reducible repeat (first | refine zad ?_ _ | refine zab ?_ | refine zac ?_ _)); exact BK219.o)) : gb219 ≠ gb218))
          have n12_ := zaa.mk ((by rw [hg]; exact Nat.ne_of_gt (zal (g := gb219) (o := .cells #[.int .i64 0, .int .i64 0] 24 (0, 0)) (by (with_reducible repeat (first | refine zad ?_ _ | refine zab ?_ | refine zac ?_ _)); exact BK219.o)) : gb218 ≠ gb219))
          clear BK208
          clear BK216
          clear BK219
          clear HB
          have BK208 := n0_
          have BK216 := n1_
          have BK219 := n2_
          have HB := n3_
          have BK218 := n4_
          have GW218 := n5_
          have GE218 := n6_
          have NB208_218 := n7_
          have NB218_208 := n8_
          have NB216_218 := n9_
          have NB218_216 := n10_
          have NB219_218 := n11_
          have NB218_219 := n12_
          clear n0_ n1_ n2_ n3_ n4_ n5_ n6_ n7_ n8_ n9_ n10_ n11_ n12_
          clear hb hbox hg
          refine hK.out _ _ (cz6 BK216.o) (fun hHeld => ?_)
          clear hK K
          refine norm_ (a' := ?_) ?_ ?_
          rotate_left
          ·show Act.put _ (some 5) _ = _
           simp only [Act.put, List.setIfInBounds_toArray, List.set_cons_zero, List.set_cons_succ, i64_w, i32_w]
           rfl
          exact norm_ (by first | (simp only [zaF, Act.put, List.setIfInBounds_toArray, List.set_cons_zero, List.set_cons_succ]; done) | (simp only [zaF, Act.put, List.setIfInBounds_toArray, List.set_cons_zero, List.set_cons_succ]; rfl)) (hJ7_8 (gb218, gb219) _ ⟨hHeld, (by (with_reducible repeat (first | refine zad ?_ _ | refine zab ?_ | refine zac ?_ _)); exact BK208.o), (by (with_reducible repeat (first | refine zad ?_ _ | refine zab ?_ | refine zac ?_ _)); exact BK216.o), (by (with_reducible repeat (first | refine zad ?_ _ | refine zab ?_ | refine zac ?_ _)); exact BK218.o), (by (with_reducible repeat (first | refine zad ?_ _ | refine zab ?_ | refine zac ?_ _)); exact BK219.o), GW218.o, GE218.o, NB208_218.o, NB218_208.o, NB216_218.o, NB218_216.o, NB219_218.o, NB218_219.o, GW219.o, GE219.o, NB208_219.o, NB219_208.o, NB216_219.o, NB219_216.o, (by repeat (first | (with_reducible first | exact HB.o | apply zaf | apply zah | apply zag | refine zae ?_ GE208.o | refine zae ?_ GE216.o | refine zae ?_ GE219.o | refine zae ?_ GE218.o) | exact HB.o))⟩)
       ·skip
        rintro gb218 w15 ⟨hS_, h0_, h1_, h2_, h3_, h4_, h5_, h6_, h7_, h8_, h9_⟩
        have n0_ : zaa (w15.heap[gb208]? = some (.cells #[.int .i16 a0_0, .int .i16 a0_1, .int .i16 a0_2, .int .i16 a0_3, .int .i16 a0_4, .int .i16 a0_5] 40 (0, 0))) := ⟨h0_⟩
        have n1_ : zaa (w15.heap[gb216]? = some (.cells #[.int .i64 t210, .int .i64 t211, .int .i64 t212, .int .i64 t213, .int .i64 t214, .int .i64 t215] 41 (0, 0))) := ⟨h1_⟩
        have n2_ : zaa (w15.heap[gb218]? = some (.cells #[.int .i64 0, .int .i64 0] 24 (0, 0))) := ⟨h2_⟩
        have n3_ : zaa (w.heap.size ≤ gb218) := ⟨h3_⟩
        have n4_ : zaa (w.heap.size ≤ gb218) := ⟨h4_⟩
        have n5_ : zaa (gb208 ≠ gb218) := ⟨h5_⟩
        have n6_ : zaa (gb218 ≠ gb208) := ⟨h6_⟩
        have n7_ : zaa (gb216 ≠ gb218) := ⟨h7_⟩
        have n8_ : zaa (gb218 ≠ gb216) := ⟨h8_⟩
        have n9_ : zaa (Below w.heap.size w w15) := ⟨h9_⟩
        clear BK208
        clear BK216
        clear HB
        clear h0_ h1_ h2_ h3_ h4_ h5_ h6_ h7_ h8_ h9_
        have BK208 := n0_
        have BK216 := n1_
        have BK218 := n2_
        have GW218 := n3_
        have GE218 := n4_
        have NB208_218 := n5_
        have NB218_208 := n6_
        have NB216_218 := n7_
        have NB218_216 := n8_
        have HB := n9_
        clear n0_ n1_ n2_ n3_ n4_ n5_ n6_ n7_ n8_ n9_
        have hHeld : w15.cell? ⟨gb216, 0, none⟩ = some (.int .i64 t210) ∧ w15.cell? ⟨gb216, 1, none⟩ = some (.int .i64 t211) ∧ w15.cell? ⟨gb216, 2, none⟩ = some (.int .i64 t212) ∧ w15.cell? ⟨gb216, 3, none⟩ = some (.int .i64 t213) ∧ w15.cell? ⟨gb216, 4, none⟩ = some (.int .i64 t214) ∧ w15.cell? ⟨gb216, 5, none⟩ = some (.int .i64 t215) := hS_
        refine norm_ (a' := ?_) ?_ ?_
        rotate_left
        ·simp only [zaF, Act.put, List.setIfInBounds_toArray, List.set_cons_zero, List.set_cons_succ]
         rfl
        refine two_ (i := 6) (j := 8) (Ni := some 4) (Nj := some 6) #[true, true, true, true, true, true, true, true, false, false, false, false] #[true, true, true, true, true, true, false, true, true, false, false, false] rfl rfl rfl rfl (two_of HT_.out (by kernel_rfl)) (by decide) (by decide) (fun K hK => ?_) (fun K hK => ?_)
        ·skip
         refine zaI ?hg (N := 4) ?hd (cs := #[.int .i64 0, .int .i64 0]) (t := 24) ?hr ?_; (case hd => rfl); (case hg => rfl); (case hr => first | (go_simp; done) | (go_simp; rfl))
         intro gb217 hg w16 hbox hb
         have n0_ := zaa.mk (zaj (by (with_reducible repeat (first | refine zad ?_ _ | refine zab ?_ | refine zac ?_ _)); exact BK208.o) hb)
         have n1_ := zaa.mk (zaj (by (with_reducible repeat (first | refine zad ?_ _ | refine zab ?_ | refine zac ?_ _)); exact BK216.o) hb)
         have n2_ := zaa.mk (zaj (by (with_reducible repeat (first | refine zad ?_ _ | refine zab ?_ | refine zac ?_ _)); exact BK218.o) hb)
         have n3_ := zaa.mk (zao (by repeat (first | (with_reducible first | exact HB.o | apply zaf | apply zah | apply zag | refine zae ?_ GE208.o | refine zae ?_ GE216.o | refine zae ?_ GE218.o) | exact HB.o)) hb)
         have n4_ := zaa.mk (hbox)
         have n5_ := zaa.mk ((by rw [hg]; exact (zan (by repeat (first | (with_reducible first | exact HB.o | apply zaf | apply zah | apply zag | refine zae ?_ GE208.o | refine zae ?_ GE216.o | refine zae ?_ GE218.o) | exact HB.o))) : w.heap.size ≤ gb217))
         have n6_ := zaa.mk ((by rw [hg]; exact (zan (by repeat (first | (with_reducible first | exact HB.o | apply zaf | apply zah | apply zag | refine zae ?_ GE208.o | refine zae ?_ GE216.o | refine zae ?_ GE218.o) | exact HB.o))) : w.heap.size ≤ gb217))
         have n7_ := zaa.mk ((by rw [hg]; exact Nat.ne_of_lt (zal (g := gb208) (o := .cells #[.int .i16 a0_0, .int .i16 a0_1, .int .i16 a0_2, .int .i16 a0_3, .int .i16 a0_4, .int .i16 a0_5] 40 (0, 0)) (by (with_reducible repeat (first | refine zad ?_ _ | refine zab ?_ | refine zac ?_ _)); exact BK208.o)) : gb208 ≠ gb217))
         have n8_ := zaa.mk ((by rw [hg]; exact Nat.ne_of_gt (zal (g := gb208) (o := .cells #[.int .i16 a0_0, .int .i16 a0_1, .int .i16 a0_2, .int .i16 a0_3, .int .i16 a0_4, .int .i16 a0_5] 40 (0, 0)) (by (with_reducible repeat (first | refine zad ?_ _ | refine zab ?_ | refine zac ?_ _)); exact BK208.o)) : gb217 ≠ gb208))
         have n9_ := zaa.mk ((by rw [hg]; exact Nat.ne_of_lt (zal (g := gb216) (o := .cells #[.int .i64 t210, .int .i64 t211, .int .i64 t212, .int .i64 t213, .int .i64 t214, .int .i64 t215] 41 (0, 0)) (by (with_reducible repeat (first | refine zad ?_ _ | refine zab ?_ | refine zac ?_ _)); exact BK216.o)) : gb216 ≠ gb217))
         have n10_ := zaa.mk ((by rw [hg]; exact Nat.ne_of_gt (zal (g := gb216) (o := .cells #[.int .i64 t210, .int .i64 t211, .int .i64 t212, .int .i64 t213, .int .i64 t214, .int .i64 t215] 41 (0, 0)) (by (with_reducible repeat (first | refine zad ?_ _ | refine zab ?_ | refine zac ?_ _)); exact BK216.o)) : gb217 ≠ gb216))
         have n11_ := zaa.mk ((by rw [hg]; exact Nat.ne_of_lt (zal (g := gb218) (o := .cells #[.int .i64 0, .int .i64 0] 24 (0, 0)) (by (with_reducible repeat (first | refine zad ?_ _ | refine zab ?_ | refine zac ?_ _)); exact BK218.o)) : gb218 ≠ gb217))
         have n12_ := zaa.mk ((by rw [hg]; exact Nat.ne_of_gt (zal (g := gb218) (o := .cells #[.int .i64 0, .int .i64 0] 24 (0, 0)) (by (with_reducible repeat (first | refine zad ?_ _ | refine zab ?_ | refine zac ?_ _)); exact BK218.o)) : gb217 ≠ gb218))
         clear BK208
         clear BK216
         clear BK218
         clear HB
         have BK208 := n0_
         have BK216 := n1_
         have BK218 := n2_
         have HB := n3_
         have BK217 := n4_
         have GW217 := n5_
         have GE217 := n6_
         have NB208_217 := n7_
         have NB217_208 := n8_
         have NB216_217 := n9_
         have NB217_216 := n10_
         have NB218_217 := n11_
         have NB217_218 := n12_
         clear n0_ n1_ n2_ n3_ n4_ n5_ n6_ n7_ n8_ n9_ n10_ n11_ n12_
         clear hb hbox hg
         refine hK.out _ _ (cz6 BK216.o) (fun hHeld => ?_)
         clear hK K
         refine norm_ (a' := ?_) ?_ ?_
         rotate_left
         ·show Act.put _ (some 4) _ = _
          simp only [Act.put, List.setIfInBounds_toArray, List.set_cons_zero, List.set_cons_succ, i64_w, i32_w]
          rfl
         exact norm_ (by first | (simp only [zaF, Act.put, List.setIfInBounds_toArray, List.set_cons_zero, List.set_cons_succ]; done) | (simp only [zaF, Act.put, List.setIfInBounds_toArray, List.set_cons_zero, List.set_cons_succ]; rfl)) (hJ6_7 (gb217, gb218) _ ⟨hHeld, (by (with_reducible repeat (first | refine zad ?_ _ | refine zab ?_ | refine zac ?_ _)); exact BK208.o), (by (with_reducible repeat (first | refine zad ?_ _ | refine zab ?_ | refine zac ?_ _)); exact BK216.o), (by (with_reducible repeat (first | refine zad ?_ _ | refine zab ?_ | refine zac ?_ _)); exact BK217.o), (by (with_reducible repeat (first | refine zad ?_ _ | refine zab ?_ | refine zac ?_ _)); exact BK218.o), GW217.o, GE217.o, NB208_217.o, NB217_208.o, NB216_217.o, NB217_216.o, NB218_217.o, NB217_218.o, GW218.o, GE218.o, NB208_218.o, NB218_208.o, NB216_218.o, NB218_216.o, (by repeat (first | (with_reducible first | exact HB.o | apply zaf | apply zah | apply zag | refine zae ?_ GE208.o | refine zae ?_ GE216.o | refine zae ?_ GE218.o | refine zae ?_ GE217.o) | exact HB.o))⟩)
        ·skip
         refine zaI ?hg (N := 6) ?hd (cs := #[.int .i64 0, .int .i64 0]) (t := 24) ?hr ?_; (case hd => rfl); (case hg => rfl); (case hr => first | (go_simp; done) | (go_simp; rfl))
         intro gb219 hg w16 hbox hb
         have n0_ := zaa.mk (zaj (by (with_reducible repeat (first | refine zad ?_ _ | refine zab ?_ | refine zac ?_ _)); exact BK208.o) hb)
         have n1_ := zaa.mk (zaj (by (with_reducible repeat (first | refine zad ?_ _ | refine zab ?_ | refine zac ?_ _)); exact BK216.o) hb)
         have n2_ := zaa.mk (zaj (by (with_reducible repeat (first | refine zad ?_ _ | refine zab ?_ | refine zac ?_ _)); exact BK218.o) hb)
         have n3_ := zaa.mk (zao (by repeat (first | (with_reducible first | exact HB.o | apply zaf | apply zah | apply zag | refine zae ?_ GE208.o | refine zae ?_ GE216.o | refine zae ?_ GE218.o) | exact HB.o)) hb)
         have n4_ := zaa.mk (hbox)
         have n5_ := zaa.mk ((by rw [hg]; exact (zan (by repeat (first | (with_reducible first | exact HB.o | apply zaf | apply zah | apply zag | refine zae ?_ GE208.o | refine zae ?_ GE216.o | refine zae ?_ GE218.o) | exact HB.o))) : w.heap.size ≤ gb219))
         have n6_ := zaa.mk ((by rw [hg]; exact (zan (by repeat (first | (with_reducible first | exact HB.o | apply zaf | apply zah | apply zag | refine zae ?_ GE208.o | refine zae ?_ GE216.o | refine zae ?_ GE218.o) | exact HB.o))) : w.heap.size ≤ gb219))
         have n7_ := zaa.mk ((by rw [hg]; exact Nat.ne_of_lt (zal (g := gb208) (o := .cells #[.int .i16 a0_0, .int .i16 a0_1, .int .i16 a0_2, .int .i16 a0_3, .int .i16 a0_4, .int .i16 a0_5] 40 (0, 0)) (by (with_reducible repeat (first | refine zad ?_ _ | refine zab ?_ | refine zac ?_ _)); exact BK208.o)) : gb208 ≠ gb219))
         have n8_ := zaa.mk ((by rw [hg]; exact Nat.ne_of_gt (zal (g := gb208) (o := .cells #[.int .i16 a0_0, .int .i16 a0_1, .int .i16 a0_2, .int .i16 a0_3, .int .i16 a0_4, .int .i16 a0_5] 40 (0, 0)) (by (with_reducible repeat (first | refine zad ?_ _ | refine zab ?_ | refine zac ?_ _)); exact BK208.o)) : gb219 ≠ gb208))
         have n9_ := zaa.mk ((by rw [hg]; exact Nat.ne_of_lt (zal (g := gb216) (o := .cells #[.int .i64 t210, .int .i64 t211, .int .i64 t212, .int .i64 t213, .int .i64 t214, .int .i64 t215] 41 (0, 0)) (by (with_reducible repeat (first | refine zad ?_ _ | refine zab ?_ | refine zac ?_ _)); exact BK216.o)) : gb216 ≠ gb219))
         have n10_ := zaa.mk ((by rw [hg]; exact Nat.ne_of_gt (zal (g := gb216) (o := .cells #[.int .i64 t210, .int .i64 t211, .int .i64 t212, .int .i64 t213, .int .i64 t214, .int .i64 t215] 41 (0, 0)) (by (with_reducible repeat (first | refine zad ?_ _ | refine zab ?_ | refine zac ?_ _)); exact BK216.o)) : gb219 ≠ gb216))
         have n11_ := zaa.mk ((by rw [hg]; exact Nat.ne_of_lt (zal (g := gb218) (o := .cells #[.int .i64 0, .int .i64 0] 24 (0, 0)) (by (with_reducible repeat (first | refine zad ?_ _ | refine zab ?_ | refine zac ?_ _)); exact BK218.o)) : gb218 ≠ gb219))
         have n12_ := zaa.mk ((by rw [hg]; exact Nat.ne_of_gt (zal (g := gb218) (o := .cells #[.int .i64 0, .int .i64 0] 24 (0, 0)) (by (with_reducible repeat (first | refine zad ?_ _ | refine zab ?_ | refine zac ?_ _)); exact BK218.o)) : gb219 ≠ gb218))
         clear BK208
         clear BK216
         clear BK218
         clear HB
         have BK208 := n0_
         have BK216 := n1_
         have BK218 := n2_
         have HB := n3_
         have BK219 := n4_
         have GW219 := n5_
         have GE219 := n6_
         have NB208_219 := n7_
         have NB219_208 := n8_
         have NB216_219 := n9_
         have NB219_216 := n10_
         have NB218_219 := n11_
         have NB219_218 := n12_
         clear n0_ n1_ n2_ n3_ n4_ n5_ n6_ n7_ n8_ n9_ n10_ n11_ n12_
         clear hb hbox hg
         refine hK.out _ _ (cz6 BK216.o) (fun hHeld => ?_)
         clear hK K
         refine norm_ (a' := ?_) ?_ ?_
         rotate_left
         ·show Act.put _ (some 6) _ = _
          simp only [Act.put, List.setIfInBounds_toArray, List.set_cons_zero, List.set_cons_succ, i64_w, i32_w]
          rfl
         exact norm_ (by first | (simp only [zaF, Act.put, List.setIfInBounds_toArray, List.set_cons_zero, List.set_cons_succ]; done) | (simp only [zaF, Act.put, List.setIfInBounds_toArray, List.set_cons_zero, List.set_cons_succ]; rfl)) (hJ7_8 (gb218, gb219) _ ⟨hHeld, (by (with_reducible repeat (first | refine zad ?_ _ | refine zab ?_ | refine zac ?_ _)); exact BK208.o), (by (with_reducible repeat (first | refine zad ?_ _ | refine zab ?_ | refine zac ?_ _)); exact BK216.o), (by (with_reducible repeat (first | refine zad ?_ _ | refine zab ?_ | refine zac ?_ _)); exact BK218.o), (by (with_reducible repeat (first | refine zad ?_ _ | refine zab ?_ | refine zac ?_ _)); exact BK219.o), GW218.o, GE218.o, NB208_218.o, NB218_208.o, NB216_218.o, NB218_216.o, NB219_218.o, NB218_219.o, GW219.o, GE219.o, NB208_219.o, NB219_208.o, NB216_219.o, NB219_216.o, (by repeat (first | (with_reducible first | exact HB.o | apply zaf | apply zah | apply zag | refine zae ?_ GE208.o | refine zae ?_ GE216.o | refine zae ?_ GE218.o | refine zae ?_ GE219.o) | exact HB.o))⟩)
      ·skip
       rintro gb217 w15 ⟨hS_, h0_, h1_, h2_, h3_, h4_, h5_, h6_, h7_, h8_, h9_⟩
       have n0_ : zaa (w15.heap[gb208]? = some (.cells #[.int .i16 a0_0, .int .i16 a0_1, .int .i16 a0_2, .int .i16 a0_3, .int .i16 a0_4, .int .i16 a0_5] 40 (0, 0))) := ⟨h0_⟩
       have n1_ : zaa (w15.heap[gb216]? = some (.cells #[.int .i64 t210, .int .i64 t211, .int .i64 t212, .int .i64 t213, .int .i64 t214, .int .i64 t215] 41 (0, 0))) := ⟨h1_⟩
       have n2_ : zaa (w15.heap[gb217]? = some (.cells #[.int .i64 0, .int .i64 0] 24 (0, 0))) := ⟨h2_⟩
       have n3_ : zaa (w.heap.size ≤ gb217) := ⟨h3_⟩
       have n4_ : zaa (w.heap.size ≤ gb217) := ⟨h4_⟩
       have n5_ : zaa (gb208 ≠ gb217) := ⟨h5_⟩
       have n6_ : zaa (gb217 ≠ gb208) := ⟨h6_⟩
       have n7_ : zaa (gb216 ≠ gb217) := ⟨h7_⟩
       have n8_ : zaa (gb217 ≠ gb216) := ⟨h8_⟩
       have n9_ : zaa (Below w.heap.size w w15) := ⟨h9_⟩
       clear BK208
       clear BK216
       clear HB
       clear h0_ h1_ h2_ h3_ h4_ h5_ h6_ h7_ h8_ h9_
       have BK208 := n0_
       have BK216 := n1_
       have BK217 := n2_
       have GW217 := n3_
       have GE217 := n4_
       have NB208_217 := n5_
       have NB217_208 := n6_
       have NB216_217 := n7_
       have NB217_216 := n8_
       have HB := n9_
       clear n0_ n1_ n2_ n3_ n4_ n5_ n6_ n7_ n8_ n9_
       have hHeld : w15.cell? ⟨gb216, 0, none⟩ = some (.int .i64 t210) ∧ w15.cell? ⟨gb216, 1, none⟩ = some (.int .i64 t211) ∧ w15.cell? ⟨gb216, 2, none⟩ = some (.int .i64 t212) ∧ w15.cell? ⟨gb216, 3, none⟩ = some (.int .i64 t213) ∧ w15.cell? ⟨gb216, 4, none⟩ = some (.int .i64 t214) ∧ w15.cell? ⟨gb216, 5, none⟩ = some (.int .i64 t215) := hS_
       refine norm_ (a' := ?_) ?_ ?_
       rotate_left
       ·simp only [zaF, Act.put, List.setIfInBounds_toArray, List.set_cons_zero, List.set_cons_succ]
        rfl
       refine two_ (i := 7) (j := 8) (Ni := some 5) (Nj := some 6) #[true, true, true, true, true, true, true, true, false, false, false, false] #[true, true, true, true, true, true, true, false, true, false, false, false] rfl rfl rfl rfl (two_of HT_.out (by kernel_rfl)) (by decide) (by decide) (fun K hK => ?_) (fun K hK => ?_)
       ·skip
        refine zaI ?hg (N := 5) ?hd (cs := #[.int .i64 0, .int .i64 0]) (t := 24) ?hr ?_; (case hd => rfl); (case hg => rfl); (case hr => first | (go_simp; done) | (go_simp; rfl))
        intro gb218 hg w16 hbox hb
        have n0_ := zaa.mk (zaj (by (with_reducible repeat (first | refine zad ?_ _ | refine zab ?_ | refine zac ?_ _)); exact BK208.o) hb)
        have n1_ := zaa.mk (zaj (by (with_reducible repeat (first | refine zad ?_ _ | refine zab ?_ | refine zac ?_ _)); exact BK216.o) hb)
        have n2_ := zaa.mk (zaj (by (with_reducible repeat (first | refine zad ?_ _ | refine zab ?_ | refine zac ?_ _)); exact BK217.o) hb)
        have n3_ := zaa.mk (zao (by repeat (first | (with_reducible first | exact HB.o | apply zaf | apply zah | apply zag | refine zae ?_ GE208.o | refine zae ?_ GE216.o | refine zae ?_ GE217.o) | exact HB.o)) hb)
        have n4_ := zaa.mk (hbox)
        have n5_ := zaa.mk ((by rw [hg]; exact (zan (by repeat (first | (with_reducible first | exact HB.o | apply zaf | apply zah | apply zag | refine zae ?_ GE208.o | refine zae ?_ GE216.o | refine zae ?_ GE217.o) | exact HB.o))) : w.heap.size ≤ gb218))
        have n6_ := zaa.mk ((by rw [hg]; exact (zan (by repeat (first | (with_reducible first | exact HB.o | apply zaf | apply zah | apply zag | refine zae ?_ GE208.o | refine zae ?_ GE216.o | refine zae ?_ GE217.o) | exact HB.o))) : w.heap.size ≤ gb218))
        have n7_ := zaa.mk ((by rw [hg]; exact Nat.ne_of_lt (zal (g := gb208) (o := .cells #[.int .i16 a0_0, .int .i16 a0_1, .int .i16 a0_2, .int .i16 a0_3, .int .i16 a0_4, .int .i16 a0_5] 40 (0, 0)) (by (with_reducible repeat (first | refine zad ?_ _ | refine zab ?_ | refine zac ?_ _)); exact BK208.o)) : gb208 ≠ gb218))
        have n8_ := zaa.mk ((by rw [hg]; exact Nat.ne_of_gt (zal (g := gb208) (o := .cells #[.int .i16 a0_0, .int .i16 a0_1, .int .i16 a0_2, .int .i16 a0_3, .int .i16 a0_4, .int .i16 a0_5] 40 (0, 0)) (by (with_reducible repeat (first | refine zad ?_ _ | refine zab ?_ | refine zac ?_ _)); exact BK208.o)) : gb218 ≠ gb208))
        have n9_ := zaa.mk ((by rw [hg]; exact Nat.ne_of_lt (zal (g := gb216) (o := .cells #[.int .i64 t210, .int .i64 t211, .int .i64 t212, .int .i64 t213, .int .i64 t214, .int .i64 t215] 41 (0, 0)) (by (with_reducible repeat (first | refine zad ?_ _ | refine zab ?_ | refine zac ?_ _)); exact BK216.o)) : gb216 ≠ gb218))
        have n10_ := zaa.mk ((by rw [hg]; exact Nat.ne_of_gt (zal (g := gb216) (o := .cells #[.int .i64 t210, .int .i64 t211, .int .i64 t212, .int .i64 t213, .int .i64 t214, .int .i64 t215] 41 (0, 0)) (by (with_reducible repeat (first | refine zad ?_ _ | refine zab ?_ | refine zac ?_ _)); exact BK216.o)) : gb218 ≠ gb216))
        have n11_ := zaa.mk ((by rw [hg]; exact Nat.ne_of_lt (zal (g := gb217) (o := .cells #[.int .i64 0, .int .i64 0] 24 (0, 0)) (by (with_reducible repeat (first | refine zad ?_ _ | refine zab ?_ | refine zac ?_ _)); exact BK217.o)) : gb217 ≠ gb218))
        have n12_ := zaa.mk ((by rw [hg]; exact Nat.ne_of_gt (zal (g := gb217) (o := .cells #[.int .i64 0, .int .i64 0] 24 (0, 0)) (by (with_reducible repeat (first | refine zad ?_ _ | refine zab ?_ | refine zac ?_ _)); exact BK217.o)) : gb218 ≠ gb217))
        clear BK208
        clear BK216
        clear BK217
        clear HB
        have BK208 := n0_
        have BK216 := n1_
        have BK217 := n2_
        have HB := n3_
        have BK218 := n4_
        have GW218 := n5_
        have GE218 := n6_
        have NB208_218 := n7_
        have NB218_208 := n8_
        have NB216_218 := n9_
        have NB218_216 := n10_
        have NB217_218 := n11_
        have NB218_217 := n12_
        clear n0_ n1_ n2_ n3_ n4_ n5_ n6_ n7_ n8_ n9_ n10_ n11_ n12_
        clear hb hbox hg
        refine hK.out _ _ (cz6 BK216.o) (fun hHeld => ?_)
        clear hK K
        refine norm_ (a' := ?_) ?_ ?_
        rotate_left
        ·show Act.put _ (some 5) _ = _
         simp only [Act.put, List.setIfInBounds_toArray, List.set_cons_zero, List.set_cons_succ, i64_w, i32_w]
         rfl
        exact norm_ (by first | (simp only [zaF, Act.put, List.setIfInBounds_toArray, List.set_cons_zero, List.set_cons_succ]; done) | (simp only [zaF, Act.put, List.setIfInBounds_toArray, List.set_cons_zero, List.set_cons_succ]; rfl)) (hJ6_7 (gb217, gb218) _ ⟨hHeld, (by (with_reducible repeat (first | refine zad ?_ _ | refine zab ?_ | refine zac ?_ _)); exact BK208.o), (by (with_reducible repeat (first | refine zad ?_ _ | refine zab ?_ | refine zac ?_ _)); exact BK216.o), (by (with_reducible repeat (first | refine zad ?_ _ | refine zab ?_ | refine zac ?_ _)); exact BK217.o), (by (with_reducible repeat (first | refine zad ?_ _ | refine zab ?_ | refine zac ?_ _)); exact BK218.o), GW217.o, GE217.o, NB208_217.o, NB217_208.o, NB216_217.o, NB217_216.o, NB218_217.o, NB217_218.o, GW218.o, GE218.o, NB208_218.o, NB218_208.o, NB216_218.o, NB218_216.o, (by repeat (first | (with_reducible first | exact HB.o | apply zaf | apply zah | apply zag | refine zae ?_ GE208.o | refine zae ?_ GE216.o | refine zae ?_ GE217.o | refine zae ?_ GE218.o) | exact HB.o))⟩)
       ·skip
        refine zaI ?hg (N := 6) ?hd (cs := #[.int .i64 0, .int .i64 0]) (t := 24) ?hr ?_; (case hd => rfl); (case hg => rfl); (case hr => first | (go_simp; done) | (go_simp; rfl))
        intro gb219 hg w16 hbox hb
        have n0_ := zaa.mk (zaj (by (with_reducible repeat (first | refine zad ?_ _ | refine zab ?_ | refine zac ?_ _)); exact BK208.o) hb)
        have n1_ := zaa.mk (zaj (by (with_reducible repeat (first | refine zad ?_ _ | refine zab ?_ | refine zac ?_ _)); exact BK216.o) hb)
        have n2_ := zaa.mk (zaj (by (with_reducible repeat (first | refine zad ?_ _ | refine zab ?_ | refine zac ?_ _)); exact BK217.o) hb)
        have n3_ := zaa.mk (zao (by repeat (first | (with_reducible first | exact HB.o | apply zaf | apply zah | apply zag | refine zae ?_ GE208.o | refine zae ?_ GE216.o | refine zae ?_ GE217.o) | exact HB.o)) hb)
        have n4_ := zaa.mk (hbox)
        have n5_ := zaa.mk ((by rw [hg]; exact (zan (by repeat (first | (with_reducible first | exact HB.o | apply zaf | apply zah | apply zag | refine zae ?_ GE208.o | refine zae ?_ GE216.o | refine zae ?_ GE217.o) | exact HB.o))) : w.heap.size ≤ gb219))
        have n6_ := zaa.mk ((by rw [hg]; exact (zan (by repeat (first | (with_reducible first | exact HB.o | apply zaf | apply zah | apply zag | refine zae ?_ GE208.o | refine zae ?_ GE216.o | refine zae ?_ GE217.o) | exact HB.o))) : w.heap.size ≤ gb219))
        have n7_ := zaa.mk ((by rw [hg]; exact Nat.ne_of_lt (zal (g := gb208) (o := .cells #[.int .i16 a0_0, .int .i16 a0_1, .int .i16 a0_2, .int .i16 a0_3, .int .i16 a0_4, .int .i16 a0_5] 40 (0, 0)) (by (with_reducible repeat (first | refine zad ?_ _ | refine zab ?_ | refine zac ?_ _)); exact BK208.o)) : gb208 ≠ gb219))
        have n8_ := zaa.mk ((by rw [hg]; exact Nat.ne_of_gt (zal (g := gb208) (o := .cells #[.int .i16 a0_0, .int .i16 a0_1, .int .i16 a0_2, .int .i16 a0_3, .int .i16 a0_4, .int .i16 a0_5] 40 (0, 0)) (by (with_reducible repeat (first | refine zad ?_ _ | refine zab ?_ | refine zac ?_ _)); exact BK208.o)) : gb219 ≠ gb208))
        have n9_ := zaa.mk ((by rw [hg]; exact Nat.ne_of_lt (zal (g := gb216) (o := .cells #[.int .i64 t210, .int .i64 t211, .int .i64 t212, .int .i64 t213, .int .i64 t214, .int .i64 t215] 41 (0, 0)) (by (with_reducible repeat (first | refine zad ?_ _ | refine zab ?_ | refine zac ?_ _)); exact BK216.o)) : gb216 ≠ gb219))
        have n10_ := zaa.mk ((by rw [hg]; exact Nat.ne_of_gt (zal (g := gb216) (o := .cells #[.int .i64 t210, .int .i64 t211, .int .i64 t212, .int .i64 t213, .int .i64 t214, .int .i64 t215] 41 (0, 0)) (by (with_reducible repeat (first | refine zad ?_ _ | refine zab ?_ | refine zac ?_ _)); exact BK216.o)) : gb219 ≠ gb216))
        have n11_ := zaa.mk ((by rw [hg]; exact Nat.ne_of_lt (zal (g := gb217) (o := .cells #[.int .i64 0, .int .i64 0] 24 (0, 0)) (by (with_reducible repeat (first | refine zad ?_ _ | refine zab ?_ | refine zac ?_ _)); exact BK217.o)) : gb217 ≠ gb219))
        have n12_ := zaa.mk ((by rw [hg]; exact Nat.ne_of_gt (zal (g := gb217) (o := .cells #[.int .i64 0, .int .i64 0] 24 (0, 0)) (by (with_reducible repeat (first | refine zad ?_ _ | refine zab ?_ | refine zac ?_ _)); exact BK217.o)) : gb219 ≠ gb217))
        clear BK208
        clear BK216
        clear BK217
        clear HB
        have BK208 := n0_
        have BK216 := n1_
        have BK217 := n2_
        have HB := n3_
        have BK219 := n4_
        have GW219 := n5_
        have GE219 := n6_
        have NB208_219 := n7_
        have NB219_208 := n8_
        have NB216_219 := n9_
        have NB219_216 := n10_
        have NB217_219 := n11_
        have NB219_217 := n12_
        clear n0_ n1_ n2_ n3_ n4_ n5_ n6_ n7_ n8_ n9_ n10_ n11_ n12_
        clear hb hbox hg
        refine hK.out _ _ (cz6 BK216.o) (fun hHeld => ?_)
        clear hK K
        refine norm_ (a' := ?_) ?_ ?_
        rotate_left
        ·show Act.put _ (some 6) _ = _
         simp only [Act.put, List.setIfInBounds_toArray, List.set_cons_zero, List.set_cons_succ, i64_w, i32_w]
         rfl
        exact norm_ (by first | (simp only [zaF, Act.put, List.setIfInBounds_toArray, List.set_cons_zero, List.set_cons_succ]; done) | (simp only [zaF, Act.put, List.setIfInBounds_toArray, List.set_cons_zero, List.set_cons_succ]; rfl)) (hJ6_8 (gb217, gb219) _ ⟨hHeld, (by (with_reducible repeat (first | refine zad ?_ _ | refine zab ?_ | refine zac ?_ _)); exact BK208.o), (by (with_reducible repeat (first | refine zad ?_ _ | refine zab ?_ | refine zac ?_ _)); exact BK216.o), (by (with_reducible repeat (first | refine zad ?_ _ | refine zab ?_ | refine zac ?_ _)); exact BK217.o), (by (with_reducible repeat (first | refine zad ?_ _ | refine zab ?_ | refine zac ?_ _)); exact BK219.o), GW217.o, GE217.o, NB208_217.o, NB217_208.o, NB216_217.o, NB217_216.o, NB219_217.o, NB217_219.o, GW219.o, GE219.o, NB208_219.o, NB219_208.o, NB216_219.o, NB219_216.o, (by repeat (first | (with_reducible first | exact HB.o | apply zaf | apply zah | apply zag | refine zae ?_ GE208.o | refine zae ?_ GE216.o | refine zae ?_ GE217.o | refine zae ?_ GE219.o) | exact HB.o))⟩)
     ·skip
      rintro ⟨gb218, gb219⟩ w16 ⟨hS_, h0_, h1_, h2_, h3_, h4_, h5_, h6_, h7_, h8_, h9_, h10_, h11_, h12_, h13_, h14_, h15_, h16_, h17_, h18_⟩
      have n0_ : zaa (w16.heap[gb208]? = some (.cells #[.int .i16 a0_0, .int .i16 a0_1, .int .i16 a0_2, .int .i16 a0_3, .int .i16 a0_4, .int .i16 a0_5] 40 (0, 0))) := ⟨h0_⟩
      have n1_ : zaa (w16.heap[gb216]? = some (.cells #[.int .i64 t210, .int .i64 t211, .int .i64 t212, .int .i64 t213, .int .i64 t214, .int .i64 t215] 41 (0, 0))) := ⟨h1_⟩
      have n2_ : zaa (w16.heap[gb218]? = some (.cells #[.int .i64 0, .int .i64 0] 24 (0, 0))) := ⟨h2_⟩
      have n3_ : zaa (w16.heap[gb219]? = some (.cells #[.int .i64 0, .int .i64 0] 24 (0, 0))) := ⟨h3_⟩
      have n4_ : zaa (w.heap.size ≤ gb218) := ⟨h4_⟩
      have n5_ : zaa (w.heap.size ≤ gb218) := ⟨h5_⟩
      have n6_ : zaa (gb208 ≠ gb218) := ⟨h6_⟩
      have n7_ : zaa (gb218 ≠ gb208) := ⟨h7_⟩
      have n8_ : zaa (gb216 ≠ gb218) := ⟨h8_⟩
      have n9_ : zaa (gb218 ≠ gb216) := ⟨h9_⟩
      have n10_ : zaa (gb219 ≠ gb218) := ⟨h10_⟩
      have n11_ : zaa (gb218 ≠ gb219) := ⟨h11_⟩
      have n12_ : zaa (w.heap.size ≤ gb219) := ⟨h12_⟩
      have n13_ : zaa (w.heap.size ≤ gb219) := ⟨h13_⟩
      have n14_ : zaa (gb208 ≠ gb219) := ⟨h14_⟩
      have n15_ : zaa (gb219 ≠ gb208) := ⟨h15_⟩
      have n16_ : zaa (gb216 ≠ gb219) := ⟨h16_⟩
      have n17_ : zaa (gb219 ≠ gb216) := ⟨h17_⟩
      have n18_ : zaa (Below w.heap.size w w16) := ⟨h18_⟩
      clear BK208
      clear BK216
      clear HB
      clear h0_ h1_ h2_ h3_ h4_ h5_ h6_ h7_ h8_ h9_ h10_ h11_ h12_ h13_ h14_ h15_ h16_ h17_ h18_
      have BK208 := n0_
      have BK216 := n1_
      have BK218 := n2_
      have BK219 := n3_
      have GW218 := n4_
      have GE218 := n5_
      have NB208_218 := n6_
      have NB218_208 := n7_
      have NB216_218 := n8_
      have NB218_216 := n9_
      have NB219_218 := n10_
      have NB218_219 := n11_
      have GW219 := n12_
      have GE219 := n13_
      have NB208_219 := n14_
      have NB219_208 := n15_
      have NB216_219 := n16_
      have NB219_216 := n17_
      have HB := n18_
      clear n0_ n1_ n2_ n3_ n4_ n5_ n6_ n7_ n8_ n9_ n10_ n11_ n12_ n13_ n14_ n15_ n16_ n17_ n18_
      have hHeld : w16.cell? ⟨gb216, 0, none⟩ = some (.int .i64 t210) ∧ w16.cell? ⟨gb216, 1, none⟩ = some (.int .i64 t211) ∧ w16.cell? ⟨gb216, 2, none⟩ = some (.int .i64 t212) ∧ w16.cell? ⟨gb216, 3, none⟩ = some (.int .i64 t213) ∧ w16.cell? ⟨gb216, 4, none⟩ = some (.int .i64 t214) ∧ w16.cell? ⟨gb216, 5, none⟩ = some (.int .i64 t215) := hS_
      refine norm_ (a' := ?_) ?_ ?_
      rotate_left
      ·simp only [zaF, Act.put, List.setIfInBounds_toArray, List.set_cons_zero, List.set_cons_succ]
       rfl
      refine one_ (i := 6) (N := some 4) #[true, true, true, true, true, true, true, true, true, false, false, false] rfl rfl (zaJ HT_.out (by kernel_rfl)) (by decide) (fun K hK => ?_)
      refine zaI ?hg (N := 4) ?hd (cs := #[.int .i64 0, .int .i64 0]) (t := 24) ?hr ?_; (case hd => rfl); (case hg => rfl); (case hr => first | (go_simp; done) | (go_simp; rfl))
      intro gb217 hg w17 hbox hb
      have n0_ := zaa.mk (zaj (by (with_reducible repeat (first | refine zad ?_ _ | refine zab ?_ | refine zac ?_ _)); exact BK208.o) hb)
      have n1_ := zaa.mk (zaj (by (with_reducible repeat (first | refine zad ?_ _ | refine zab ?_ | refine zac ?_ _)); exact BK216.o) hb)
      have n2_ := zaa.mk (zaj (by (with_reducible repeat (first | refine zad ?_ _ | refine zab ?_ | refine zac ?_ _)); exact BK218.o) hb)
      have n3_ := zaa.mk (zaj (by (with_reducible repeat (first | refine zad ?_ _ | refine zab ?_ | refine zac ?_ _)); exact BK219.o) hb)
      have n4_ := zaa.mk (zao (by repeat (first | (with_reducible first | exact HB.o | apply zaf | apply zah | apply zag | refine zae ?_ GE208.o | refine zae ?_ GE216.o | refine zae ?_ GE218.o | refine zae ?_ GE219.o) | exact HB.o)) hb)
      have n5_ := zaa.mk (hbox)
      have n6_ := zaa.mk ((by rw [hg]; exact (zan (by repeat (first | (with_reducible first | exact HB.o | apply zaf | apply zah | apply zag | refine zae ?_ GE208.o | refine zae ?_ GE216.o | refine zae ?_ GE218.o | refine zae ?_ GE219.o) | exact HB.o))) : w.heap.size ≤ gb217))
      have n7_ := zaa.mk ((by rw [hg]; exact (zan (by repeat (first | (with_reducible first | exact HB.o | apply zaf | apply zah | apply zag | refine zae ?_ GE208.o | refine zae ?_ GE216.o | refine zae ?_ GE218.o | refine zae ?_ GE219.o) | exact HB.o))) : w.heap.size ≤ gb217))
      have n8_ := zaa.mk ((by rw [hg]; exact Nat.ne_of_lt (zal (g := gb208) (o := .cells #[.int .i16 a0_0, .int .i16 a0_1, .int .i16 a0_2, .int .i16 a0_3, .int .i16 a0_4, .int .i16 a0_5] 40 (0, 0)) (by (with_reducible repeat (first | refine zad ?_ _ | refine zab ?_ | refine zac ?_ _)); exact BK208.o)) : gb208 ≠ gb217))
      have n9_ := zaa.mk ((by rw [hg]; exact Nat.ne_of_gt (zal (g := gb208) (o := .cells #[.int .i16 a0_0, .int .i16 a0_1, .int .i16 a0_2, .int .i16 a0_3, .int .i16 a0_4, .int .i16 a0_5] 40 (0, 0)) (by (with_reducible repeat (first | refine zad ?_ _ | refine zab ?_ | refine zac ?_ _)); exact BK208.o)) : gb217 ≠ gb208))
      have n10_ := zaa.mk ((by rw [hg]; exact Nat.ne_of_lt (zal (g := gb216) (o := .cells #[.int .i64 t210, .int .i64 t211, .int .i64 t212, .int .i64 t213, .int .i64 t214, .int .i64 t215] 41 (0, 0)) (by (with_reducible repeat (first | refine zad ?_ _ | refine zab ?_ | refine zac ?_ _)); exact BK216.o)) : gb216 ≠ gb217))
      have n11_ := zaa.mk ((by rw [hg]; exact Nat.ne_of_gt (zal (g := gb216) (o := .cells #[.int .i64 t210, .int .i64 t211, .int .i64 t212, .int .i64 t213, .int .i64 t214, .int .i64 t215] 41 (0, 0)) (by (with_reducible repeat (first | refine zad ?_ _ | refine zab ?_ | refine zac ?_ _)); exact BK216.o)) : gb217 ≠ gb216))
      have n12_ := zaa.mk ((by rw [hg]; exact Nat.ne_of_lt (zal (g := gb218) (o := .cells #[.int .i64 0, .int .i64 0] 24 (0, 0)) (by (with_reducible repeat (first | refine zad ?_ _ | refine zab ?_ | refine zac ?_ _)); exact BK218.o)) : gb218 ≠ gb217))
      have n13_ := zaa.mk ((by rw [hg]; exact Nat.ne_of_gt (zal (g := gb218) (o := .cells #[.int .i64 0, .int .i64 0] 24 (0, 0)) (by (with_reducible repeat (first | refine zad ?_ _ | refine zab ?_ | refine zac ?_ _)); exact BK218.o)) : gb217 ≠ gb218))
      have n14_ := zaa.mk ((by rw [hg]; exact Nat.ne_of_lt (zal (g := gb219) (o := .cells #[.int .i64 0, .int .i64 0] 24 (0, 0)) (by (with_reducible repeat (first | refine zad ?_ _ | refine zab ?_ | refine zac ?_ _)); exact BK219.o)) : gb219 ≠ gb217))
      have n15_ := zaa.mk ((by rw [hg]; exact Nat.ne_of_gt (zal (g := gb219) (o := .cells #[.int .i64 0, .int .i64 0] 24 (0, 0)) (by (with_reducible repeat (first | refine zad ?_ _ | refine zab ?_ | refine zac ?_ _)); exact BK219.o)) : gb217 ≠ gb219))
      clear BK208
      clear BK216
      clear BK218
      clear BK219
      clear HB
      have BK208 := n0_
      have BK216 := n1_
      have BK218 := n2_
      have BK219 := n3_
      have HB := n4_
      have BK217 := n5_
      have GW217 := n6_
      have GE217 := n7_
      have NB208_217 := n8_
      have NB217_208 := n9_
      have NB216_217 := n10_
      have NB217_216 := n11_
      have NB218_217 := n12_
      have NB217_218 := n13_
      have NB219_217 := n14_
      have NB217_219 := n15_
      clear n0_ n1_ n2_ n3_ n4_ n5_ n6_ n7_ n8_ n9_ n10_ n11_ n12_ n13_ n14_ n15_
      clear hb hbox hg
      refine hK.out _ _ (cz6 BK216.o) (fun hHeld => ?_)
      clear hK K
      refine norm_ (a' := ?_) ?_ ?_
      rotate_left
      ·show Act.put _ (some 4) _ = _
       simp only [Act.put, List.setIfInBounds_toArray, List.set_cons_zero, List.set_cons_succ, i64_w, i32_w]
       rfl
      exact norm_ (by first | (simp only [zaF, Act.put, List.setIfInBounds_toArray, List.set_cons_zero, List.set_cons_succ]; done) | (simp only [zaF, Act.put, List.setIfInBounds_toArray, List.set_cons_zero, List.set_cons_succ]; rfl)) (hJ6_7_8 (gb217, gb218, gb219) _ ⟨hHeld, (by (with_reducible repeat (first | refine zad ?_ _ | refine zab ?_ | refine zac ?_ _)); exact BK208.o), (by (with_reducible repeat (first | refine zad ?_ _ | refine zab ?_ | refine zac ?_ _)); exact BK216.o), (by (with_reducible repeat (first | refine zad ?_ _ | refine zab ?_ | refine zac ?_ _)); exact BK217.o), (by (with_reducible repeat (first | refine zad ?_ _ | refine zab ?_ | refine zac ?_ _)); exact BK218.o), (by (with_reducible repeat (first | refine zad ?_ _ | refine zab ?_ | refine zac ?_ _)); exact BK219.o), GW217.o, GE217.o, NB208_217.o, NB217_208.o, NB216_217.o, NB217_216.o, NB218_217.o, NB217_218.o, NB219_217.o, NB217_219.o, GW218.o, GE218.o, NB208_218.o, NB218_208.o, NB216_218.o, NB218_216.o, NB219_218.o, NB218_219.o, GW219.o, GE219.o, NB208_219.o, NB219_208.o, NB216_219.o, NB219_216.o, (by repeat (first | (with_reducible first | exact HB.o | apply zaf | apply zah | apply zag | refine zae ?_ GE208.o | refine zae ?_ GE216.o | refine zae ?_ GE218.o | refine zae ?_ GE219.o | refine zae ?_ GE217.o) | exact HB.o))⟩)
    ·skip
     rintro ⟨gb217, gb219⟩ w16 ⟨hS_, h0_, h1_, h2_, h3_, h4_, h5_, h6_, h7_, h8_, h9_, h10_, h11_, h12_, h13_, h14_, h15_, h16_, h17_, h18_⟩
     have n0_ : zaa (w16.heap[gb208]? = some (.cells #[.int .i16 a0_0, .int .i16 a0_1, .int .i16 a0_2, .int .i16 a0_3, .int .i16 a0_4, .int .i16 a0_5] 40 (0, 0))) := ⟨h0_⟩
     have n1_ : zaa (w16.heap[gb216]? = some (.cells #[.int .i64 t210, .int .i64 t211, .int .i64 t212, .int .i64 t213, .int .i64 t214, .int .i64 t215] 41 (0, 0))) := ⟨h1_⟩
     have n2_ : zaa (w16.heap[gb217]? = some (.cells #[.int .i64 0, .int .i64 0] 24 (0, 0))) := ⟨h2_⟩
     have n3_ : zaa (w16.heap[gb219]? = some (.cells #[.int .i64 0, .int .i64 0] 24 (0, 0))) := ⟨h3_⟩
     have n4_ : zaa (w.heap.size ≤ gb217) := ⟨h4_⟩
     have n5_ : zaa (w.heap.size ≤ gb217) := ⟨h5_⟩
     have n6_ : zaa (gb208 ≠ gb217) := ⟨h6_⟩
     have n7_ : zaa (gb217 ≠ gb208) := ⟨h7_⟩
     have n8_ : zaa (gb216 ≠ gb217) := ⟨h8_⟩
     have n9_ : zaa (gb217 ≠ gb216) := ⟨h9_⟩
     have n10_ : zaa (gb219 ≠ gb217) := ⟨h10_⟩
     have n11_ : zaa (gb217 ≠ gb219) := ⟨h11_⟩
     have n12_ : zaa (w.heap.size ≤ gb219) := ⟨h12_⟩
     have n13_ : zaa (w.heap.size ≤ gb219) := ⟨h13_⟩
     have n14_ : zaa (gb208 ≠ gb219) := ⟨h14_⟩
     have n15_ : zaa (gb219 ≠ gb208) := ⟨h15_⟩
     have n16_ : zaa (gb216 ≠ gb219) := ⟨h16_⟩
     have n17_ : zaa (gb219 ≠ gb216) := ⟨h17_⟩
     have n18_ : zaa (Below w.heap.size w w16) := ⟨h18_⟩
     clear BK208
     clear BK216
     clear HB
     clear h0_ h1_ h2_ h3_ h4_ h5_ h6_ h7_ h8_ h9_ h10_ h11_ h12_ h13_ h14_ h15_ h16_ h17_ h18_
     have BK208 := n0_
     have BK216 := n1_
     have BK217 := n2_
     have BK219 := n3_
     have GW217 := n4_
     have GE217 := n5_
     have NB208_217 := n6_
     have NB217_208 := n7_
     have NB216_217 := n8_
     have NB217_216 := n9_
     have NB219_217 := n10_
     have NB217_219 := n11_
     have GW219 := n12_
     have GE219 := n13_
     have NB208_219 := n14_
     have NB219_208 := n15_
     have NB216_219 := n16_
     have NB219_216 := n17_
     have HB := n18_
     clear n0_ n1_ n2_ n3_ n4_ n5_ n6_ n7_ n8_ n9_ n10_ n11_ n12_ n13_ n14_ n15_ n16_ n17_ n18_
     have hHeld : w16.cell? ⟨gb216, 0, none⟩ = some (.int .i64 t210) ∧ w16.cell? ⟨gb216, 1, none⟩ = some (.int .i64 t211) ∧ w16.cell? ⟨gb216, 2, none⟩ = some (.int .i64 t212) ∧ w16.cell? ⟨gb216, 3, none⟩ = some (.int .i64 t213) ∧ w16.cell? ⟨gb216, 4, none⟩ = some (.int .i64 t214) ∧ w16.cell? ⟨gb216, 5, none⟩ = some (.int .i64 t215) := hS_
     refine norm_ (a' := ?_) ?_ ?_
     rotate_left
     ·simp only [zaF, Act.put, List.setIfInBounds_toArray, List.set_cons_zero, List.set_cons_succ]
      rfl
     refine one_ (i := 7) (N := some 5) #[true, true, true, true, true, true, true, true, true, false, false, false] rfl rfl (zaJ HT_.out (by kernel_rfl)) (by decide) (fun K hK => ?_)
     refine zaI ?hg (N := 5) ?hd (cs := #[.int .i64 0, .int .i64 0]) (t := 24) ?hr ?_; (case hd => rfl); (case hg => rfl); (case hr => first | (go_simp; done) | (go_simp; rfl))
     intro gb218 hg w17 hbox hb
     have n0_ := zaa.mk (zaj (by (with_reducible repeat (first | refine zad ?_ _ | refine zab ?_ | refine zac ?_ _)); exact BK208.o) hb)
     have n1_ := zaa.mk (zaj (by (with_reducible repeat (first | refine zad ?_ _ | refine zab ?_ | refine zac ?_ _)); exact BK216.o) hb)
     have n2_ := zaa.mk (zaj (by (with_reducible repeat (first | refine zad ?_ _ | refine zab ?_ | refine zac ?_ _)); exact BK217.o) hb)
     have n3_ := zaa.mk (zaj (by (with_reducible repeat (first | refine zad ?_ _ | refine zab ?_ | refine zac ?_ _)); exact BK219.o) hb)
     have n4_ := zaa.mk (zao (by repeat (first | (with_reducible first | exact HB.o | apply zaf | apply zah | apply zag | refine zae ?_ GE208.o | refine zae ?_ GE216.o | refine zae ?_ GE217.o | refine zae ?_ GE219.o) | exact HB.o)) hb)
     have n5_ := zaa.mk (hbox)
     have n6_ := zaa.mk ((by rw [hg]; exact (zan (by repeat (first | (with_reducible first | exact HB.o | apply zaf | apply zah | apply zag | refine zae ?_ GE208.o | refine zae ?_ GE216.o | refine zae ?_ GE217.o | refine zae ?_ GE219.o) | exact HB.o))) : w.heap.size ≤ gb218))
     have n7_ := zaa.mk ((by rw [hg]; exact (zan (by repeat (first | (with_reducible first | exact HB.o | apply zaf | apply zah | apply zag | refine zae ?_ GE208.o | refine zae ?_ GE216.o | refine zae ?_ GE217.o | refine zae ?_ GE219.o) | exact HB.o))) : w.heap.size ≤ gb218))
     have n8_ := zaa.mk ((by rw [hg]; exact Nat.ne_of_lt (zal (g := gb208) (o := .cells #[.int .i16 a0_0, .int .i16 a0_1, .int .i16 a0_2, .int .i16 a0_3, .int .i16 a0_4, .int .i16 a0_5] 40 (0, 0)) (by (with_reducible repeat (first | refine zad ?_ _ | refine zab ?_ | refine zac ?_ _)); exact BK208.o)) : gb208 ≠ gb218))
     have n9_ := zaa.mk ((by rw [hg]; exact Nat.ne_of_gt (zal (g := gb208) (o := .cells #[.int .i16 a0_0, .int .i16 a0_1, .int .i16 a0_2, .int .i16 a0_3, .int .i16 a0_4, .int .i16 a0_5] 40 (0, 0)) (by (with_reducible repeat (first | refine zad ?_ _ | refine zab ?_ | refine zac ?_ _)); exact BK208.o)) : gb218 ≠ gb208))
     have n10_ := zaa.mk ((by rw [hg]; exact Nat.ne_of_lt (zal (g := gb216) (o := .cells #[.int .i64 t210, .int .i64 t211, .int .i64 t212, .int .i64 t213, .int .i64 t214, .int .i64 t215] 41 (0, 0)) (by (with_reducible repeat (first | refine zad ?_ _ | refine zab ?_ | refine zac ?_ _)); exact BK216.o)) : gb216 ≠ gb218))
     have n11_ := zaa.mk ((by rw [hg]; exact Nat.ne_of_gt (zal (g := gb216) (o := .cells #[.int .i64 t210, .int .i64 t211, .int .i64 t212, .int .i64 t213, .int .i64 t214, .int .i64 t215] 41 (0, 0)) (by (with_reducible repeat (first | refine zad ?_ _ | refine zab ?_ | refine zac ?_ _)); exact BK216.o)) : gb218 ≠ gb216))
     have n12_ := zaa.mk ((by rw [hg]; exact Nat.ne_of_lt (zal (g := gb217) (o := .cells #[.int .i64 0, .int .i64 0] 24 (0, 0)) (by (with_reducible repeat (first | refine zad ?_ _ | refine zab ?_ | refine zac ?_ _)); exact BK217.o)) : gb217 ≠ gb218))
     have n13_ := zaa.mk ((by rw [hg]; exact Nat.ne_of_gt (zal (g := gb217) (o := .cells #[.int .i64 0, .int .i64 0] 24 (0, 0)) (by (with_reducible repeat (first | refine zad ?_ _ | refine zab ?_ | refine zac ?_ _)); exact BK217.o)) : gb218 ≠ gb217))
     have n14_ := zaa.mk ((by rw [hg]; exact Nat.ne_of_lt (zal (g := gb219) (o := .cells #[.int .i64 0, .int .i64 0] 24 (0, 0)) (by (with_reducible repeat (first | refine zad ?_ _ | refine zab ?_ | refine zac ?_ _)); exact BK219.o)) : gb219 ≠ gb218))
     have n15_ := zaa.mk ((by rw [hg]; exact Nat.ne_of_gt (zal (g := gb219) (o := .cells #[.int .i64 0, .int .i64 0] 24 (0, 0)) (by (with_reducible repeat (first | refine zad ?_ _ | refine zab ?_ | refine zac ?_ _)); exact BK219.o)) : gb218 ≠ gb219))
     clear BK208
     clear BK216
     clear BK217
     clear BK219
     clear HB
     have BK208 := n0_
     have BK216 := n1_
     have BK217 := n2_
     have BK219 := n3_
     have HB := n4_
     have BK218 := n5_
     have GW218 := n6_
     have GE218 := n7_
     have NB208_218 := n8_
     have NB218_208 := n9_
     have NB216_218 := n10_
     have NB218_216 := n11_
     have NB217_218 := n12_
     have NB218_217 := n13_
     have NB219_218 := n14_
     have NB218_219 := n15_
     clear n0_ n1_ n2_ n3_ n4_ n5_ n6_ n7_ n8_ n9_ n10_ n11_ n12_ n13_ n14_ n15_
     clear hb hbox hg
     refine hK.out _ _ (cz6 BK216.o) (fun hHeld => ?_)
     clear hK K
     refine norm_ (a' := ?_) ?_ ?_
     rotate_left
     ·show Act.put _ (some 5) _ = _
      simp only [Act.put, List.setIfInBounds_toArray, List.set_cons_zero, List.set_cons_succ, i64_w, i32_w]
      rfl
     exact norm_ (by first | (simp only [zaF, Act.put, List.setIfInBounds_toArray, List.set_cons_zero, List.set_cons_succ]; done) | (simp only [zaF, Act.put, List.setIfInBounds_toArray, List.set_cons_zero, List.set_cons_succ]; rfl)) (hJ6_7_8 (gb217, gb218, gb219) _ ⟨hHeld, (by (with_reducible repeat (first | refine zad ?_ _ | refine zab ?_ | refine zac ?_ _)); exact BK208.o), (by (with_reducible repeat (first | refine zad ?_ _ | refine zab ?_ | refine zac ?_ _)); exact BK216.o), (by (with_reducible repeat (first | refine zad ?_ _ | refine zab ?_ | refine zac ?_ _)); exact BK217.o), (by (with_reducible repeat (first | refine zad ?_ _ | refine zab ?_ | refine zac ?_ _)); exact BK218.o), (by (with_reducible repeat (first | refine zad ?_ _ | refine zab ?_ | refine zac ?_ _)); exact BK219.o), GW217.o, GE217.o, NB208_217.o, NB217_208.o, NB216_217.o, NB217_216.o, NB218_217.o, NB217_218.o, NB219_217.o, NB217_219.o, GW218.o, GE218.o, NB208_218.o, NB218_208.o, NB216_218.o, NB218_216.o, NB219_218.o, NB218_219.o, GW219.o, GE219.o, NB208_219.o, NB219_208.o, NB216_219.o, NB219_216.o, (by repeat (first | (with_reducible first | exact HB.o | apply zaf | apply zah | apply zag | refine zae ?_ GE208.o | refine zae ?_ GE216.o | refine zae ?_ GE217.o | refine zae ?_ GE219.o | refine zae ?_ GE218.o) | exact HB.o))⟩)
   ·skip
    rintro ⟨gb217, gb218⟩ w16 ⟨hS_, h0_, h1_, h2_, h3_, h4_, h5_, h6_, h7_, h8_, h9_, h10_, h11_, h12_, h13_, h14_, h15_, h16_, h17_, h18_⟩
    have n0_ : zaa (w16.heap[gb208]? = some (.cells #[.int .i16 a0_0, .int .i16 a0_1, .int .i16 a0_2, .int .i16 a0_3, .int .i16 a0_4, .int .i16 a0_5] 40 (0, 0))) := ⟨h0_⟩
    have n1_ : zaa (w16.heap[gb216]? = some (.cells #[.int .i64 t210, .int .i64 t211, .int .i64 t212, .int .i64 t213, .int .i64 t214, .int .i64 t215] 41 (0, 0))) := ⟨h1_⟩
    have n2_ : zaa (w16.heap[gb217]? = some (.cells #[.int .i64 0, .int .i64 0] 24 (0, 0))) := ⟨h2_⟩
    have n3_ : zaa (w16.heap[gb218]? = some (.cells #[.int .i64 0, .int .i64 0] 24 (0, 0))) := ⟨h3_⟩
    have n4_ : zaa (w.heap.size ≤ gb217) := ⟨h4_⟩
    have n5_ : zaa (w.heap.size ≤ gb217) := ⟨h5_⟩
    have n6_ : zaa (gb208 ≠ gb217) := ⟨h6_⟩
    have n7_ : zaa (gb217 ≠ gb208) := ⟨h7_⟩
    have n8_ : zaa (gb216 ≠ gb217) := ⟨h8_⟩
    have n9_ : zaa (gb217 ≠ gb216) := ⟨h9_⟩
    have n10_ : zaa (gb218 ≠ gb217) := ⟨h10_⟩
    have n11_ : zaa (gb217 ≠ gb218) := ⟨h11_⟩
    have n12_ : zaa (w.heap.size ≤ gb218) := ⟨h12_⟩
    have n13_ : zaa (w.heap.size ≤ gb218) := ⟨h13_⟩
    have n14_ : zaa (gb208 ≠ gb218) := ⟨h14_⟩
    have n15_ : zaa (gb218 ≠ gb208) := ⟨h15_⟩
    have n16_ : zaa (gb216 ≠ gb218) := ⟨h16_⟩
    have n17_ : zaa (gb218 ≠ gb216) := ⟨h17_⟩
    have n18_ : zaa (Below w.heap.size w w16) := ⟨h18_⟩
    clear BK208
    clear BK216
    clear HB
    clear h0_ h1_ h2_ h3_ h4_ h5_ h6_ h7_ h8_ h9_ h10_ h11_ h12_ h13_ h14_ h15_ h16_ h17_ h18_
    have BK208 := n0_
    have BK216 := n1_
    have BK217 := n2_
    have BK218 := n3_
    have GW217 := n4_
    have GE217 := n5_
    have NB208_217 := n6_
    have NB217_208 := n7_
    have NB216_217 := n8_
    have NB217_216 := n9_
    have NB218_217 := n10_
    have NB217_218 := n11_
    have GW218 := n12_
    have GE218 := n13_
    have NB208_218 := n14_
    have NB218_208 := n15_
    have NB216_218 := n16_
    have NB218_216 := n17_
    have HB := n18_
    clear n0_ n1_ n2_ n3_ n4_ n5_ n6_ n7_ n8_ n9_ n10_ n11_ n12_ n13_ n14_ n15_ n16_ n17_ n18_
    have hHeld : w16.cell? ⟨gb216, 0, none⟩ = some (.int .i64 t210) ∧ w16.cell? ⟨gb216, 1, none⟩ = some (.int .i64 t211) ∧ w16.cell? ⟨gb216, 2, none⟩ = some (.int .i64 t212) ∧ w16.cell? ⟨gb216, 3, none⟩ = some (.int .i64 t213) ∧ w16.cell? ⟨gb216, 4, none⟩ = some (.int .i64 t214) ∧ w16.cell? ⟨gb216, 5, none⟩ = some (.int .i64 t215) := hS_
    refine norm_ (a' := ?_) ?_ ?_
    rotate_left
    ·simp only [zaF, Act.put, List.setIfInBounds_toArray, List.set_cons_zero, List.set_cons_succ]
     rfl
    refine one_ (i := 8) (N := some 6) #[true, true, true, true, true, true, true, true, true, false, false, false] rfl rfl (zaJ HT_.out (by kernel_rfl)) (by decide) (fun K hK => ?_)
    refine zaI ?hg (N := 6) ?hd (cs := #[.int .i64 0, .int .i64 0]) (t := 24) ?hr ?_; (case hd => rfl); (case hg => rfl); (case hr => first | (go_simp; done) | (go_simp; rfl))
    intro gb219 hg w17 hbox hb
    have n0_ := zaa.mk (zaj (by (with_reducible repeat (first | refine zad ?_ _ | refine zab ?_ | refine zac ?_ _)); exact BK208.o) hb)
    have n1_ := zaa.mk (zaj (by (with_reducible repeat (first | refine zad ?_ _ | refine zab ?_ | refine zac ?_ _)); exact BK216.o) hb)
    have n2_ := zaa.mk (zaj (by (with_reducible repeat (first | refine zad ?_ _ | refine zab ?_ | refine zac ?_ _)); exact BK217.o) hb)
    have n3_ := zaa.mk (zaj (by (with_reducible repeat (first | refine zad ?_ _ | refine zab ?_ | refine zac ?_ _)); exact BK218.o) hb)
    have n4_ := zaa.mk (zao (by repeat (first | (with_reducible first | exact HB.o | apply zaf | apply zah | apply zag | refine zae ?_ GE208.o | refine zae ?_ GE216.o | refine zae ?_ GE217.o | refine zae ?_ GE218.o) | exact HB.o)) hb)
    have n5_ := zaa.mk (hbox)
    have n6_ := zaa.mk ((by rw [hg]; exact (zan (by repeat (first | (with_reducible first | exact HB.o | apply zaf | apply zah | apply zag | refine zae ?_ GE208.o | refine zae ?_ GE216.o | refine zae ?_ GE217.o | refine zae ?_ GE218.o) | exact HB.o))) : w.heap.size ≤ gb219))
    have n7_ := zaa.mk ((by rw [hg]; exact (zan (by repeat (first | (with_reducible first | exact HB.o | apply zaf | apply zah | apply zag | refine zae ?_ GE208.o | refine zae ?_ GE216.o | refine zae ?_ GE217.o | refine zae ?_ GE218.o) | exact HB.o))) : w.heap.size ≤ gb219))
    have n8_ := zaa.mk ((by rw [hg]; exact Nat.ne_of_lt (zal (g := gb208) (o := .cells #[.int .i16 a0_0, .int .i16 a0_1, .int .i16 a0_2, .int .i16 a0_3, .int .i16 a0_4, .int .i16 a0_5] 40 (0, 0)) (by (with_reducible repeat (first | refine zad ?_ _ | refine zab ?_ | refine zac ?_ _)); exact BK208.o)) : gb208 ≠ gb219))
    have n9_ := zaa.mk ((by rw [hg]; exact Nat.ne_of_gt (zal (g := gb208) (o := .cells #[.int .i16 a0_0, .int .i16 a0_1, .int .i16 a0_2, .int .i16 a0_3, .int .i16 a0_4, .int .i16 a0_5] 40 (0, 0)) (by (with_reducible repeat (first | refine zad ?_ _ | refine zab ?_ | refine zac ?_ _)); exact BK208.o)) : gb219 ≠ gb208))
    have n10_ := zaa.mk ((by rw [hg]; exact Nat.ne_of_lt (zal (g := gb216) (o := .cells #[.int .i64 t210, .int .i64 t211, .int .i64 t212, .int .i64 t213, .int .i64 t214, .int .i64 t215] 41 (0, 0)) (by (with_reducible repeat (first | refine zad ?_ _ | refine zab ?_ | refine zac ?_ _)); exact BK216.o)) : gb216 ≠ gb219))
    have n11_ := zaa.mk ((by rw [hg]; exact Nat.ne_of_gt (zal (g := gb216) (o := .cells #[.int .i64 t210, .int .i64 t211, .int .i64 t212, .int .i64 t213, .int .i64 t214, .int .i64 t215] 41 (0, 0)) (by (with_reducible repeat (first | refine zad ?_ _ | refine zab ?_ | refine zac ?_ _)); exact BK216.o)) : gb219 ≠ gb216))
    have n12_ := zaa.mk ((by rw [hg]; exact Nat.ne_of_lt (zal (g := gb217) (o := .cells #[.int .i64 0, .int .i64 0] 24 (0, 0)) (by (with_reducible repeat (first | refine zad ?_ _ | refine zab ?_ | refine zac ?_ _)); exact BK217.o)) : gb217 ≠ gb219))
    have n13_ := zaa.mk ((by rw [hg]; exact Nat.ne_of_gt (zal (g := gb217) (o := .cells #[.int .i64 0, .int .i64 0] 24 (0, 0)) (by (with_reducible repeat (first | refine zad ?_ _ | refine zab ?_ | refine zac ?_ _)); exact BK217.o)) : gb219 ≠ gb217))
    have n14_ := zaa.mk ((by rw [hg]; exact Nat.ne_of_lt (zal (g := gb218) (o := .cells #[.int .i64 0, .int .i64 0] 24 (0, 0)) (by (with_reducible repeat (first | refine zad ?_ _ | refine zab ?_ | refine zac ?_ _)); exact BK218.o)) : gb218 ≠ gb219))
    have n15_ := zaa.mk ((by rw [hg]; exact Nat.ne_of_gt (zal (g := gb218) (o := .cells #[.int .i64 0, .int .i64 0] 24 (0, 0)) (by (with_reducible repeat (first | refine zad ?_ _ | refine zab ?_ | refine zac ?_ _)); exact BK218.o)) : gb219 ≠ gb218))
    clear BK208
    clear BK216
    clear BK217
    clear BK218
    clear HB
    have BK208 := n0_
    have BK216 := n1_
    have BK217 := n2_
    have BK218 := n3_
    have HB := n4_
    have BK219 := n5_
    have GW219 := n6_
    have GE219 := n7_
    have NB208_219 := n8_
    have NB219_208 := n9_
    have NB216_219 := n10_
    have NB219_216 := n11_
    have NB217_219 := n12_
    have NB219_217 := n13_
    have NB218_219 := n14_
    have NB219_218 := n15_
    clear n0_ n1_ n2_ n3_ n4_ n5_ n6_ n7_ n8_ n9_ n10_ n11_ n12_ n13_ n14_ n15_
    clear hb hbox hg
    refine hK.out _ _ (cz6 BK216.o) (fun hHeld => ?_)
    clear hK K
    refine norm_ (a' := ?_) ?_ ?_
    rotate_left
    ·show Act.put _ (some 6) _ = _
     simp only [Act.put, List.setIfInBounds_toArray, List.set_cons_zero, List.set_cons_succ, i64_w, i32_w]
     rfl
    exact norm_ (by first | (simp only [zaF, Act.put, List.setIfInBounds_toArray, List.set_cons_zero, List.set_cons_succ]; done) | (simp only [zaF, Act.put, List.setIfInBounds_toArray, List.set_cons_zero, List.set_cons_succ]; rfl)) (hJ6_7_8 (gb217, gb218, gb219) _ ⟨hHeld, (by (with_reducible repeat (first | refine zad ?_ _ | refine zab ?_ | refine zac ?_ _)); exact BK208.o), (by (with_reducible repeat (first | refine zad ?_ _ | refine zab ?_ | refine zac ?_ _)); exact BK216.o), (by (with_reducible repeat (first | refine zad ?_ _ | refine zab ?_ | refine zac ?_ _)); exact BK217.o), (by (with_reducible repeat (first | refine zad ?_ _ | refine zab ?_ | refine zac ?_ _)); exact BK218.o), (by (with_reducible repeat (first | refine zad ?_ _ | refine zab ?_ | refine zac ?_ _)); exact BK219.o), GW217.o, GE217.o, NB208_217.o, NB217_208.o, NB216_217.o, NB217_216.o, NB218_217.o, NB217_218.o, NB219_217.o, NB217_219.o, GW218.o, GE218.o, NB208_218.o, NB218_208.o, NB216_218.o, NB218_216.o, NB219_218.o, NB218_219.o, GW219.o, GE219.o, NB208_219.o, NB219_208.o, NB216_219.o, NB219_216.o, (by repeat (first | (with_reducible first | exact HB.o | apply zaf | apply zah | apply zag | refine zae ?_ GE208.o | refine zae ?_ GE216.o | refine zae ?_ GE217.o | refine zae ?_ GE218.o | refine zae ?_ GE219.o) | exact HB.o))⟩)
  rintro ⟨gb217, gb218, gb219⟩ w17 ⟨hS_, h0_, h1_, h2_, h3_, h4_, h5_, h6_, h7_, h8_, h9_, h10_, h11_, h12_, h13_, h14_, h15_, h16_, h17_, h18_, h19_, h20_, h21_, h22_, h23_, h24_, h25_, h26_, h27_, h28_, h29_⟩
  have n0_ : zaa (w17.heap[gb208]? = some (.cells #[.int .i16 a0_0, .int .i16 a0_1, .int .i16 a0_2, .int .i16 a0_3, .int .i16 a0_4, .int .i16 a0_5] 40 (0, 0))) := ⟨h0_⟩
  have n1_ : zaa (w17.heap[gb216]? = some (.cells #[.int .i64 t210, .int .i64 t211, .int .i64 t212, .int .i64 t213, .int .i64 t214, .int .i64 t215] 41 (0, 0))) := ⟨h1_⟩
  have n2_ : zaa (w17.heap[gb217]? = some (.cells #[.int .i64 0, .int .i64 0] 24 (0, 0))) := ⟨h2_⟩
  have n3_ : zaa (w17.heap[gb218]? = some (.cells #[.int .i64 0, .int .i64 0] 24 (0, 0))) := ⟨h3_⟩
  have n4_ : zaa (w17.heap[gb219]? = some (.cells #[.int .i64 0, .int .i64 0] 24 (0, 0))) := ⟨h4_⟩
  have n5_ : zaa (w.heap.size ≤ gb217) := ⟨h5_⟩
  have n6_ : zaa (w.heap.size ≤ gb217) := ⟨h6_⟩
  have n7_ : zaa (gb208 ≠ gb217) := ⟨h7_⟩
  have n8_ : zaa (gb217 ≠ gb208) := ⟨h8_⟩
  have n9_ : zaa (gb216 ≠ gb217) := ⟨h9_⟩
  have n10_ : zaa (gb217 ≠ gb216) := ⟨h10_⟩
  have n11_ : zaa (gb218 ≠ gb217) := ⟨h11_⟩
  have n12_ : zaa (gb217 ≠ gb218) := ⟨h12_⟩
  have n13_ : zaa (gb219 ≠ gb217) := ⟨h13_⟩
  have n14_ : zaa (gb217 ≠ gb219) := ⟨h14_⟩
  have n15_ : zaa (w.heap.size ≤ gb218) := ⟨h15_⟩
  have n16_ : zaa (w.heap.size ≤ gb218) := ⟨h16_⟩
  have n17_ : zaa (gb208 ≠ gb218) := ⟨h17_⟩
  have n18_ : zaa (gb218 ≠ gb208) := ⟨h18_⟩
  have n19_ : zaa (gb216 ≠ gb218) := ⟨h19_⟩
  have n20_ : zaa (gb218 ≠ gb216) := ⟨h20_⟩
  have n21_ : zaa (gb219 ≠ gb218) := ⟨h21_⟩
  have n22_ : zaa (gb218 ≠ gb219) := ⟨h22_⟩
  have n23_ : zaa (w.heap.size ≤ gb219) := ⟨h23_⟩
  have n24_ : zaa (w.heap.size ≤ gb219) := ⟨h24_⟩
  have n25_ : zaa (gb208 ≠ gb219) := ⟨h25_⟩
  have n26_ : zaa (gb219 ≠ gb208) := ⟨h26_⟩
  have n27_ : zaa (gb216 ≠ gb219) := ⟨h27_⟩
  have n28_ : zaa (gb219 ≠ gb216) := ⟨h28_⟩
  have n29_ : zaa (Below w.heap.size w w17) := ⟨h29_⟩
  clear BK208
  clear BK216
  clear HB
  clear h0_ h1_ h2_ h3_ h4_ h5_ h6_ h7_ h8_ h9_ h10_ h11_ h12_ h13_ h14_ h15_ h16_ h17_ h18_ h19_ h20_ h21_ h22_ h23_ h24_ h25_ h26_ h27_ h28_ h29_
  have BK208 := n0_
  have BK216 := n1_
  have BK217 := n2_
  have BK218 := n3_
  have BK219 := n4_
  have GW217 := n5_
  have GE217 := n6_
  have NB208_217 := n7_
  have NB217_208 := n8_
  have NB216_217 := n9_
  have NB217_216 := n10_
  have NB218_217 := n11_
  have NB217_218 := n12_
  have NB219_217 := n13_
  have NB217_219 := n14_
  have GW218 := n15_
  have GE218 := n16_
  have NB208_218 := n17_
  have NB218_208 := n18_
  have NB216_218 := n19_
  have NB218_216 := n20_
  have NB219_218 := n21_
  have NB218_219 := n22_
  have GW219 := n23_
  have GE219 := n24_
  have NB208_219 := n25_
  have NB219_208 := n26_
  have NB216_219 := n27_
  have NB219_216 := n28_
  have HB := n29_
  clear n0_ n1_ n2_ n3_ n4_ n5_ n6_ n7_ n8_ n9_ n10_ n11_ n12_ n13_ n14_ n15_ n16_ n17_ n18_ n19_ n20_ n21_ n22_ n23_ n24_ n25_ n26_ n27_ n28_ n29_
  have hHeld : w17.cell? ⟨gb216, 0, none⟩ = some (.int .i64 t210) ∧ w17.cell? ⟨gb216, 1, none⟩ = some (.int .i64 t211) ∧ w17.cell? ⟨gb216, 2, none⟩ = some (.int .i64 t212) ∧ w17.cell? ⟨gb216, 3, none⟩ = some (.int .i64 t213) ∧ w17.cell? ⟨gb216, 4, none⟩ = some (.int .i64 t214) ∧ w17.cell? ⟨gb216, 5, none⟩ = some (.int .i64 t215) := hS_
  refine norm_ (a' := ?_) ?_ ?_
  rotate_left
  ·simp only [zaF, Act.put, List.setIfInBounds_toArray, List.set_cons_zero, List.set_cons_succ]
   rfl
  refine one_ (i := 9) (N := none) #[true, true, true, true, true, true, true, true, true, true, false, false] rfl rfl (zaJ HT_.out (by kernel_rfl)) (by decide) (fun K hK => ?_)
  have hs18 : w17.cell? ⟨gb217, 0, none⟩ = some (.int .i64 0) := (zai BK217.o 0).trans rfl
  have hfs18 := zak BK217.o 0
  have hns18_0 := NB208_217.o
  have hns18_1 := NB216_217.o
  have hns18_3 := NB218_217.o
  have hns18_4 := NB219_217.o
  have hms18_0 := NB217_208.o
  have hms18_1 := NB217_216.o
  have hms18_3 := NB217_218.o
  have hms18_4 := NB217_219.o
  have hs19 : w17.cell? ⟨gb217, 1, none⟩ = some (.int .i64 0) := (zai BK217.o 1).trans rfl
  have hfs19 := zak BK217.o 1
  have hns19_0 := NB208_217.o
  have hns19_1 := NB216_217.o
  have hns19_3 := NB218_217.o
  have hns19_4 := NB219_217.o
  have hms19_0 := NB217_208.o
  have hms19_1 := NB217_216.o
  have hms19_3 := NB217_218.o
  have hms19_4 := NB217_219.o
  refine skip_ (w1 := ?_) (by rfl) rfl ?_ ?_
  rotate_left
  ·go_simp
   rfl
  refine hK.out _ _ ⟨((zau (p := ⟨gb217, _, none⟩) NB216_217.o _).trans (((zau (p := ⟨gb217, _, none⟩) NB216_217.o _).trans (hHeld.1)))), ((zau (p := ⟨gb217, _, none⟩) NB216_217.o _).trans (((zau (p := ⟨gb217, _, none⟩) NB216_217.o _).trans (hHeld.2.1)))), ((zau (p := ⟨gb217, _, none⟩) NB216_217.o _).trans (((zau (p := ⟨gb217, _, none⟩) NB216_217.o _).trans (hHeld.2.2.1)))), ((zau (p := ⟨gb217, _, none⟩) NB216_217.o _).trans (((zau (p := ⟨gb217, _, none⟩) NB216_217.o _).trans (hHeld.2.2.2.1)))), ((zau (p := ⟨gb217, _, none⟩) NB216_217.o _).trans (((zau (p := ⟨gb217, _, none⟩) NB216_217.o _).trans (hHeld.2.2.2.2.1)))), ((zau (p := ⟨gb217, _, none⟩) NB216_217.o _).trans (((zau (p := ⟨gb217, _, none⟩) NB216_217.o _).trans (hHeld.2.2.2.2.2))))⟩ (fun hHeld => ?_)
  clear hK K
  refine one_ (i := 10) (N := none) #[true, true, true, true, true, true, true, true, true, true, true, false] rfl rfl (zaJ HT_.out (by kernel_rfl)) (by decide) (fun K hK => ?_)
  have hs20 : w17.cell? ⟨gb218, 0, none⟩ = some (.int .i64 0) := (zai BK218.o 0).trans rfl
  have hfs20 := zak BK218.o 0
  have hns20_0 := NB208_218.o
  have hns20_1 := NB216_218.o
  have hns20_2 := NB217_218.o
  have hns20_4 := NB219_218.o
  have hms20_0 := NB218_208.o
  have hms20_1 := NB218_216.o
  have hms20_2 := NB218_217.o
  have hms20_4 := NB218_219.o
  have hs21 : w17.cell? ⟨gb218, 1, none⟩ = some (.int .i64 0) := (zai BK218.o 1).trans rfl
  have hfs21 := zak BK218.o 1
  have hns21_0 := NB208_218.o
  have hns21_1 := NB216_218.o
  have hns21_2 := NB217_218.o
  have hns21_4 := NB219_218.o
  have hms21_0 := NB218_208.o
  have hms21_1 := NB218_216.o
  have hms21_2 := NB218_217.o
  have hms21_4 := NB218_219.o
  refine skip_ (w1 := ?_) (by rfl) rfl ?_ ?_
  rotate_left
  ·go_simp
   rfl
  refine hK.out _ _ ⟨((zau (p := ⟨gb218, _, none⟩) NB216_218.o _).trans (((zau (p := ⟨gb218, _, none⟩) NB216_218.o _).trans (hHeld.1)))), ((zau (p := ⟨gb218, _, none⟩) NB216_218.o _).trans (((zau (p := ⟨gb218, _, none⟩) NB216_218.o _).trans (hHeld.2.1)))), ((zau (p := ⟨gb218, _, none⟩) NB216_218.o _).trans (((zau (p := ⟨gb218, _, none⟩) NB216_218.o _).trans (hHeld.2.2.1)))), ((zau (p := ⟨gb218, _, none⟩) NB216_218.o _).trans (((zau (p := ⟨gb218, _, none⟩) NB216_218.o _).trans (hHeld.2.2.2.1)))), ((zau (p := ⟨gb218, _, none⟩) NB216_218.o _).trans (((zau (p := ⟨gb218, _, none⟩) NB216_218.o _).trans (hHeld.2.2.2.2.1)))), ((zau (p := ⟨gb218, _, none⟩) NB216_218.o _).trans (((zau (p := ⟨gb218, _, none⟩) NB216_218.o _).trans (hHeld.2.2.2.2.2))))⟩ (fun hHeld => ?_)
  clear hK K
  refine one_ (i := 11) (N := none) #[true, true, true, true, true, true, true, true, true, true, true, true] rfl rfl (zaJ HT_.out (by kernel_rfl)) (by decide) (fun K hK => ?_)
  have hs22 : w17.cell? ⟨gb219, 0, none⟩ = some (.int .i64 0) := (zai BK219.o 0).trans rfl
  have hfs22 := zak BK219.o 0
  have hns22_0 := NB208_219.o
  have hns22_1 := NB216_219.o
  have hns22_2 := NB217_219.o
  have hns22_3 := NB218_219.o
  have hms22_0 := NB219_208.o
  have hms22_1 := NB219_216.o
  have hms22_2 := NB219_217.o
  have hms22_3 := NB219_218.o
  have hs23 : w17.cell? ⟨gb219, 1, none⟩ = some (.int .i64 0) := (zai BK219.o 1).trans rfl
  have hfs23 := zak BK219.o 1
  have hns23_0 := NB208_219.o
  have hns23_1 := NB216_219.o
  have hns23_2 := NB217_219.o
  have hns23_3 := NB218_219.o
  have hms23_0 := NB219_208.o
  have hms23_1 := NB219_216.o
  have hms23_2 := NB219_217.o
  have hms23_3 := NB219_218.o
  refine skip_ (w1 := ?_) (by rfl) rfl ?_ ?_
  rotate_left
  ·go_simp
   rfl
  refine hK.out _ _ ⟨((zau (p := ⟨gb219, _, none⟩) NB216_219.o _).trans (((zau (p := ⟨gb219, _, none⟩) NB216_219.o _).trans (hHeld.1)))), ((zau (p := ⟨gb219, _, none⟩) NB216_219.o _).trans (((zau (p := ⟨gb219, _, none⟩) NB216_219.o _).trans (hHeld.2.1)))), ((zau (p := ⟨gb219, _, none⟩) NB216_219.o _).trans (((zau (p := ⟨gb219, _, none⟩) NB216_219.o _).trans (hHeld.2.2.1)))), ((zau (p := ⟨gb219, _, none⟩) NB216_219.o _).trans (((zau (p := ⟨gb219, _, none⟩) NB216_219.o _).trans (hHeld.2.2.2.1)))), ((zau (p := ⟨gb219, _, none⟩) NB216_219.o _).trans (((zau (p := ⟨gb219, _, none⟩) NB216_219.o _).trans (hHeld.2.2.2.2.1)))), ((zau (p := ⟨gb219, _, none⟩) NB216_219.o _).trans (((zau (p := ⟨gb219, _, none⟩) NB216_219.o _).trans (hHeld.2.2.2.2.2))))⟩ (fun hHeld => ?_)
  clear hK K
  refine done_ (done_of HT_.out (by kernel_rfl)) ?_
  try go_wp2
  go_loopg [7] k (fun kq v7 w' => ∃ (x7_1 : Int), v7 = .int .i64 x7_1 ∧ zaa (vinculumlaw02_RationalField.l0 kq x7_1 t210 t211 t212 t213 t214 t215 = some r) ∧ zaa (kq ≤ k) ∧ zaa (w'.heap[gb208]? = some (.cells #[.int .i16 a0_0, .int .i16 a0_1, .int .i16 a0_2, .int .i16 a0_3, .int .i16 a0_4, .int .i16 a0_5] 40 (0, 0))) ∧ zaa (w'.heap[gb216]? = some (.cells #[.int .i64 t210, .int .i64 t211, .int .i64 t212, .int .i64 t213, .int .i64 t214, .int .i64 t215] 41 (0, 0))) ∧ zaa (w'.heap[gb217]? = some (.cells #[.int .i64 t210, .int .i64 t211] 24 (0, 0))) ∧ zaa (w'.heap[gb218]? = some (.cells #[.int .i64 t212, .int .i64 t213] 24 (0, 0))) ∧ zaa (w'.heap[gb219]? = some (.cells #[.int .i64 t214, .int .i64 t215] 24 (0, 0))) ∧ zaa (Below w.heap.size w w'))
  case atStart => exact ⟨(0), (by first | rfl | (simp; done) | (simp [*]; done)), H', ⟨Nat.le_refl _⟩, ⟨by (with_reducible repeat (first | refine zad ?_ _ | refine zab ?_ | refine zac ?_ _)); refine zam ?_ NB208_219.o _; (with_reducible repeat (first | refine zad ?_ _ | refine zab ?_ | refine zac ?_ _)); refine zam ?_ NB208_219.o _; (with_reducible repeat (first | refine zad ?_ _ | refine zab ?_ | refine zac ?_ _)); refine zam ?_ NB208_218.o _; (with_reducible repeat (first | refine zad ?_ _ | refine zab ?_ | refine zac ?_ _)); refine zam ?_ NB208_218.o _; (with_reducible repeat (first | refine zad ?_ _ | refine zab ?_ | refine zac ?_ _)); refine zam ?_ NB208_217.o _; (with_reducible repeat (first | refine zad ?_ _ | refine zab ?_ | refine zac ?_ _)); refine zam ?_ NB208_217.o _; (with_reducible repeat (first | refine zad ?_ _ | refine zab ?_ | refine zac ?_ _)); exact BK208.o⟩, ⟨by (with_reducible repeat (first | refine zad ?_ _ | refine zab ?_ | refine zac ?_ _)); refine zam ?_ NB216_219.o _; (with_reducible repeat (first | refine zad ?_ _ | refine zab ?_ | refine zac ?_ _)); refine zam ?_ NB216_219.o _; (with_reducible repeat (first | refine zad ?_ _ | refine zab ?_ | refine zac ?_ _)); refine zam ?_ NB216_218.o _; (with_reducible repeat (first | refine zad ?_ _ | refine zab ?_ | refine zac ?_ _)); refine zam ?_ NB216_218.o _; (with_reducible repeat (first | refine zad ?_ _ | refine zab ?_ | refine zac ?_ _)); refine zam ?_ NB216_217.o _; (with_reducible repeat (first | refine zad ?_ _ | refine zab ?_ | refine zac ?_ _)); refine zam ?_ NB216_217.o _; (with_reducible repeat (first | refine zad ?_ _ | refine zab ?_ | refine zac ?_ _)); exact BK216.o⟩, ⟨by (with_reducible repeat (first | refine zad ?_ _ | refine zab ?_ | refine zac ?_ _)); refine zam ?_ NB217_219.o _; (with_reducible repeat (first | refine zad ?_ _ | refine zab ?_ | refine zac ?_ _)); refine zam ?_ NB217_219.o _; (with_reducible repeat (first | refine zad ?_ _ | refine zab ?_ | refine zac ?_ _)); refine zam ?_ NB217_218.o _; (with_reducible repeat (first | refine zad ?_ _ | refine zab ?_ | refine zac ?_ _)); refine zam ?_ NB217_218.o _; (with_reducible repeat (first | refine zad ?_ _ | refine zab ?_ | refine zac ?_ _)); refine zap (cs := #[.int .i64 t210, .int .i64 0]) ?_ 1 _ rfl; (with_reducible repeat (first | refine zad ?_ _ | refine zab ?_ | refine zac ?_ _)); refine zap (cs := #[.int .i64 0, .int .i64 0]) ?_ 0 _ rfl; (with_reducible repeat (first | refine zad ?_ _ | refine zab ?_ | refine zac ?_ _)); exact BK217.o⟩, ⟨by (with_reducible repeat (first | refine zad ?_ _ | refine zab ?_ | refine zac ?_ _)); refine zam ?_ NB218_219.o _; (with_reducible repeat (first | refine zad ?_ _ | refine zab ?_ | refine zac ?_ _)); refine zam ?_ NB218_219.o _; (with_reducible repeat (first | refine zad ?_ _ | refine zab ?_ | refine zac ?_ _)); refine zap (cs := #[.int .i64 t212, .int .i64 0]) ?_ 1 _ rfl; (with_reducible repeat (first | refine zad ?_ _ | refine zab ?_ | refine zac ?_ _)); refine zap (cs := #[.int .i64 0, .int .i64 0]) ?_ 0 _ rfl; (with_reducible repeat (first | refine zad ?_ _ | refine zab ?_ | refine zac ?_ _)); refine zam ?_ NB218_217.o _; (with_reducible repeat (first | refine zad ?_ _ | refine zab ?_ | refine zac ?_ _)); refine zam ?_ NB218_217.o _; (with_reducible repeat (first | refine zad ?_ _ | refine zab ?_ | refine zac ?_ _)); exact BK218.o⟩, ⟨by (with_reducible repeat (first | refine zad ?_ _ | refine zab ?_ | refine zac ?_ _)); refine zap (cs := #[.int .i64 t214, .int .i64 0]) ?_ 1 _ rfl; (with_reducible repeat (first | refine zad ?_ _ | refine zab ?_ | refine zac ?_ _)); refine zap (cs := #[.int .i64 0, .int .i64 0]) ?_ 0 _ rfl; (with_reducible repeat (first | refine zad ?_ _ | refine zab ?_ | refine zac ?_ _)); refine zam ?_ NB219_218.o _; (with_reducible repeat (first | refine zad ?_ _ | refine zab ?_ | refine zac ?_ _)); refine zam ?_ NB219_218.o _; (with_reducible repeat (first | refine zad ?_ _ | refine zab ?_ | refine zac ?_ _)); refine zam ?_ NB219_217.o _; (with_reducible repeat (first | refine zad ?_ _ | refine zab ?_ | refine zac ?_ _)); refine zam ?_ NB219_217.o _; (with_reducible repeat (first | refine zad ?_ _ | refine zab ?_ | refine zac ?_ _)); exact BK219.o⟩, ⟨by repeat (first | (with_reducible first | exact HB.o | apply zaf | apply zah | apply zag | refine zae ?_ GE208.o | refine zae ?_ GE216.o | refine zae ?_ GE217.o | refine zae ?_ GE218.o | refine zae ?_ GE219.o) | exact HB.o)⟩⟩
  case round =>
   clear H'
   try clear p2
   obtain ⟨x7_1, rfl, HA, HK1, BK208, BK216, BK217, BK218, BK219, HB⟩ := hrel
   cases gk with
   | zero => exact absurd HA.o (by simp [vinculumlaw02_RationalField.l0])
   | succ k1 =>
    have H := HA.o
    clear HA
    simp only [vinculumlaw02_RationalField.l0] at H
    by_cases c24 : x7_1 ≤ 2
    ·rw [if_pos c24] at H
     have c24b0 : decide (x7_1 ≤ 2) = true := decide_eq_true c24
     clear c24
     replace H := Option.bind_eq_some_iff.mp H
     obtain ⟨⟨t220, t221, t222⟩, A250, H⟩ := H
     replace H : ((vinculumlaw02_op.f k1 x7_1 t212 t213 0 t210 t211 0).bind fun bt224 => ((vinculumlaw02_op.f k1 x7_1 t212 t213 0 t214 t215 0).bind fun bt228 => ((vinculumlaw02_op.f k1 x7_1 t220 t221 t222 t214 t215 0).bind fun bt232 => ((vinculumlaw02_op.f k1 x7_1 t210 t211 0 bt228.1 bt228.2.1 bt228.2.2).bind fun bt236 => (if (!(t220 == bt224.1) || (!(t221 == bt224.2.1))) = true then (none) else (if t222 = bt224.2.2 then ((vinculumlaw02_agree.f bt232.1 bt232.2.1 bt232.2.2 bt236.1 bt236.2.1 bt236.2.2).bind fun t240 => (if t240 = true then (vinculumlaw02_RationalField.l0 k1 (wrap64 (x7_1 + 2)) t210 t211 t212 t213 t214 t215) else (none))) else (none))))))) = some r := H
     have A25 := zaa.mk A250
     clear A250
     replace H := Option.bind_eq_some_iff.mp H
     obtain ⟨⟨t224, t225, t226⟩, A260, H⟩ := H
     replace H : ((vinculumlaw02_op.f k1 x7_1 t212 t213 0 t214 t215 0).bind fun bt228 => ((vinculumlaw02_op.f k1 x7_1 t220 t221 t222 t214 t215 0).bind fun bt232 => ((vinculumlaw02_op.f k1 x7_1 t210 t211 0 bt228.1 bt228.2.1 bt228.2.2).bind fun bt236 => (if (!(t220 == t224) || (!(t221 == t225))) = true then (none) else (if t222 = t226 then ((vinculumlaw02_agree.f bt232.1 bt232.2.1 bt232.2.2 bt236.1 bt236.2.1 bt236.2.2).bind fun t240 => (if t240 = true then (vinculumlaw02_RationalField.l0 k1 (wrap64 (x7_1 + 2)) t210 t211 t212 t213 t214 t215) else (none))) else (none)))))) = some r := H
     have A26 := zaa.mk A260
     clear A260
     replace H := Option.bind_eq_some_iff.mp H
     obtain ⟨⟨t228, t229, t230⟩, A270, H⟩ := H
     replace H : ((vinculumlaw02_op.f k1 x7_1 t220 t221 t222 t214 t215 0).bind fun bt232 => ((vinculumlaw02_op.f k1 x7_1 t210 t211 0 t228 t229 t230).bind fun bt236 => (if (!(t220 == t224) || (!(t221 == t225))) = true then (none) else (if t222 = t226 then ((vinculumlaw02_agree.f bt232.1 bt232.2.1 bt232.2.2 bt236.1 bt236.2.1 bt236.2.2).bind fun t240 => (if t240 = true then (vinculumlaw02_RationalField.l0 k1 (wrap64 (x7_1 + 2)) t210 t211 t212 t213 t214 t215) else (none))) else (none))))) = some r := H
     have A27 := zaa.mk A270
     clear A270
     replace H := Option.bind_eq_some_iff.mp H
     obtain ⟨⟨t232, t233, t234⟩, A280, H⟩ := H
     replace H : ((vinculumlaw02_op.f k1 x7_1 t210 t211 0 t228 t229 t230).bind fun bt236 => (if (!(t220 == t224) || (!(t221 == t225))) = true then (none) else (if t222 = t226 then ((vinculumlaw02_agree.f t232 t233 t234 bt236.1 bt236.2.1 bt236.2.2).bind fun t240 => (if t240 = true then (vinculumlaw02_RationalField.l0 k1 (wrap64 (x7_1 + 2)) t210 t211 t212 t213 t214 t215) else (none))) else (none)))) = some r := H
     have A28 := zaa.mk A280
     clear A280
     replace H := Option.bind_eq_some_iff.mp H
     obtain ⟨⟨t236, t237, t238⟩, A290, H⟩ := H
     replace H : (if (!(t220 == t224) || (!(t221 == t225))) = true then (none) else (if t222 = t226 then ((vinculumlaw02_agree.f t232 t233 t234 t236 t237 t238).bind fun t240 => (if t240 = true then (vinculumlaw02_RationalField.l0 k1 (wrap64 (x7_1 + 2)) t210 t211 t212 t213 t214 t215) else (none))) else (none))) = some r := H
     have A29 := zaa.mk A290
     clear A290
     by_cases c30 : (!(t220 == t224) || (!(t221 == t225))) = true
     ·rw [if_pos c30] at H
      exact absurd H (by simp)
     ·rw [if_neg c30] at H
      have c30b0 : (!(t220 == t224) || (!(t221 == t225))) = false := by simpa using c30
      clear c30
      by_cases c31 : t222 = t226
      ·rw [if_pos c31] at H
       have c31b0 : (t222 == t226) = true := beq_iff_eq.mpr c31
       have c31b1 : (t222 != t226) = false := bne_eq_false_iff_eq.mpr c31
       clear c31
       replace H := Option.bind_eq_some_iff.mp H
       obtain ⟨t240, A320, H⟩ := H
       replace H : (if t240 = true then (vinculumlaw02_RationalField.l0 k1 (wrap64 (x7_1 + 2)) t210 t211 t212 t213 t214 t215) else (none)) = some r := H
       have A32 := zaa.mk A320
       clear A320
       by_cases c33 : t240 = true
       ·subst c33
        have H1 : (vinculumlaw02_RationalField.l0 k1 (wrap64 (x7_1 + 2)) t210 t211 t212 t213 t214 t215) = some r := by rw [if_pos rfl] at H; exact H
        clear H
        have H := H1
        clear H1
        have H' := zaa.mk H
        clear H
        have hnb34 := NB217_208.o
        have hnc34 := NB208_217.o
        have hnb35 := NB217_216.o
        have hnc35 := NB216_217.o
        have hnb36 := NB217_218.o
        have hnc36 := NB218_217.o
        have hnb37 := NB217_219.o
        have hnc37 := NB219_217.o
        have hcz38_0 : wr.cell? ⟨gb217, 0, none⟩ = some (.int .i64 t210) := (zai BK217.o 0).trans rfl
        have hcz38_1 : wr.cell? ⟨gb217, 1, none⟩ = some (.int .i64 t211) := (zai BK217.o 1).trans rfl
        have hfz38_0 := zak BK217.o 0
        have hfz38_1 := zak BK217.o 1
        have hnb39 := NB218_208.o
        have hnc39 := NB208_218.o
        have hnb40 := NB218_216.o
        have hnc40 := NB216_218.o
        have hnb41 := NB218_219.o
        have hnc41 := NB219_218.o
        have hcz42_0 : wr.cell? ⟨gb218, 0, none⟩ = some (.int .i64 t212) := (zai BK218.o 0).trans rfl
        have hcz42_1 : wr.cell? ⟨gb218, 1, none⟩ = some (.int .i64 t213) := (zai BK218.o 1).trans rfl
        have hfz42_0 := zak BK218.o 0
        have hfz42_1 := zak BK218.o 1
        go_wp2_with (first | ((with_reducible refine zas (f := 21) rfl ?_); refine zat (some 46) rfl rfl Tryd.func21 (by kernel_rfl) rfl #[.int .i64 x7_1, .agg #[.int .i64 t210, .int .i64 t211], .int .i64 0, .agg #[.int .i64 t212, .int .i64 t213], .int .i64 0] rfl (by (try simp only [List.map_toArray, List.map_cons, List.map_nil]); first | done | rfl | (simp only [List.length_drop, List.length_take]; rfl)) ?_; (with_reducible refine (vinculumlaw02_op.calls k1 x7_1 t210 t211 0 t212 t213 0 t220 t221 t222 _ A25.o).mono ?_); rintro e w43 ⟨rfl, hb⟩; refine ⟨_, rfl, ?_⟩; have n0_ := zaa.mk (zaj (by (with_reducible repeat (first | refine zad ?_ _ | refine zab ?_ | refine zac ?_ _)); exact BK208.o) hb); have n1_ := zaa.mk (zaj (by (with_reducible repeat (first | refine zad ?_ _ | refine zab ?_ | refine zac ?_ _)); exact BK216.o) hb); have n2_ := zaa.mk (zaj (by (with_reducible repeat (first | refine zad ?_ _ | refine zab ?_ | refine zac ?_ _)); exact BK217.o) hb); have n3_ := zaa.mk (zaj (by (with_reducible repeat (first | refine zad ?_ _ | refine zab ?_ | refine zac ?_ _)); exact BK218.o) hb); have n4_ := zaa.mk (zaj (by (with_reducible repeat (first | refine zad ?_ _ | refine zab ?_ | refine zac ?_ _)); exact BK219.o) hb); have n5_ := zaa.mk (zao (by repeat (first | (with_reducible first | exact HB.o | apply zaf | apply zah | apply zag | refine zae ?_ GE208.o | refine zae ?_ GE216.o | refine zae ?_ GE217.o | refine zae ?_ GE218.o | refine zae ?_ GE219.o) | exact HB.o)) hb); clear BK208; clear BK216; clear BK217; clear BK218; clear BK219; clear HB; have BK208 := n0_; have BK216 := n1_; have BK217 := n2_; have BK218 := n3_; have BK219 := n4_; have HB := n5_; clear n0_ n1_ n2_ n3_ n4_ n5_; (try clear hb); (try clear hb2); (try clear hk); (try clear hi)) | ((with_reducible refine zaq (N := 8) rfl ?_); refine zar ?hg (N := 8) ?hd (cs := #[.int .i64 0, .int .i64 0]) (t := 24) ?hr ?_; (case hd => rfl); (case hg => rfl); (case hr => first | (go_simp; done) | (go_simp; rfl)); intro gb223 hg w44 hbox hb; have n0_ := zaa.mk (zaj (by (with_reducible repeat (first | refine zad ?_ _ | refine zab ?_ | refine zac ?_ _)); exact BK208.o) hb); have n1_ := zaa.mk (zaj (by (with_reducible repeat (first | refine zad ?_ _ | refine zab ?_ | refine zac ?_ _)); exact BK216.o) hb); have n2_ := zaa.mk (zaj (by (with_reducible repeat (first | refine zad ?_ _ | refine zab ?_ | refine zac ?_ _)); exact BK217.o) hb); have n3_ := zaa.mk (zaj (by (with_reducible repeat (first | refine zad ?_ _ | refine zab ?_ | refine zac ?_ _)); exact BK218.o) hb); have n4_ := zaa.mk (zaj (by (with_reducible repeat (first | refine zad ?_ _ | refine zab ?_ | refine zac ?_ _)); exact BK219.o) hb); have n5_ := zaa.mk (zao (by repeat (first | (with_reducible first | exact HB.o | apply zaf | apply zah | apply zag | refine zae ?_ GE208.o | refine zae ?_ GE216.o | refine zae ?_ GE217.o | refine zae ?_ GE218.o | refine zae ?_ GE219.o) | exact HB.o)) hb); have n6_ := zaa.mk (hbox); have n7_ := zaa.mk ((by rw [hg]; exact (zan (by repeat (first | (with_reducible first | exact HB.o | apply zaf | apply zah | apply zag | refine zae ?_ GE208.o | refine zae ?_ GE216.o | refine zae ?_ GE217.o | refine zae ?_ GE218.o | refine zae ?_ GE219.o) | exact HB.o))) : w.heap.size ≤ gb223)); have n8_ := zaa.mk ((by rw [hg]; exact (zan (by repeat (first | (with_reducible first | exact HB.o | apply zaf | apply zah | apply zag | refine zae ?_ GE208.o | refine zae ?_ GE216.o | refine zae ?_ GE217.o | refine zae ?_ GE218.o | refine zae ?_ GE219.o) | exact HB.o))) : w.heap.size ≤ gb223)); have n9_ := zaa.mk ((by rw [hg]; exact Nat.ne_of_lt (zal (g := gb208) (o := .cells #[.int .i16 a0_0, .int .i16 a0_1, .int .i16 a0_2, .int .i16 a0_3, .int .i16 a0_4, .int .i16 a0_5] 40 (0, 0)) (by (with_reducible repeat (first | refine zad ?_ _ | refine zab ?_ | refine zac ?_ _)); exact BK208.o)) : gb208 ≠ gb223)); have n10_ := zaa.mk ((by rw [hg]; exact Nat.ne_of_gt (zal (g := gb208) (o := .cells #[.int .i16 a0_0, .int .i16 a0_1, .int .i16 a0_2, .int .i16 a0_3, .int .i16 a0_4, .int .i16 a0_5] 40 (0, 0)) (by (with_reducible repeat (first | refine zad ?_ _ | refine zab ?_ | refine zac ?_ _)); exact BK208.o)) : gb223 ≠ gb208)); have n11_ := zaa.mk ((by rw [hg]; exact Nat.ne_of_lt (zal (g := gb216) (o := .cells #[.int .i64 t210, .int .i64 t211, .int .i64 t212, .int .i64 t213, .int .i64 t214, .int .i64 t215] 41 (0, 0)) (by (with_reducible repeat (first | refine zad ?_ _ | refine zab ?_ | refine zac ?_ _)); exact BK216.o)) : gb216 ≠ gb223)); have n12_ := zaa.mk ((by rw [hg]; exact Nat.ne_of_gt (zal (g := gb216) (o := .cells #[.int .i64 t210, .int .i64 t211, .int .i64 t212, .int .i64 t213, .int .i64 t214, .int .i64 t215] 41 (0, 0)) (by (with_reducible repeat (first | refine zad ?_ _ | refine zab ?_ | refine zac ?_ _)); exact BK216.o)) : gb223 ≠ gb216)); have n13_ := zaa.mk ((by rw [hg]; exact Nat.ne_of_lt (zal (g := gb217) (o := .cells #[.int .i64 t210, .int .i64 t211] 24 (0, 0)) (by (with_reducible repeat (first | refine zad ?_ _ | refine zab ?_ | refine zac ?_ _)); exact BK217.o)) : gb217 ≠ gb223)); have n14_ := zaa.mk ((by rw [hg]; exact Nat.ne_of_gt (zal (g := gb217) (o := .cells #[.int .i64 t210, .int .i64 t211] 24 (0, 0)) (by (with_reducible repeat (first | refine zad ?_ _ | refine zab ?_ | refine zac ?_ _)); exact BK217.o)) : gb223 ≠ gb217)); have n15_ := zaa.mk ((by rw [hg]; exact Nat.ne_of_lt (zal (g := gb218) (o := .cells #[.int .i64 t212, .int .i64 t213] 24 (0, 0)) (by (with_reducible repeat (first | refine zad ?_ _ | refine zab ?_ | refine zac ?_ _)); exact BK218.o)) : gb218 ≠ gb223)); have n16_ := zaa.mk ((by rw [hg]; exact Nat.ne_of_gt (zal (g := gb218) (o := .cells #[.int .i64 t212, .int .i64 t213] 24 (0, 0)) (by (with_reducible repeat (first | refine zad ?_ _ | refine zab ?_ | refine zac ?_ _)); exact BK218.o)) : gb223 ≠ gb218)); have n17_ := zaa.mk ((by rw [hg]; exact Nat.ne_of_lt (zal (g := gb219) (o := .cells #[.int .i64 t214, .int .i64 t215] 24 (0, 0)) (by (with_reducible repeat (first | refine zad ?_ _ | refine zab ?_ | refine zac ?_ _)); exact BK219.o)) : gb219 ≠ gb223)); have n18_ := zaa.mk ((by rw [hg]; exact Nat.ne_of_gt (zal (g := gb219) (o := .cells #[.int .i64 t214, .int .i64 t215] 24 (0, 0)) (by (with_reducible repeat (first | refine zad ?_ _ | refine zab ?_ | refine zac ?_ _)); exact BK219.o)) : gb223 ≠ gb219)); clear BK208; clear BK216; clear BK217; clear BK218; clear BK219; clear HB; have BK208 := n0_; have BK216 := n1_; have BK217 := n2_; have BK218 := n3_; have BK219 := n4_; have HB := n5_; have BK223 := n6_; have GW223 := n7_; have GE223 := n8_; have NB208_223 := n9_; have NB223_208 := n10_; have NB216_223 := n11_; have NB223_216 := n12_; have NB217_223 := n13_; have NB223_217 := n14_; have NB218_223 := n15_; have NB223_218 := n16_; have NB219_223 := n17_; have NB223_219 := n18_; clear n0_ n1_ n2_ n3_ n4_ n5_ n6_ n7_ n8_ n9_ n10_ n11_ n12_ n13_ n14_ n15_ n16_ n17_ n18_; clear hb hbox hg; have hnb45 := NB223_208.o; have hnc45 := NB208_223.o; have hnb46 := NB223_216.o; have hnc46 := NB216_223.o; have hnb47 := NB223_217.o; have hnc47 := NB217_223.o; have hnb48 := NB223_218.o; have hnc48 := NB218_223.o; have hnb49 := NB223_219.o; have hnc49 := NB219_223.o; obtain ⟨hcz50_0, hcz50_1⟩ := cz2 BK223.o; obtain ⟨hfz50_0, hfz50_1⟩ := fz2 BK223.o; obtain ⟨hcz51_0, hcz51_1⟩ := cz2 BK218.o; obtain ⟨hfz51_0, hfz51_1⟩ := fz2 BK218.o; obtain ⟨hcz52_0, hcz52_1⟩ := cz2 BK217.o; obtain ⟨hfz52_0, hfz52_1⟩ := fz2 BK217.o) | ((with_reducible refine zas (f := 21) rfl ?_); refine zat (some 53) rfl rfl Tryd.func21 (by kernel_rfl) rfl #[.int .i64 x7_1, .agg #[.int .i64 t212, .int .i64 t213], .int .i64 0, .agg #[.int .i64 t210, .int .i64 t211], .int .i64 0] rfl (by (try simp only [List.map_toArray, List.map_cons, List.map_nil]); first | done | rfl | (simp only [List.length_drop, List.length_take]; rfl)) ?_; (with_reducible refine (vinculumlaw02_op.calls k1 x7_1 t212 t213 0 t210 t211 0 t224 t225 t226 _ A26.o).mono ?_); rintro e w53 ⟨rfl, hb⟩; refine ⟨_, rfl, ?_⟩; have n0_ := zaa.mk (zaj (g := gb208) (o := .cells #[.int .i16 a0_0, .int .i16 a0_1, .int .i16 a0_2, .int .i16 a0_3, .int .i16 a0_4, .int .i16 a0_5] 40 (0, 0)) (by (with_reducible repeat (first | refine zad ?_ _ | refine zab ?_ | refine zac ?_ _)); refine zam ?_ NB208_223.o _; (with_reducible repeat (first | refine zad ?_ _ | refine zab ?_ | refine zac ?_ _)); refine zam ?_ NB208_223.o _; (with_reducible repeat (first | refine zad ?_ _ | refine zab ?_ | refine zac ?_ _)); exact BK208.o) hb); have n1_ := zaa.mk (zaj (g := gb216) (o := .cells #[.int .i64 t210, .int .i64 t211, .int .i64 t212, .int .i64 t213, .int .i64 t214, .int .i64 t215] 41 (0, 0)) (by (with_reducible repeat (first | refine zad ?_ _ | refine zab ?_ | refine zac ?_ _)); refine zam ?_ NB216_223.o _; (with_reducible repeat (first | refine zad ?_ _ | refine zab ?_ | refine zac ?_ _)); refine zam ?_ NB216_223.o _; (with_reducible repeat (first | refine zad ?_ _ | refine zab ?_ | refine zac ?_ _)); exact BK216.o) hb); have n2_ := zaa.mk (zaj (g := gb217) (o := .cells #[.int .i64 t210, .int .i64 t211] 24 (0, 0)) (by (with_reducible repeat (first | refine zad ?_ _ | refine zab ?_ | refine zac ?_ _)); refine zam ?_ NB217_223.o _; (with_reducible repeat (first | refine zad ?_ _ | refine zab ?_ | refine zac ?_ _)); refine zam ?_ NB217_223.o _; (with_reducible repeat (first | refine zad ?_ _ | refine zab ?_ | refine zac ?_ _)); exact BK217.o) hb); have n3_ := zaa.mk (zaj (g := gb218) (o := .cells #[.int .i64 t212, .int .i64 t213] 24 (0, 0)) (by (with_reducible repeat (first | refine zad ?_ _ | refine zab ?_ | refine zac ?_ _)); refine zam ?_ NB218_223.o _; (with_reducible repeat (first | refine zad ?_ _ | refine zab ?_ | refine zac ?_ _)); refine zam ?_ NB218_223.o _; (with_reducible repeat (first | refine zad ?_ _ | refine zab ?_ | refine zac ?_ _)); exact BK218.o) hb); have n4_ := zaa.mk (zaj (g := gb219) (o := .cells #[.int .i64 t214, .int .i64 t215] 24 (0, 0)) (by (with_reducible repeat (first | refine zad ?_ _ | refine zab ?_ | refine zac ?_ _)); refine zam ?_ NB219_223.o _; (with_reducible repeat (first | refine zad ?_ _ | refine zab ?_ | refine zac ?_ _)); refine zam ?_ NB219_223.o _; (with_reducible repeat (first | refine zad ?_ _ | refine zab ?_ | refine zac ?_ _)); exact BK219.o) hb); have n5_ := zaa.mk (zaj (g := gb223) (o := .cells #[.int .i64 t220, .int .i64 t221] 24 (0, 0)) (by (with_reducible repeat (first | refine zad ?_ _ | refine zab ?_ | refine zac ?_ _)); refine zap (cs := #[.int .i64 t220, .int .i64 0]) ?_ 1 _ rfl; (with_reducible repeat (first | refine zad ?_ _ | refine zab ?_ | refine zac ?_ _)); refine zap (cs := #[.int .i64 0, .int .i64 0]) ?_ 0 _ rfl; (with_reducible repeat (first | refine zad ?_ _ | refine zab ?_ | refine zac ?_ _)); exact BK223.o) hb); have n6_ := zaa.mk (zao (by repeat (first | (with_reducible first | exact HB.o | apply zaf | apply zah | apply zag | refine zae ?_ GE208.o | refine zae ?_ GE216.o | refine zae ?_ GE217.o | refine zae ?_ GE218.o | refine zae ?_ GE219.o | refine zae ?_ GE223.o) | exact HB.o)) hb); clear BK208; clear BK216; clear BK217; clear BK218; clear BK219; clear BK223; clear HB; have BK208 := n0_; have BK216 := n1_; have BK217 := n2_; have BK218 := n3_; have BK219 := n4_; have BK223 := n5_; have HB := n6_; clear n0_ n1_ n2_ n3_ n4_ n5_ n6_; (try clear hb); (try clear hb2); (try clear hk); (try clear hi)) | ((with_reducible refine zaq (N := 10) rfl ?_); refine zar ?hg (N := 10) ?hd (cs := #[.int .i64 0, .int .i64 0]) (t := 24) ?hr ?_; (case hd => rfl); (case hg => rfl); (case hr => first | (go_simp; done) | (go_simp; rfl)); intro gb227 hg w54 hbox hb; have n0_ := zaa.mk (zaj (by (with_reducible repeat (first | refine zad ?_ _ | refine zab ?_ | refine zac ?_ _)); exact BK208.o) hb); have n1_ := zaa.mk (zaj (by (with_reducible repeat (first | refine zad ?_ _ | refine zab ?_ | refine zac ?_ _)); exact BK216.o) hb); have n2_ := zaa.mk (zaj (by (with_reducible repeat (first | refine zad ?_ _ | refine zab ?_ | refine zac ?_ _)); exact BK217.o) hb); have n3_ := zaa.mk (zaj (by (with_reducible repeat (first | refine zad ?_ _ | refine zab ?_ | refine zac ?_ _)); exact BK218.o) hb); have n4_ := zaa.mk (zaj (by (with_reducible repeat (first | refine zad ?_ _ | refine zab ?_ | refine zac ?_ _)); exact BK219.o) hb); have n5_ := zaa.mk (zaj (by (with_reducible repeat (first | refine zad ?_ _ | refine zab ?_ | refine zac ?_ _)); exact BK223.o) hb); have n6_ := zaa.mk (zao (by repeat (first | (with_reducible first | exact HB.o | apply zaf | apply zah | apply zag | refine zae ?_ GE208.o | refine zae ?_ GE216.o | refine zae ?_ GE217.o | refine zae ?_ GE218.o | refine zae ?_ GE219.o | refine zae ?_ GE223.o) | exact HB.o)) hb); have n7_ := zaa.mk (hbox); have n8_ := zaa.mk ((by rw [hg]; exact (zan (by repeat (first | (with_reducible first | exact HB.o | apply zaf | apply zah | apply zag | refine zae ?_ GE208.o | refine zae ?_ GE216.o | refine zae ?_ GE217.o | refine zae ?_ GE218.o | refine zae ?_ GE219.o | refine zae ?_ GE223.o) | exact HB.o))) : w.heap.size ≤ gb227)); have n9_ := zaa.mk ((by rw [hg]; exact (zan (by repeat (first | (with_reducible first | exact HB.o | apply zaf | apply zah | apply zag | refine zae ?_ GE208.o | refine zae ?_ GE216.o | refine zae ?_ GE217.o | refine zae ?_ GE218.o | refine zae ?_ GE219.o | refine zae ?_ GE223.o) | exact HB.o))) : w.heap.size ≤ gb227)); have n10_ := zaa.mk ((by rw [hg]; exact Nat.ne_of_lt (zal (g := gb208) (o := .cells #[.int .i16 a0_0, .int .i16 a0_1, .int .i16 a0_2, .int .i16 a0_3, .int .i16 a0_4, .int .i16 a0_5] 40 (0, 0)) (by (with_reducible repeat (first | refine zad ?_ _ | refine zab ?_ | refine zac ?_ _)); exact BK208.o)) : gb208 ≠ gb227)); have n11_ := zaa.mk ((by rw [hg]; exact Nat.ne_of_gt (zal (g := gb208) (o := .cells #[.int .i16 a0_0, .int .i16 a0_1, .int .i16 a0_2, .int .i16 a0_3, .int .i16 a0_4, .int .i16 a0_5] 40 (0, 0)) (by (with_reducible repeat (first | refine zad ?_ _ | refine zab ?_ | refine zac ?_ _)); exact BK208.o)) : gb227 ≠ gb208)); have n12_ := zaa.mk ((by rw [hg]; exact Nat.ne_of_lt (zal (g := gb216) (o := .cells #[.int .i64 t210, .int .i64 t211, .int .i64 t212, .int .i64 t213, .int .i64 t214, .int .i64 t215] 41 (0, 0)) (by (with_reducible repeat (first | refine zad ?_ _ | refine zab ?_ | refine zac ?_ _)); exact BK216.o)) : gb216 ≠ gb227)); have n13_ := zaa.mk ((by rw [hg]; exact Nat.ne_of_gt (zal (g := gb216) (o := .cells #[.int .i64 t210, .int .i64 t211, .int .i64 t212, .int .i64 t213, .int .i64 t214, .int .i64 t215] 41 (0, 0)) (by (with_reducible repeat (first | refine zad ?_ _ | refine zab ?_ | refine zac ?_ _)); exact BK216.o)) : gb227 ≠ gb216)); have n14_ := zaa.mk ((by rw [hg]; exact Nat.ne_of_lt (zal (g := gb217) (o := .cells #[.int .i64 t210, .int .i64 t211] 24 (0, 0)) (by (with_reducible repeat (first | refine zad ?_ _ | refine zab ?_ | refine zac ?_ _)); exact BK217.o)) : gb217 ≠ gb227)); have n15_ := zaa.mk ((by rw [hg]; exact Nat.ne_of_gt (zal (g := gb217) (o := .cells #[.int .i64 t210, .int .i64 t211] 24 (0, 0)) (by (with_reducible repeat (first | refine zad ?_ _ | refine zab ?_ | refine zac ?_ _)); exact BK217.o)) : gb227 ≠ gb217)); have n16_ := zaa.mk ((by rw [hg]; exact Nat.ne_of_lt (zal (g := gb218) (o := .cells #[.int .i64 t212, .int .i64 t213] 24 (0, 0)) (by (with_reducible repeat (first | refine zad ?_ _ | refine zab ?_ | refine zac ?_ _)); exact BK218.o)) : gb218 ≠ gb227)); have n17_ := zaa.mk ((by rw [hg]; exact Nat.ne_of_gt (zal (g := gb218) (o := .cells #[.int .i64 t212, .int .i64 t213] 24 (0, 0)) (by (with_reducible repeat (first | refine zad ?_ _ | refine zab ?_ | refine zac ?_ _)); exact BK218.o)) : gb227 ≠ gb218)); have n18_ := zaa.mk ((by rw [hg]; exact Nat.ne_of_lt (zal (g := gb219) (o := .cells #[.int .i64 t214, .int .i64 t215] 24 (0, 0)) (by (with_reducible repeat (first | refine zad ?_ _ | refine zab ?_ | refine zac ?_ _)); exact BK219.o)) : gb219 ≠ gb227)); have n19_ := zaa.mk ((by rw [hg]; exact Nat.ne_of_gt (zal (g := gb219) (o := .cells #[.int .i64 t214, .int .i64 t215] 24 (0, 0)) (by (with_reducible repeat (first | refine zad ?_ _ | refine zab ?_ | refine zac ?_ _)); exact BK219.o)) : gb227 ≠ gb219)); have n20_ := zaa.mk ((by rw [hg]; exact Nat.ne_of_lt (zal (g := gb223) (o := .cells #[.int .i64 t220, .int .i64 t221] 24 (0, 0)) (by (with_reducible repeat (first | refine zad ?_ _ | refine zab ?_ | refine zac ?_ _)); exact BK223.o)) : gb223 ≠ gb227)); have n21_ := zaa.mk ((by rw [hg]; exact Nat.ne_of_gt (zal (g := gb223) (o := .cells #[.int .i64 t220, .int .i64 t221] 24 (0, 0)) (by (with_reducible repeat (first | refine zad ?_ _ | refine zab ?_ | refine zac ?_ _)); exact BK223.o)) : gb227 ≠ gb223)); clear BK208; clear BK216; clear BK217; clear BK218; clear BK219; clear BK223; clear HB; have BK208 := n0_; have BK216 := n1_; have BK217 := n2_; have BK218 := n3_; have BK219 := n4_; have BK223 := n5_; have HB := n6_; have BK227 := n7_; have GW227 := n8_; have GE227 := n9_; have NB208_227 := n10_; have NB227_208 := n11_; have NB216_227 := n12_; have NB227_216 := n13_; have NB217_227 := n14_; have NB227_217 := n15_; have NB218_227 := n16_; have NB227_218 := n17_; have NB219_227 := n18_; have NB227_219 := n19_; have NB223_227 := n20_; have NB227_223 := n21_; clear n0_ n1_ n2_ n3_ n4_ n5_ n6_ n7_ n8_ n9_ n10_ n11_ n12_ n13_ n14_ n15_ n16_ n17_ n18_ n19_ n20_ n21_; clear hb hbox hg; have hnb55 := NB227_208.o; have hnc55 := NB208_227.o; have hnb56 := NB227_216.o; have hnc56 := NB216_227.o; have hnb57 := NB227_217.o; have hnc57 := NB217_227.o; have hnb58 := NB227_218.o; have hnc58 := NB218_227.o; have hnb59 := NB227_219.o; have hnc59 := NB219_227.o; have hnb60 := NB227_223.o; have hnc60 := NB223_227.o; obtain ⟨hcz61_0, hcz61_1⟩ := cz2 BK227.o; obtain ⟨hfz61_0, hfz61_1⟩ := fz2 BK227.o; obtain ⟨hcz62_0, hcz62_1⟩ := cz2 BK218.o; obtain ⟨hfz62_0, hfz62_1⟩ := fz2 BK218.o; have hnb63 := NB219_208.o; have hnc63 := NB208_219.o; have hnb64 := NB219_216.o; have hnc64 := NB216_219.o; obtain ⟨hcz65_0, hcz65_1⟩ := cz2 BK219.o; obtain ⟨hfz65_0, hfz65_1⟩ := fz2 BK219.o) | ((with_reducible refine zas (f := 21) rfl ?_); refine zat (some 60) rfl rfl Tryd.func21 (by kernel_rfl) rfl #[.int .i64 x7_1, .agg #[.int .i64 t212, .int .i64 t213], .int .i64 0, .agg #[.int .i64 t214, .int .i64 t215], .int .i64 0] rfl (by (try simp only [List.map_toArray, List.map_cons, List.map_nil]); first | done | rfl | (simp only [List.length_drop, List.length_take]; rfl)) ?_; (with_reducible refine (vinculumlaw02_op.calls k1 x7_1 t212 t213 0 t214 t215 0 t228 t229 t230 _ A27.o).mono ?_); rintro e w66 ⟨rfl, hb⟩; refine ⟨_, rfl, ?_⟩; have n0_ := zaa.mk (zaj (g := gb208) (o := .cells #[.int .i16 a0_0, .int .i16 a0_1, .int .i16 a0_2, .int .i16 a0_3, .int .i16 a0_4, .int .i16 a0_5] 40 (0, 0)) (by (with_reducible repeat (first | refine zad ?_ _ | refine zab ?_ | refine zac ?_ _)); refine zam ?_ NB208_227.o _; (with_reducible repeat (first | refine zad ?_ _ | refine zab ?_ | refine zac ?_ _)); refine zam ?_ NB208_227.o _; (with_reducible repeat (first | refine zad ?_ _ | refine zab ?_ | refine zac ?_ _)); exact BK208.o) hb); have n1_ := zaa.mk (zaj (g := gb216) (o := .cells #[.int .i64 t210, .int .i64 t211, .int .i64 t212, .int .i64 t213, .int .i64 t214, .int .i64 t215] 41 (0, 0)) (by (with_reducible repeat (first | refine zad ?_ _ | refine zab ?_ | refine zac ?_ _)); refine zam ?_ NB216_227.o _; (with_reducible repeat (first | refine zad ?_ _ | refine zab ?_ | refine zac ?_ _)); refine zam ?_ NB216_227.o _; (with_reducible repeat (first | refine zad ?_ _ | refine zab ?_ | refine zac ?_ _)); exact BK216.o) hb); have n2_ := zaa.mk (zaj (g := gb217) (o := .cells #[.int .i64 t210, .int .i64 t211] 24 (0, 0)) (by (with_reducible repeat (first | refine zad ?_ _ | refine zab ?_ | refine zac ?_ _)); refine zam ?_ NB217_227.o _; (with_reducible repeat (first | refine zad ?_ _ | refine zab ?_ | refine zac ?_ _)); refine zam ?_ NB217_227.o _; (with_reducible repeat (first | refine zad ?_ _ | refine zab ?_ | refine zac ?_ _)); exact BK217.o) hb); have n3_ := zaa.mk (zaj (g := gb218) (o := .cells #[.int .i64 t212, .int .i64 t213] 24 (0, 0)) (by (with_reducible repeat (first | refine zad ?_ _ | refine zab ?_ | refine zac ?_ _)); refine zam ?_ NB218_227.o _; (with_reducible repeat (first | refine zad ?_ _ | refine zab ?_ | refine zac ?_ _)); refine zam ?_ NB218_227.o _; (with_reducible repeat (first | refine zad ?_ _ | refine zab ?_ | refine zac ?_ _)); exact BK218.o) hb); have n4_ := zaa.mk (zaj (g := gb219) (o := .cells #[.int .i64 t214, .int .i64 t215] 24 (0, 0)) (by (with_reducible repeat (first | refine zad ?_ _ | refine zab ?_ | refine zac ?_ _)); refine zam ?_ NB219_227.o _; (with_reducible repeat (first | refine zad ?_ _ | refine zab ?_ | refine zac ?_ _)); refine zam ?_ NB219_227.o _; (with_reducible repeat (first | refine zad ?_ _ | refine zab ?_ | refine zac ?_ _)); exact BK219.o) hb); have n5_ := zaa.mk (zaj (g := gb223) (o := .cells #[.int .i64 t220, .int .i64 t221] 24 (0, 0)) (by (with_reducible repeat (first | refine zad ?_ _ | refine zab ?_ | refine zac ?_ _)); refine zam ?_ NB223_227.o _; (with_reducible repeat (first | refine zad ?_ _ | refine zab ?_ | refine zac ?_ _)); refine zam ?_ NB223_227.o _; (with_reducible repeat (first | refine zad ?_ _ | refine zab ?_ | refine zac ?_ _)); exact BK223.o) hb); have n6_ := zaa.mk (zaj (g := gb227) (o := .cells #[.int .i64 t224, .int .i64 t225] 24 (0, 0)) (by (with_reducible repeat (first | refine zad ?_ _ | refine zab ?_ | refine zac ?_ _)); refine zap (cs := #[.int .i64 t224, .int .i64 0]) ?_ 1 _ rfl; (with_reducible repeat (first | refine zad ?_ _ | refine zab ?_ | refine zac ?_ _)); refine zap (cs := #[.int .i64 0, .int .i64 0]) ?_ 0 _ rfl; (with_reducible repeat (first | refine zad ?_ _ | refine zab ?_ | refine zac ?_ _)); exact BK227.o) hb); have n7_ := zaa.mk (zao (by repeat (first | (with_reducible first | exact HB.o | apply zaf | apply zah | apply zag | refine zae ?_ GE208.o | refine zae ?_ GE216.o | refine zae ?_ GE217.o | refine zae ?_ GE218.o | refine zae ?_ GE219.o | refine zae ?_ GE223.o | refine zae ?_ GE227.o) | exact HB.o)) hb); clear BK208; clear BK216; clear BK217; clear BK218; clear BK219; clear BK223; clear BK227; clear HB; have BK208 := n0_; have BK216 := n1_; have BK217 := n2_; have BK218 := n3_; have BK219 := n4_; have BK223 := n5_; have BK227 := n6_; have HB := n7_; clear n0_ n1_ n2_ n3_ n4_ n5_ n6_ n7_; (try clear hb); (try clear hb2); (try clear hk); (try clear hi)) | ((with_reducible refine zaq (N := 12) rfl ?_); refine zar ?hg (N := 12) ?hd (cs := #[.int .i64 0, .int .i64 0]) (t := 24) ?hr ?_; (case hd => rfl); (case hg => rfl); (case hr => first | (go_simp; done) | (go_simp; rfl)); intro gb231 hg w67 hbox hb; have n0_ := zaa.mk (zaj (by (with_reducible repeat (first | refine zad ?_ _ | refine zab ?_ | refine zac ?_ _)); exact BK208.o) hb); have n1_ := zaa.mk (zaj (by (with_reducible repeat (first | refine zad ?_ _ | refine zab ?_ | refine zac ?_ _)); exact BK216.o) hb); have n2_ := zaa.mk (zaj (by (with_reducible repeat (first | refine zad ?_ _ | refine zab ?_ | refine zac ?_ _)); exact BK217.o) hb); have n3_ := zaa.mk (zaj (by (with_reducible repeat (first | refine zad ?_ _ | refine zab ?_ | refine zac ?_ _)); exact BK218.o) hb); have n4_ := zaa.mk (zaj (by (with_reducible repeat (first | refine zad ?_ _ | refine zab ?_ | refine zac ?_ _)); exact BK219.o) hb); have n5_ := zaa.mk (zaj (by (with_reducible repeat (first | refine zad ?_ _ | refine zab ?_ | refine zac ?_ _)); exact BK223.o) hb); have n6_ := zaa.mk (zaj (by (with_reducible repeat (first | refine zad ?_ _ | refine zab ?_ | refine zac ?_ _)); exact BK227.o) hb); have n7_ := zaa.mk (zao (by repeat (first | (with_reducible first | exact HB.o | apply zaf | apply zah | apply zag | refine zae ?_ GE208.o | refine zae ?_ GE216.o | refine zae ?_ GE217.o | refine zae ?_ GE218.o | refine zae ?_ GE219.o | refine zae ?_ GE223.o | refine zae ?_ GE227.o) | exact HB.o)) hb); have n8_ := zaa.mk (hbox); have n9_ := zaa.mk ((by rw [hg]; exact (zan (by repeat (first | (with_reducible first | exact HB.o | apply zaf | apply zah | apply zag | refine zae ?_ GE208.o | refine zae ?_ GE216.o | refine zae ?_ GE217.o | refine zae ?_ GE218.o | refine zae ?_ GE219.o | refine zae ?_ GE223.o | refine zae ?_ GE227.o) | exact HB.o))) : w.heap.size ≤ gb231)); have n10_ := zaa.mk ((by rw [hg]; exact (zan (by repeat (first | (with_reducible first | exact HB.o | apply zaf | apply zah | apply zag | refine zae ?_ GE208.o | refine zae ?_ GE216.o | refine zae ?_ GE217.o | refine zae ?_ GE218.o | refine zae ?_ GE219.o | refine zae ?_ GE223.o | refine zae ?_ GE227.o) | exact HB.o))) : w.heap.size ≤ gb231)); have n11_ := zaa.mk ((by rw [hg]; exact Nat.ne_of_lt (zal (g := gb208) (o := .cells #[.int .i16 a0_0, .int .i16 a0_1, .int .i16 a0_2, .int .i16 a0_3, .int .i16 a0_4, .int .i16 a0_5] 40 (0, 0)) (by (with_reducible repeat (first | refine zad ?_ _ | refine zab ?_ | refine zac ?_ _)); exact BK208.o)) : gb208 ≠ gb231)); have n12_ := zaa.mk ((by rw [hg]; exact Nat.ne_of_gt (zal (g := gb208) (o := .cells #[.int .i16 a0_0, .int .i16 a0_1, .int .i16 a0_2, .int .i16 a0_3, .int .i16 a0_4, .int .i16 a0_5] 40 (0, 0)) (by (with_reducible repeat (first | refine zad ?_ _ | refine zab ?_ | refine zac ?_ _)); exact BK208.o)) : gb231 ≠ gb208)); have n13_ := zaa.mk ((by rw [hg]; exact Nat.ne_of_lt (zal (g := gb216) (o := .cells #[.int .i64 t210, .int .i64 t211, .int .i64 t212, .int .i64 t213, .int .i64 t214, .int .i64 t215] 41 (0, 0)) (by (with_reducible repeat (first | refine zad ?_ _ | refine zab ?_ | refine zac ?_ _)); exact BK216.o)) : gb216 ≠ gb231)); have n14_ := zaa.mk ((by rw [hg]; exact Nat.ne_of_gt (zal (g := gb216) (o := .cells #[.int .i64 t210, .int .i64 t211, .int .i64 t212, .int .i64 t213, .int .i64 t214, .int .i64 t215] 41 (0, 0)) (by (with_reducible repeat (first | refine zad ?_ _ | refine zab ?_ | refine zac ?_ _)); exact BK216.o)) : gb231 ≠ gb216)); have n15_ := zaa.mk ((by rw [hg]; exact Nat.ne_of_lt (zal (g := gb217) (o := .cells #[.int .i64 t210, .int .i64 t211] 24 (0, 0)) (by (with_reducible repeat (first | refine zad ?_ _ | refine zab ?_ | refine zac ?_ _)); exact BK217.o)) : gb217 ≠ gb231)); have n16_ := zaa.mk ((by rw [hg]; exact Nat.ne_of_gt (zal (g := gb217) (o := .cells #[.int .i64 t210, .int .i64 t211] 24 (0, 0)) (by (with_reducible repeat (first | refine zad ?_ _ | refine zab ?_ | refine zac ?_ _)); exact BK217.o)) : gb231 ≠ gb217)); have n17_ := zaa.mk ((by rw [hg]; exact Nat.ne_of_lt (zal (g := gb218) (o := .cells #[.int .i64 t212, .int .i64 t213] 24 (0, 0)) (by (with_reducible repeat (first | refine zad ?_ _ | refine zab ?_ | refine zac ?_ _)); exact BK218.o)) : gb218 ≠ gb231)); have n18_ := zaa.mk ((by rw [hg]; exact Nat.ne_of_gt (zal (g := gb218) (o := .cells #[.int .i64 t212, .int .i64 t213] 24 (0, 0)) (by (with_reducible repeat (first | refine zad ?_ _ | refine zab ?_ | refine zac ?_ _)); exact BK218.o)) : gb231 ≠ gb218)); have n19_ := zaa.mk ((by rw [hg]; exact Nat.ne_of_lt (zal (g := gb219) (o := .cells #[.int .i64 t214, .int .i64 t215] 24 (0, 0)) (by (with_reducible repeat (first | refine zad ?_ _ | refine zab ?_ | refine zac ?_ _)); exact BK219.o)) : gb219 ≠ gb231)); have n20_ := zaa.mk ((by rw [hg]; exact Nat.ne_of_gt (zal (g := gb219) (o := .cells #[.int .i64 t214, .int .i64 t215] 24 (0, 0)) (by (with_reducible repeat (first | refine zad ?_ _ | refine zab ?_ | refine zac ?_ _)); exact BK219.o)) : gb231 ≠ gb219)); have n21_ := zaa.mk ((by rw [hg]; exact Nat.ne_of_lt (zal (g := gb223) (o := .cells #[.int .i64 t220, .int .i64 t221] 24 (0, 0)) (by (with_reducible repeat (first | refine zad ?_ _ | refine zab ?_ | refine zac ?_ _)); exact BK223.o)) : gb223 ≠ gb231)); have n22_ := zaa.mk ((by rw [hg]; exact Nat.ne_of_gt (zal (g := gb223) (o := .cells #[.int .i64 t220, .int .i64 t221] 24 (0, 0)) (by (with_reducible repeat (first | refine zad ?_ _ | refine zab ?_ | refine zac ?_ _)); exact BK223.o)) : gb231 ≠ gb223)); have n23_ := zaa.mk ((by rw [hg]; exact Nat.ne_of_lt (zal (g := gb227) (o := .cells #[.int .i64 t224, .int .i64 t225] 24 (0, 0)) (by (with_reducible repeat (first | refine zad ?_ _ | refine zab ?_ | refine zac ?_ _)); exact BK227.o)) : gb227 ≠ gb231)); have n24_ := zaa.mk ((by rw [hg]; exact Nat.ne_of_gt (zal (g := gb227) (o := .cells #[.int .i64 t224, .int .i64 t225] 24 (0, 0)) (by (with_reducible repeat (first | refine zad ?_ _ | refine zab ?_ | refine zac ?_ _)); exact BK227.o)) : gb231 ≠ gb227)); clear BK208; clear BK216; clear BK217; clear BK218; clear BK219; clear BK223; clear BK227; clear HB; have BK208 := n0_; have BK216 := n1_; have BK217 := n2_; have BK218 := n3_; have BK219 := n4_; have BK223 := n5_; have BK227 := n6_; have HB := n7_; have BK231 := n8_; have GW231 := n9_; have GE231 := n10_; have NB208_231 := n11_; have NB231_208 := n12_; have NB216_231 := n13_; have NB231_216 := n14_; have NB217_231 := n15_; have NB231_217 := n16_; have NB218_231 := n17_; have NB231_218 := n18_; have NB219_231 := n19_; have NB231_219 := n20_; have NB223_231 := n21_; have NB231_223 := n22_; have NB227_231 := n23_; have NB231_227 := n24_; clear n0_ n1_ n2_ n3_ n4_ n5_ n6_ n7_ n8_ n9_ n10_ n11_ n12_ n13_ n14_ n15_ n16_ n17_ n18_ n19_ n20_ n21_ n22_ n23_ n24_; clear hb hbox hg; have hnb68 := NB231_208.o; have hnc68 := NB208_231.o; have hnb69 := NB231_216.o; have hnc69 := NB216_231.o; have hnb70 := NB231_217.o; have hnc70 := NB217_231.o; have hnb71 := NB231_218.o; have hnc71 := NB218_231.o; have hnb72 := NB231_219.o; have hnc72 := NB219_231.o; have hnb73 := NB231_223.o; have hnc73 := NB223_231.o; have hnb74 := NB231_227.o; have hnc74 := NB227_231.o; obtain ⟨hcz75_0, hcz75_1⟩ := cz2 BK231.o; obtain ⟨hfz75_0, hfz75_1⟩ := fz2 BK231.o; obtain ⟨hcz76_0, hcz76_1⟩ := cz2 BK223.o; obtain ⟨hfz76_0, hfz76_1⟩ := fz2 BK223.o; obtain ⟨hcz77_0, hcz77_1⟩ := cz2 BK219.o; obtain ⟨hfz77_0, hfz77_1⟩ := fz2 BK219.o) | ((with_reducible refine zas (f := 21) rfl ?_); refine zat (some 68) rfl rfl Tryd.func21 (by kernel_rfl) rfl #[.int .i64 x7_1, .agg #[.int .i64 t220, .int .i64 t221], .int .i64 t222, .agg #[.int .i64 t214, .int .i64 t215], .int .i64 0] rfl (by (try simp only [List.map_toArray, List.map_cons, List.map_nil]); first | done | rfl | (simp only [List.length_drop, List.length_take]; rfl)) ?_; (with_reducible refine (vinculumlaw02_op.calls k1 x7_1 t220 t221 t222 t214 t215 0 t232 t233 t234 _ A28.o).mono ?_); rintro e w78 ⟨rfl, hb⟩; refine ⟨_, rfl, ?_⟩; have n0_ := zaa.mk (zaj (g := gb208) (o := .cells #[.int .i16 a0_0, .int .i16 a0_1, .int .i16 a0_2, .int .i16 a0_3, .int .i16 a0_4, .int .i16 a0_5] 40 (0, 0)) (by (with_reducible repeat (first | refine zad ?_ _ | refine zab ?_ | refine zac ?_ _)); refine zam ?_ NB208_231.o _; (with_reducible repeat (first | refine zad ?_ _ | refine zab ?_ | refine zac ?_ _)); refine zam ?_ NB208_231.o _; (with_reducible repeat (first | refine zad ?_ _ | refine zab ?_ | refine zac ?_ _)); exact BK208.o) hb); have n1_ := zaa.mk (zaj (g := gb216) (o := .cells #[.int .i64 t210, .int .i64 t211, .int .i64 t212, .int .i64 t213, .int .i64 t214, .int .i64 t215] 41 (0, 0)) (by (with_reducible repeat (first | refine zad ?_ _ | refine zab ?_ | refine zac ?_ _)); refine zam ?_ NB216_231.o _; (with_reducible repeat (first | refine zad ?_ _ | refine zab ?_ | refine zac ?_ _)); refine zam ?_ NB216_231.o _; (with_reducible repeat (first | refine zad ?_ _ | refine zab ?_ | refine zac ?_ _)); exact BK216.o) hb); have n2_ := zaa.mk (zaj (g := gb217) (o := .cells #[.int .i64 t210, .int .i64 t211] 24 (0, 0)) (by (with_reducible repeat (first | refine zad ?_ _ | refine zab ?_ | refine zac ?_ _)); refine zam ?_ NB217_231.o _; (with_reducible repeat (first | refine zad ?_ _ | refine zab ?_ | refine zac ?_ _)); refine zam ?_ NB217_231.o _; (with_reducible repeat (first | refine zad ?_ _ | refine zab ?_ | refine zac ?_ _)); exact BK217.o) hb); have n3_ := zaa.mk (zaj (g := gb218) (o := .cells #[.int .i64 t212, .int .i64 t213] 24 (0, 0)) (by (with_reducible repeat (first | refine zad ?_ _ | refine zab ?_ | refine zac ?_ _)); refine zam ?_ NB218_231.o _; (with_reducible repeat (first | refine zad ?_ _ | refine zab ?_ | refine zac ?_ _)); refine zam ?_ NB218_231.o _; (with_reducible repeat (first | refine zad ?_ _ | refine zab ?_ | refine zac ?_ _)); exact BK218.o) hb); have n4_ := zaa.mk (zaj (g := gb219) (o := .cells #[.int .i64 t214, .int .i64 t215] 24 (0, 0)) (by (with_reducible repeat (first | refine zad ?_ _ | refine zab ?_ | refine zac ?_ _)); refine zam ?_ NB219_231.o _; (with_reducible repeat (first | refine zad ?_ _ | refine zab ?_ | refine zac ?_ _)); refine zam ?_ NB219_231.o _; (with_reducible repeat (first | refine zad ?_ _ | refine zab ?_ | refine zac ?_ _)); exact BK219.o) hb); have n5_ := zaa.mk (zaj (g := gb223) (o := .cells #[.int .i64 t220, .int .i64 t221] 24 (0, 0)) (by (with_reducible repeat (first | refine zad ?_ _ | refine zab ?_ | refine zac ?_ _)); refine zam ?_ NB223_231.o _; (with_reducible repeat (first | refine zad ?_ _ | refine zab ?_ | refine zac ?_ _)); refine zam ?_ NB223_231.o _; (with_reducible repeat (first | refine zad ?_ _ | refine zab ?_ | refine zac ?_ _)); exact BK223.o) hb); have n6_ := zaa.mk (zaj (g := gb227) (o := .cells #[.int .i64 t224, .int .i64 t225] 24 (0, 0)) (by (with_reducible repeat (first | refine zad ?_ _ | refine zab ?_ | refine zac ?_ _)); refine zam ?_ NB227_231.o _; (with_reducible repeat (first | refine zad ?_ _ | refine zab ?_ | refine zac ?_ _)); refine zam ?_ NB227_231.o _; (with_reducible repeat (first | refine zad ?_ _ | refine zab ?_ | refine zac ?_ _)); exact BK227.o) hb); have n7_ := zaa.mk (zaj (g := gb231) (o := .cells #[.int .i64 t228, .int .i64 t229] 24 (0, 0)) (by (with_reducible repeat (first | refine zad ?_ _ | refine zab ?_ | refine zac ?_ _)); refine zap (cs := #[.int .i64 t228, .int .i64 0]) ?_ 1 _ rfl; (with_reducible repeat (first | refine zad ?_ _ | refine zab ?_ | refine zac ?_ _)); refine zap (cs := #[.int .i64 0, .int .i64 0]) ?_ 0 _ rfl; (with_reducible repeat (first | refine zad ?_ _ | refine zab ?_ | refine zac ?_ _)); exact BK231.o) hb); have n8_ := zaa.mk (zao (by repeat (first | (with_reducible first | exact HB.o | apply zaf | apply zah | apply zag | refine zae ?_ GE208.o | refine zae ?_ GE216.o | refine zae ?_ GE217.o | refine zae ?_ GE218.o | refine zae ?_ GE219.o | refine zae ?_ GE223.o | refine zae ?_ GE227.o | refine zae ?_ GE231.o) | exact HB.o)) hb); clear BK208; clear BK216; clear BK217; clear BK218; clear BK219; clear BK223; clear BK227; clear BK231; clear HB; have BK208 := n0_; have BK216 := n1_; have BK217 := n2_; have BK218 := n3_; have BK219 := n4_; have BK223 := n5_; have BK227 := n6_; have BK231 := n7_; have HB := n8_; clear n0_ n1_ n2_ n3_ n4_ n5_ n6_ n7_ n8_; (try clear hb); (try clear hb2); (try clear hk); (try clear hi)) | ((with_reducible refine zaq (N := 14) rfl ?_); refine zar ?hg (N := 14) ?hd (cs := #[.int .i64 0, .int .i64 0]) (t := 24) ?hr ?_; (case hd => rfl); (case hg => rfl); (case hr => first | (go_simp; done) | (go_simp; rfl)); intro gb235 hg w79 hbox hb; have n0_ := zaa.mk (zaj (by (with_reducible repeat (first | refine zad ?_ _ | refine zab ?_ | refine zac ?_ _)); exact BK208.o) hb); have n1_ := zaa.mk (zaj (by (with_reducible repeat (first | refine zad ?_ _ | refine zab ?_ | refine zac ?_ _)); exact BK216.o) hb); have n2_ := zaa.mk (zaj (by (with_reducible repeat (first | refine zad ?_ _ | refine zab ?_ | refine zac ?_ _)); exact BK217.o) hb); have n3_ := zaa.mk (zaj (by (with_reducible repeat (first | refine zad ?_ _ | refine zab ?_ | refine zac ?_ _)); exact BK218.o) hb); have n4_ := zaa.mk (zaj (by (with_reducible repeat (first | refine zad ?_ _ | refine zab ?_ | refine zac ?_ _)); exact BK219.o) hb); have n5_ := zaa.mk (zaj (by (with_reducible repeat (first | refine zad ?_ _ | refine zab ?_ | refine zac ?_ _)); exact BK223.o) hb); have n6_ := zaa.mk (zaj (by (with_reducible repeat (first | refine zad ?_ _ | refine zab ?_ | refine zac ?_ _)); exact BK227.o) hb); have n7_ := zaa.mk (zaj (by (with_reducible repeat (first | refine zad ?_ _ | refine zab ?_ | refine zac ?_ _)); exact BK231.o) hb); have n8_ := zaa.mk (zao (by repeat (first | (with_reducible first | exact HB.o | apply zaf | apply zah | apply zag | refine zae ?_ GE208.o | refine zae ?_ GE216.o | refine zae ?_ GE217.o | refine zae ?_ GE218.o | refine zae ?_ GE219.o | refine zae ?_ GE223.o | refine zae ?_ GE227.o | refine zae ?_ GE231.o) | exact HB.o)) hb); have n9_ := zaa.mk (hbox); have n10_ := zaa.mk ((by rw [hg]; exact (zan (by repeat (first | (with_reducible first | exact HB.o | apply zaf | apply zah | apply zag | refine zae ?_ GE208.o | refine zae ?_ GE216.o | refine zae ?_ GE217.o | refine zae ?_ GE218.o | refine zae ?_ GE219.o | refine zae ?_ GE223.o | refine zae ?_ GE227.o | refine zae ?_ GE231.o) | exact HB.o))) : w.heap.size ≤ gb235)); have n11_ := zaa.mk ((by rw [hg]; exact (zan (by repeat (first | (with_reducible first | exact HB.o | apply zaf | apply zah | apply zag | refine zae ?_ GE208.o | refine zae ?_ GE216.o | refine zae ?_ GE217.o | refine zae ?_ GE218.o | refine zae ?_ GE219.o | refine zae ?_ GE223.o | refine zae ?_ GE227.o | refine zae ?_ GE231.o) | exact HB.o))) : w.heap.size ≤ gb235)); have n12_ := zaa.mk ((by rw [hg]; exact Nat.ne_of_lt (zal (g := gb208) (o := .cells #[.int .i16 a0_0, .int .i16 a0_1, .int .i16 a0_2, .int .i16 a0_3, .int .i16 a0_4, .int .i16 a0_5] 40 (0, 0)) (by (with_reducible repeat (first | refine zad ?_ _ | refine zab ?_ | refine zac ?_ _)); exact BK208.o)) : gb208 ≠ gb235)); have n13_ := zaa.mk ((by rw [hg]; exact Nat.ne_of_gt (zal (g := gb208) (o := .cells #[.int .i16 a0_0, .int .i16 a0_1, .int .i16 a0_2, .int .i16 a0_3, .int .i16 a0_4, .int .i16 a0_5] 40 (0, 0)) (by (with_reducible repeat (first | refine zad ?_ _ | refine zab ?_ | refine zac ?_ _)); exact BK208.o)) : gb235 ≠ gb208)); have n14_ := zaa.mk ((by rw [hg]; exact Nat.ne_of_lt (zal (g := gb216) (o := .cells #[.int .i64 t210, .int .i64 t211, .int .i64 t212, .int .i64 t213, .int .i64 t214, .int .i64 t215] 41 (0, 0)) (by (with_reducible repeat (first | refine zad ?_ _ | refine zab ?_ | refine zac ?_ _)); exact BK216.o)) : gb216 ≠ gb235)); have n15_ := zaa.mk ((by rw [hg]; exact Nat.ne_of_gt (zal (g := gb216) (o := .cells #[.int .i64 t210, .int .i64 t211, .int .i64 t212, .int .i64 t213, .int .i64 t214, .int .i64 t215] 41 (0, 0)) (by (with_reducible repeat (first | refine zad ?_ _ | refine zab ?_ | refine zac ?_ _)); exact BK216.o)) : gb235 ≠ gb216)); have n16_ := zaa.mk ((by rw [hg]; exact Nat.ne_of_lt (zal (g := gb217) (o := .cells #[.int .i64 t210, .int .i64 t211] 24 (0, 0)) (by (with_reducible repeat (first | refine zad ?_ _ | refine zab ?_ | refine zac ?_ _)); exact BK217.o)) : gb217 ≠ gb235)); have n17_ := zaa.mk ((by rw [hg]; exact Nat.ne_of_gt (zal (g := gb217) (o := .cells #[.int .i64 t210, .int .i64 t211] 24 (0, 0)) (by (with_reducible repeat (first | refine zad ?_ _ | refine zab ?_ | refine zac ?_ _)); exact BK217.o)) : gb235 ≠ gb217)); have n18_ := zaa.mk ((by rw [hg]; exact Nat.ne_of_lt (zal (g := gb218) (o := .cells #[.int .i64 t212, .int .i64 t213] 24 (0, 0)) (by (with_reducible repeat (first | refine zad ?_ _ | refine zab ?_ | refine zac ?_ _)); exact BK218.o)) : gb218 ≠ gb235)); have n19_ := zaa.mk ((by rw [hg]; exact Nat.ne_of_gt (zal (g := gb218) (o := .cells #[.int .i64 t212, .int .i64 t213] 24 (0, 0)) (by (with_reducible repeat (first | refine zad ?_ _ | refine zab ?_ | refine zac ?_ _)); exact BK218.o)) : gb235 ≠ gb218)); have n20_ := zaa.mk ((by rw [hg]; exact Nat.ne_of_lt (zal (g := gb219) (o := .cells #[.int .i64 t214, .int .i64 t215] 24 (0, 0)) (by (with_reducible repeat (first | refine zad ?_ _ | refine zab ?_ | refine zac ?_ _)); exact BK219.o)) : gb219 ≠ gb235)); have n21_ := zaa.mk ((by rw [hg]; exact Nat.ne_of_gt (zal (g := gb219) (o := .cells #[.int .i64 t214, .int .i64 t215] 24 (0, 0)) (by (with_reducible repeat (first | refine zad ?_ _ | refine zab ?_ | refine zac ?_ _)); exact BK219.o)) : gb235 ≠ gb219)); have n22_ := zaa.mk ((by rw [hg]; exact Nat.ne_of_lt (zal (g := gb223) (o := .cells #[.int .i64 t220, .int .i64 t221] 24 (0, 0)) (by (with_reducible repeat (first | refine zad ?_ _ | refine zab ?_ | refine zac ?_ _)); exact BK223.o)) : gb223 ≠ gb235)); have n23_ := zaa.mk ((by rw [hg]; exact Nat.ne_of_gt (zal (g := gb223) (o := .cells #[.int .i64 t220, .int .i64 t221] 24 (0, 0)) (by (with_reducible repeat (first | refine zad ?_ _ | refine zab ?_ | refine zac ?_ _)); exact BK223.o)) : gb235 ≠ gb223)); have n24_ := zaa.mk ((by rw [hg]; exact Nat.ne_of_lt (zal (g := gb227) (o := .cells #[.int .i64 t224, .int .i64 t225] 24 (0, 0)) (by (with_reducible repeat (first | refine zad ?_ _ | refine zab ?_ | refine zac ?_ _)); exact BK227.o)) : gb227 ≠ gb235)); have n25_ := zaa.mk ((by rw [hg]; exact Nat.ne_of_gt (zal (g := gb227) (o := .cells #[.int .i64 t224, .int .i64 t225] 24 (0, 0)) (by (with_reducible repeat (first | refine zad ?_ _ | refine zab ?_ | refine zac ?_ _)); exact BK227.o)) : gb235 ≠ gb227)); have n26_ := zaa.mk ((by rw [hg]; exact Nat.ne_of_lt (zal (g := gb231) (o := .cells #[.int .i64 t228, .int .i64 t229] 24 (0, 0)) (by (with_reducible repeat (first | refine zad ?_ _ | refine zab ?_ | refine zac ?_ _)); exact BK231.o)) : gb231 ≠ gb235)); have n27_ := zaa.mk ((by rw [hg]; exact Nat.ne_of_gt (zal (g := gb231) (o := .cells #[.int .i64 t228, .int .i64 t229] 24 (0, 0)) (by (with_reducible repeat (first | refine zad ?_ _ | refine zab ?_ | refine zac ?_ _)); exact BK231.o)) : gb235 ≠ gb231)); clear BK208; clear BK216; clear BK217; clear BK218; clear BK219; clear BK223; clear BK227; clear BK231; clear HB; have BK208 := n0_; have BK216 := n1_; have BK217 := n2_; have BK218 := n3_; have BK219 := n4_; have BK223 := n5_; have BK227 := n6_; have BK231 := n7_; have HB := n8_; have BK235 := n9_; have GW235 := n10_; have GE235 := n11_; have NB208_235 := n12_; have NB235_208 := n13_; have NB216_235 := n14_; have NB235_216 := n15_; have NB217_235 := n16_; have NB235_217 := n17_; have NB218_235 := n18_; have NB235_218 := n19_; have NB219_235 := n20_; have NB235_219 := n21_; have NB223_235 := n22_; have NB235_223 := n23_; have NB227_235 := n24_; have NB235_227 := n25_; have NB231_235 := n26_; have NB235_231 := n27_; clear n0_ n1_ n2_ n3_ n4_ n5_ n6_ n7_ n8_ n9_ n10_ n11_ n12_ n13_ n14_ n15_ n16_ n17_ n18_ n19_ n20_ n21_ n22_ n23_ n24_ n25_ n26_ n27_; clear hb hbox hg; have hnb80 := NB235_208.o; have hnc80 := NB208_235.o; have hnb81 := NB235_216.o; have hnc81 := NB216_235.o; have hnb82 := NB235_217.o; have hnc82 := NB217_235.o; have hnb83 := NB235_218.o; have hnc83 := NB218_235.o; have hnb84 := NB235_219.o; have hnc84 := NB219_235.o; have hnb85 := NB235_223.o; have hnc85 := NB223_235.o; have hnb86 := NB235_227.o; have hnc86 := NB227_235.o; have hnb87 := NB235_231.o; have hnc87 := NB231_235.o; obtain ⟨hcz88_0, hcz88_1⟩ := cz2 BK235.o; obtain ⟨hfz88_0, hfz88_1⟩ := fz2 BK235.o; obtain ⟨hcz89_0, hcz89_1⟩ := cz2 BK217.o; obtain ⟨hfz89_0, hfz89_1⟩ := fz2 BK217.o; obtain ⟨hcz90_0, hcz90_1⟩ := cz2 BK231.o; obtain ⟨hfz90_0, hfz90_1⟩ := fz2 BK231.o) | ((with_reducible refine zas (f := 21) rfl ?_); refine zat (some 76) rfl rfl Tryd.func21 (by kernel_rfl) rfl #[.int .i64 x7_1, .agg #[.int .i64 t210, .int .i64 t211], .int .i64 0, .agg #[.int .i64 t228, .int .i64 t229], .int .i64 t230] rfl (by (try simp only [List.map_toArray, List.map_cons, List.map_nil]); first | done | rfl | (simp only [List.length_drop, List.length_take]; rfl)) ?_; (with_reducible refine (vinculumlaw02_op.calls k1 x7_1 t210 t211 0 t228 t229 t230 t236 t237 t238 _ A29.o).mono ?_); rintro e w91 ⟨rfl, hb⟩; refine ⟨_, rfl, ?_⟩; have n0_ := zaa.mk (zaj (g := gb208) (o := .cells #[.int .i16 a0_0, .int .i16 a0_1, .int .i16 a0_2, .int .i16 a0_3, .int .i16 a0_4, .int .i16 a0_5] 40 (0, 0)) (by (with_reducible repeat (first | refine zad ?_ _ | refine zab ?_ | refine zac ?_ _)); refine zam ?_ NB208_235.o _; (with_reducible repeat (first | refine zad ?_ _ | refine zab ?_ | refine zac ?_ _)); refine zam ?_ NB208_235.o _; (with_reducible repeat (first | refine zad ?_ _ | refine zab ?_ | refine zac ?_ _)); exact BK208.o) hb); have n1_ := zaa.mk (zaj (g := gb216) (o := .cells #[.int .i64 t210, .int .i64 t211, .int .i64 t212, .int .i64 t213, .int .i64 t214, .int .i64 t215] 41 (0, 0)) (by (with_reducible repeat (first | refine zad ?_ _ | refine zab ?_ | refine zac ?_ _)); refine zam ?_ NB216_235.o _; (with_reducible repeat (first | refine zad ?_ _ | refine zab ?_ | refine zac ?_ _)); refine zam ?_ NB216_235.o _; (with_reducible repeat (first | refine zad ?_ _ | refine zab ?_ | refine zac ?_ _)); exact BK216.o) hb); have n2_ := zaa.mk (zaj (g := gb217) (o := .cells #[.int .i64 t210, .int .i64 t211] 24 (0, 0)) (by (with_reducible repeat (first | refine zad ?_ _ | refine zab ?_ | refine zac ?_ _)); refine zam ?_ NB217_235.o _; (with_reducible repeat (first | refine zad ?_ _ | refine zab ?_ | refine zac ?_ _)); refine zam ?_ NB217_235.o _; (with_reducible repeat (first | refine zad ?_ _ | refine zab ?_ | refine zac ?_ _)); exact BK217.o) hb); have n3_ := zaa.mk (zaj (g := gb218) (o := .cells #[.int .i64 t212, .int .i64 t213] 24 (0, 0)) (by (with_reducible repeat (first | refine zad ?_ _ | refine zab ?_ | refine zac ?_ _)); refine zam ?_ NB218_235.o _; (with_reducible repeat (first | refine zad ?_ _ | refine zab ?_ | refine zac ?_ _)); refine zam ?_ NB218_235.o _; (with_reducible repeat (first | refine zad ?_ _ | refine zab ?_ | refine zac ?_ _)); exact BK218.o) hb); have n4_ := zaa.mk (zaj (g := gb219) (o := .cells #[.int .i64 t214, .int .i64 t215] 24 (0, 0)) (by (with_reducible repeat (first | refine zad ?_ _ | refine zab ?_ | refine zac ?_ _)); refine zam ?_ NB219_235.o _; (with_reducible repeat (first | refine zad ?_ _ | refine zab ?_ | refine zac ?_ _)); refine zam ?_ NB219_235.o _; (with_reducible repeat (first | refine zad ?_ _ | refine zab ?_ | refine zac ?_ _)); exact BK219.o) hb); have n5_ := zaa.mk (zaj (g := gb223) (o := .cells #[.int .i64 t220, .int .i64 t221] 24 (0, 0)) (by (with_reducible repeat (first | refine zad ?_ _ | refine zab ?_ | refine zac ?_ _)); refine zam ?_ NB223_235.o _; (with_reducible repeat (first | refine zad ?_ _ | refine zab ?_ | refine zac ?_ _)); refine zam ?_ NB223_235.o _; (with_reducible repeat (first | refine zad ?_ _ | refine zab ?_ | refine zac ?_ _)); exact BK223.o) hb); have n6_ := zaa.mk (zaj (g := gb227) (o := .cells #[.int .i64 t224, .int .i64 t225] 24 (0, 0)) (by (with_reducible repeat (first | refine zad ?_ _ | refine zab ?_ | refine zac ?_ _)); refine zam ?_ NB227_235.o _; (with_reducible repeat (first | refine zad ?_ _ | refine zab ?_ | refine zac ?_ _)); refine zam ?_ NB227_235.o _; (with_reducible repeat (first | refine zad ?_ _ | refine zab ?_ | refine zac ?_ _)); exact BK227.o) hb); have n7_ := zaa.mk (zaj (g := gb231) (o := .cells #[.int .i64 t228, .int .i64 t229] 24 (0, 0)) (by (with_reducible repeat (first | refine zad ?_ _ | refine zab ?_ | refine zac ?_ _)); refine zam ?_ NB231_235.o _; (with_reducible repeat (first | refine zad ?_ _ | refine zab ?_ | refine zac ?_ _)); refine zam ?_ NB231_235.o _; (with_reducible repeat (first | refine zad ?_ _ | refine zab ?_ | refine zac ?_ _)); exact BK231.o) hb); have n8_ := zaa.mk (zaj (g := gb235) (o := .cells #[.int .i64 t232, .int .i64 t233] 24 (0, 0)) (by (with_reducible repeat (first | refine zad ?_ _ | refine zab ?_ | refine zac ?_ _)); refine zap (cs := #[.int .i64 t232, .int .i64 0]) ?_ 1 _ rfl; (with_reducible repeat (first | refine zad ?_ _ | refine zab ?_ | refine zac ?_ _)); refine zap (cs := #[.int .i64 0, .int .i64 0]) ?_ 0 _ rfl; (with_reducible repeat (first | refine zad ?_ _ | refine zab ?_ | refine zac ?_ _)); exact BK235.o) hb); have n9_ := zaa.mk (zao (by repeat (first | (with_reducible first | exact HB.o | apply zaf | apply zah | apply zag | refine zae ?_ GE208.o | refine zae ?_ GE216.o | refine zae ?_ GE217.o | refine zae ?_ GE218.o | refine zae ?_ GE219.o | refine zae ?_ GE223.o | refine zae ?_ GE227.o | refine zae ?_ GE231.o | refine zae ?_ GE235.o) | exact HB.o)) hb); clear BK208; clear BK216; clear BK217; clear BK218; clear BK219; clear BK223; clear BK227; clear BK231; clear BK235; clear HB; have BK208 := n0_; have BK216 := n1_; have BK217 := n2_; have BK218 := n3_; have BK219 := n4_; have BK223 := n5_; have BK227 := n6_; have BK231 := n7_; have BK235 := n8_; have HB := n9_; clear n0_ n1_ n2_ n3_ n4_ n5_ n6_ n7_ n8_ n9_; (try clear hb); (try clear hb2); (try clear hk); (try clear hi)) | ((with_reducible refine zaq (N := 16) rfl ?_); refine zar ?hg (N := 16) ?hd (cs := #[.int .i64 0, .int .i64 0]) (t := 24) ?hr ?_; (case hd => rfl); (case hg => rfl); (case hr => first | (go_simp; done) | (go_simp; rfl)); intro gb239 hg w92 hbox hb; have n0_ := zaa.mk (zaj (by (with_reducible repeat (first | refine zad ?_ _ | refine zab ?_ | refine zac ?_ _)); exact BK208.o) hb); have n1_ := zaa.mk (zaj (by (with_reducible repeat (first | refine zad ?_ _ | refine zab ?_ | refine zac ?_ _)); exact BK216.o) hb); have n2_ := zaa.mk (zaj (by (with_reducible repeat (first | refine zad ?_ _ | refine zab ?_ | refine zac ?_ _)); exact BK217.o) hb); have n3_ := zaa.mk (zaj (by (with_reducible repeat (first | refine zad ?_ _ | refine zab ?_ | refine zac ?_ _)); exact BK218.o) hb); have n4_ := zaa.mk (zaj (by (with_reducible repeat (first | refine zad ?_ _ | refine zab ?_ | refine zac ?_ _)); exact BK219.o) hb); have n5_ := zaa.mk (zaj (by (with_reducible repeat (first | refine zad ?_ _ | refine zab ?_ | refine zac ?_ _)); exact BK223.o) hb); have n6_ := zaa.mk (zaj (by (with_reducible repeat (first | refine zad ?_ _ | refine zab ?_ | refine zac ?_ _)); exact BK227.o) hb); have n7_ := zaa.mk (zaj (by (with_reducible repeat (first | refine zad ?_ _ | refine zab ?_ | refine zac ?_ _)); exact BK231.o) hb); have n8_ := zaa.mk (zaj (by (with_reducible repeat (first | refine zad ?_ _ | refine zab ?_ | refine zac ?_ _)); exact BK235.o) hb); have n9_ := zaa.mk (zao (by repeat (first | (with_reducible first | exact HB.o | apply zaf | apply zah | apply zag | refine zae ?_ GE208.o | refine zae ?_ GE216.o | refine zae ?_ GE217.o | refine zae ?_ GE218.o | refine zae ?_ GE219.o | refine zae ?_ GE223.o | refine zae ?_ GE227.o | refine zae ?_ GE231.o | refine zae ?_ GE235.o) | exact HB.o)) hb); have n10_ := zaa.mk (hbox); have n11_ := zaa.mk ((by rw [hg]; exact (zan (by repeat (first | (with_reducible first | exact HB.o | apply zaf | apply zah | apply zag | refine zae ?_ GE208.o | refine zae ?_ GE216.o | refine zae ?_ GE217.o | refine zae ?_ GE218.o | refine zae ?_ GE219.o | refine zae ?_ GE223.o | refine zae ?_ GE227.o | refine zae ?_ GE231.o | refine zae ?_ GE235.o) | exact HB.o))) : w.heap.size ≤ gb239)); have n12_ := zaa.mk ((by rw [hg]; exact (zan (by repeat (first | (with_reducible first | exact HB.o | apply zaf | apply zah | apply zag | refine zae ?_ GE208.o | refine zae ?_ GE216.o | refine zae ?_ GE217.o | refine zae ?_ GE218.o | refine zae ?_ GE219.o | refine zae ?_ GE223.o | refine zae ?_ GE227.o | refine zae ?_ GE231.o | refine zae ?_ GE235.o) | exact HB.o))) : w.heap.size ≤ gb239)); have n13_ := zaa.mk ((by rw [hg]; exact Nat.ne_of_lt (zal (g := gb208) (o := .cells #[.int .i16 a0_0, .int .i16 a0_1, .int .i16 a0_2, .int .i16 a0_3, .int .i16 a0_4, .int .i16 a0_5] 40 (0, 0)) (by (with_reducible repeat (first | refine zad ?_ _ | refine zab ?_ | refine zac ?_ _)); exact BK208.o)) : gb208 ≠ gb239)); have n14_ := zaa.mk ((by rw [hg]; exact Nat.ne_of_gt (zal (g := gb208) (o := .cells #[.int .i16 a0_0, .int .i16 a0_1, .int .i16 a0_2, .int .i16 a0_3, .int .i16 a0_4, .int .i16 a0_5] 40 (0, 0)) (by (with_reducible repeat (first | refine zad ?_ _ | refine zab ?_ | refine zac ?_ _)); exact BK208.o)) : gb239 ≠ gb208)); have n15_ := zaa.mk ((by rw [hg]; exact Nat.ne_of_lt (zal (g := gb216) (o := .cells #[.int .i64 t210, .int .i64 t211, .int .i64 t212, .int .i64 t213, .int .i64 t214, .int .i64 t215] 41 (0, 0)) (by (with_reducible repeat (first | refine zad ?_ _ | refine zab ?_ | refine zac ?_ _)); exact BK216.o)) : gb216 ≠ gb239)); have n16_ := zaa.mk ((by rw [hg]; exact Nat.ne_of_gt (zal (g := gb216) (o := .cells #[.int .i64 t210, .int .i64 t211, .int .i64 t212, .int .i64 t213, .int .i64 t214, .int .i64 t215] 41 (0, 0)) (by (with_reducible repeat (first | refine zad ?_ _ | refine zab ?_ | refine zac ?_ _)); exact BK216.o)) : gb239 ≠ gb216)); have n17_ := zaa.mk ((by rw [hg]; exact Nat.ne_of_lt (zal (g := gb217) (o := .cells #[.int .i64 t210, .int .i64 t211] 24 (0, 0)) (by (with_reducible repeat (first | refine zad ?_ _ | refine zab ?_ | refine zac ?_ _)); exact BK217.o)) : gb217 ≠ gb239)); have n18_ := zaa.mk ((by rw [hg]; exact Nat.ne_of_gt (zal (g := gb217) (o := .cells #[.int .i64 t210, .int .i64 t211] 24 (0, 0)) (by (with_reducible repeat (first | refine zad ?_ _ | refine zab ?_ | refine zac ?_ _)); exact BK217.o)) : gb239 ≠ gb217)); have n19_ := zaa.mk ((by rw [hg]; exact Nat.ne_of_lt (zal (g := gb218) (o := .cells #[.int .i64 t212, .int .i64 t213] 24 (0, 0)) (by (with_reducible repeat (first | refine zad ?_ _ | refine zab ?_ | refine zac ?_ _)); exact BK218.o)) : gb218 ≠ gb239)); have n20_ := zaa.mk ((by rw [hg]; exact Nat.ne_of_gt (zal (g := gb218) (o := .cells #[.int .i64 t212, .int .i64 t213] 24 (0, 0)) (by (with_reducible repeat (first | refine zad ?_ _ | refine zab ?_ | refine zac ?_ _)); exact BK218.o)) : gb239 ≠ gb218)); have n21_ := zaa.mk ((by rw [hg]; exact Nat.ne_of_lt (zal (g := gb219) (o := .cells #[.int .i64 t214, .int .i64 t215] 24 (0, 0)) (by (with_reducible repeat (first | refine zad ?_ _ | refine zab ?_ | refine zac ?_ _)); exact BK219.o)) : gb219 ≠ gb239)); have n22_ := zaa.mk ((by rw [hg]; exact Nat.ne_of_gt (zal (g := gb219) (o := .cells #[.int .i64 t214, .int .i64 t215] 24 (0, 0)) (by (with_reducible repeat (first | refine zad ?_ _ | refine zab ?_ | refine zac ?_ _)); exact BK219.o)) : gb239 ≠ gb219)); have n23_ := zaa.mk ((by rw [hg]; exact Nat.ne_of_lt (zal (g := gb223) (o := .cells #[.int .i64 t220, .int .i64 t221] 24 (0, 0)) (by (with_reducible repeat (first | refine zad ?_ _ | refine zab ?_ | refine zac ?_ _)); exact BK223.o)) : gb223 ≠ gb239)); have n24_ := zaa.mk ((by rw [hg]; exact Nat.ne_of_gt (zal (g := gb223) (o := .cells #[.int .i64 t220, .int .i64 t221] 24 (0, 0)) (by (with_reducible repeat (first | refine zad ?_ _ | refine zab ?_ | refine zac ?_ _)); exact BK223.o)) : gb239 ≠ gb223)); have n25_ := zaa.mk ((by rw [hg]; exact Nat.ne_of_lt (zal (g := gb227) (o := .cells #[.int .i64 t224, .int .i64 t225] 24 (0, 0)) (by (with_reducible repeat (first | refine zad ?_ _ | refine zab ?_ | refine zac ?_ _)); exact BK227.o)) : gb227 ≠ gb239)); have n26_ := zaa.mk ((by rw [hg]; exact Nat.ne_of_gt (zal (g := gb227) (o := .cells #[.int .i64 t224, .int .i64 t225] 24 (0, 0)) (by (with_reducible repeat (first | refine zad ?_ _ | refine zab ?_ | refine zac ?_ _)); exact BK227.o)) : gb239 ≠ gb227)); have n27_ := zaa.mk ((by rw [hg]; exact Nat.ne_of_lt (zal (g := gb231) (o := .cells #[.int .i64 t228, .int .i64 t229] 24 (0, 0)) (by (with_reducible repeat (first | refine zad ?_ _ | refine zab ?_ | refine zac ?_ _)); exact BK231.o)) : gb231 ≠ gb239)); have n28_ := zaa.mk ((by rw [hg]; exact Nat.ne_of_gt (zal (g := gb231) (o := .cells #[.int .i64 t228, .int .i64 t229] 24 (0, 0)) (by (with_reducible repeat (first | refine zad ?_ _ | refine zab ?_ | refine zac ?_ _)); exact BK231.o)) : gb239 ≠ gb231)); have n29_ := zaa.mk ((by rw [hg]; exact Nat.ne_of_lt (zal (g := gb235) (o := .cells #[.int .i64 t232, .int .i64 t233] 24 (0, 0)) (by (with_reducible repeat (first | refine zad ?_ _ | refine zab ?_ | refine zac ?_ _)); exact BK235.o)) : gb235 ≠ gb239)); have n30_ := zaa.mk ((by rw [hg]; exact Nat.ne_of_gt (zal (g := gb235) (o := .cells #[.int .i64 t232, .int .i64 t233] 24 (0, 0)) (by (with_reducible repeat (first | refine zad ?_ _ | refine zab ?_ | refine zac ?_ _)); exact BK235.o)) : gb239 ≠ gb235)); clear BK208; clear BK216; clear BK217; clear BK218; clear BK219; clear BK223; clear BK227; clear BK231; clear BK235; clear HB; have BK208 := n0_; have BK216 := n1_; have BK217 := n2_; have BK218 := n3_; have BK219 := n4_; have BK223 := n5_; have BK227 := n6_; have BK231 := n7_; have BK235 := n8_; have HB := n9_; have BK239 := n10_; have GW239 := n11_; have GE239 := n12_; have NB208_239 := n13_; have NB239_208 := n14_; have NB216_239 := n15_; have NB239_216 := n16_; have NB217_239 := n17_; have NB239_217 := n18_; have NB218_239 := n19_; have NB239_218 := n20_; have NB219_239 := n21_; have NB239_219 := n22_; have NB223_239 := n23_; have NB239_223 := n24_; have NB227_239 := n25_; have NB239_227 := n26_; have NB231_239 := n27_; have NB239_231 := n28_; have NB235_239 := n29_; have NB239_235 := n30_; clear n0_ n1_ n2_ n3_ n4_ n5_ n6_ n7_ n8_ n9_ n10_ n11_ n12_ n13_ n14_ n15_ n16_ n17_ n18_ n19_ n20_ n21_ n22_ n23_ n24_ n25_ n26_ n27_ n28_ n29_ n30_; clear hb hbox hg; have hnb93 := NB239_208.o; have hnc93 := NB208_239.o; have hnb94 := NB239_216.o; have hnc94 := NB216_239.o; have hnb95 := NB239_217.o; have hnc95 := NB217_239.o; have hnb96 := NB239_218.o; have hnc96 := NB218_239.o; have hnb97 := NB239_219.o; have hnc97 := NB219_239.o; have hnb98 := NB239_223.o; have hnc98 := NB223_239.o; have hnb99 := NB239_227.o; have hnc99 := NB227_239.o; have hnb100 := NB239_231.o; have hnc100 := NB231_239.o; have hnb101 := NB239_235.o; have hnc101 := NB235_239.o; obtain ⟨hcz102_0, hcz102_1⟩ := cz2 BK239.o; obtain ⟨hfz102_0, hfz102_1⟩ := fz2 BK239.o; obtain ⟨hcz103_0, hcz103_1⟩ := cz2 BK223.o; obtain ⟨hfz103_0, hfz103_1⟩ := fz2 BK223.o; obtain ⟨hcz104_0, hcz104_1⟩ := cz2 BK227.o; obtain ⟨hfz104_0, hfz104_1⟩ := fz2 BK227.o; obtain ⟨hcz105_0, hcz105_1⟩ := cz2 BK235.o; obtain ⟨hfz105_0, hfz105_1⟩ := fz2 BK235.o) | (go_at_call 22; (with_reducible refine (vinculumlaw02_agree.calls t232 t233 t234 t236 t237 t238 true _ A32.o).mono ?_); rintro e w106 ⟨rfl, hb⟩; have n0_ := zaa.mk (zaj (g := gb208) (o := .cells #[.int .i16 a0_0, .int .i16 a0_1, .int .i16 a0_2, .int .i16 a0_3, .int .i16 a0_4, .int .i16 a0_5] 40 (0, 0)) (by (with_reducible repeat (first | refine zad ?_ _ | refine zab ?_ | refine zac ?_ _)); refine zam ?_ NB208_239.o _; (with_reducible repeat (first | refine zad ?_ _ | refine zab ?_ | refine zac ?_ _)); refine zam ?_ NB208_239.o _; (with_reducible repeat (first | refine zad ?_ _ | refine zab ?_ | refine zac ?_ _)); exact BK208.o) hb); have n1_ := zaa.mk (zaj (g := gb216) (o := .cells #[.int .i64 t210, .int .i64 t211, .int .i64 t212, .int .i64 t213, .int .i64 t214, .int .i64 t215] 41 (0, 0)) (by (with_reducible repeat (first | refine zad ?_ _ | refine zab ?_ | refine zac ?_ _)); refine zam ?_ NB216_239.o _; (with_reducible repeat (first | refine zad ?_ _ | refine zab ?_ | refine zac ?_ _)); refine zam ?_ NB216_239.o _; (with_reducible repeat (first | refine zad ?_ _ | refine zab ?_ | refine zac ?_ _)); exact BK216.o) hb); have n2_ := zaa.mk (zaj (g := gb217) (o := .cells #[.int .i64 t210, .int .i64 t211] 24 (0, 0)) (by (with_reducible repeat (first | refine zad ?_ _ | refine zab ?_ | refine zac ?_ _)); refine zam ?_ NB217_239.o _; (with_reducible repeat (first | refine zad ?_ _ | refine zab ?_ | refine zac ?_ _)); refine zam ?_ NB217_239.o _; (with_reducible repeat (first | refine zad ?_ _ | refine zab ?_ | refine zac ?_ _)); exact BK217.o) hb); have n3_ := zaa.mk (zaj (g := gb218) (o := .cells #[.int .i64 t212, .int .i64 t213] 24 (0, 0)) (by (with_reducible repeat (first | refine zad ?_ _ | refine zab ?_ | refine zac ?_ _)); refine zam ?_ NB218_239.o _; (with_reducible repeat (first | refine zad ?_ _ | refine zab ?_ | refine zac ?_ _)); refine zam ?_ NB218_239.o _; (with_reducible repeat (first | refine zad ?_ _ | refine zab ?_ | refine zac ?_ _)); exact BK218.o) hb); have n4_ := zaa.mk (zaj (g := gb219) (o := .cells #[.int .i64 t214, .int .i64 t215] 24 (0, 0)) (by (with_reducible repeat (first | refine zad ?_ _ | refine zab ?_ | refine zac ?_ _)); refine zam ?_ NB219_239.o _; (with_reducible repeat (first | refine zad ?_ _ | refine zab ?_ | refine zac ?_ _)); refine zam ?_ NB219_239.o _; (with_reducible repeat (first | refine zad ?_ _ | refine zab ?_ | refine zac ?_ _)); exact BK219.o) hb); have n5_ := zaa.mk (zaj (g := gb223) (o := .cells #[.int .i64 t220, .int .i64 t221] 24 (0, 0)) (by (with_reducible repeat (first | refine zad ?_ _ | refine zab ?_ | refine zac ?_ _)); refine zam ?_ NB223_239.o _; (with_reducible repeat (first | refine zad ?_ _ | refine zab ?_ | refine zac ?_ _)); refine zam ?_ NB223_239.o _; (with_reducible repeat (first | refine zad ?_ _ | refine zab ?_ | refine zac ?_ _)); exact BK223.o) hb); have n6_ := zaa.mk (zaj (g := gb227) (o := .cells #[.int .i64 t224, .int .i64 t225] 24 (0, 0)) (by (with_reducible repeat (first | refine zad ?_ _ | refine zab ?_ | refine zac ?_ _)); refine zam ?_ NB227_239.o _; (with_reducible repeat (first | refine zad ?_ _ | refine zab ?_ | refine zac ?_ _)); refine zam ?_ NB227_239.o _; (with_reducible repeat (first | refine zad ?_ _ | refine zab ?_ | refine zac ?_ _)); exact BK227.o) hb); have n7_ := zaa.mk (zaj (g := gb231) (o := .cells #[.int .i64 t228, .int .i64 t229] 24 (0, 0)) (by (with_reducible repeat (first | refine zad ?_ _ | refine zab ?_ | refine zac ?_ _)); refine zam ?_ NB231_239.o _; (with_reducible repeat (first | refine zad ?_ _ | refine zab ?_ | refine zac ?_ _)); refine zam ?_ NB231_239.o _; (with_reducible repeat (first | refine zad ?_ _ | refine zab ?_ | refine zac ?_ _)); exact BK231.o) hb); have n8_ := zaa.mk (zaj (g := gb235) (o := .cells #[.int .i64 t232, .int .i64 t233] 24 (0, 0)) (by (with_reducible repeat (first | refine zad ?_ _ | refine zab ?_ | refine zac ?_ _)); refine zam ?_ NB235_239.o _; (with_reducible repeat (first | refine zad ?_ _ | refine zab ?_ | refine zac ?_ _)); refine zam ?_ NB235_239.o _; (with_reducible repeat (first | refine zad ?_ _ | refine zab ?_ | refine zac ?_ _)); exact BK235.o) hb); have n9_ := zaa.mk (zaj (g := gb239) (o := .cells #[.int .i64 t236, .int .i64 t237] 24 (0, 0)) (by (with_reducible repeat (first | refine zad ?_ _ | refine zab ?_ | refine zac ?_ _)); refine zap (cs := #[.int .i64 t236, .int .i64 0]) ?_ 1 _ rfl; (with_reducible repeat (first | refine zad ?_ _ | refine zab ?_ | refine zac ?_ _)); refine zap (cs := #[.int .i64 0, .int .i64 0]) ?_ 0 _ rfl; (with_reducible repeat (first | refine zad ?_ _ | refine zab ?_ | refine zac ?_ _)); exact BK239.o) hb); have n10_ := zaa.mk (zao (by repeat (first | (with_reducible first | exact HB.o | apply zaf | apply zah | apply zag | refine zae ?_ GE208.o | refine zae ?_ GE216.o | refine zae ?_ GE217.o | refine zae ?_ GE218.o | refine zae ?_ GE219.o | refine zae ?_ GE223.o | refine zae ?_ GE227.o | refine zae ?_ GE231.o | refine zae ?_ GE235.o | refine zae ?_ GE239.o) | exact HB.o)) hb); clear BK208; clear BK216; clear BK217; clear BK218; clear BK219; clear BK223; clear BK227; clear BK231; clear BK235; clear BK239; clear HB; have BK208 := n0_; have BK216 := n1_; have BK217 := n2_; have BK218 := n3_; have BK219 := n4_; have BK223 := n5_; have BK227 := n6_; have BK231 := n7_; have BK235 := n8_; have BK239 := n9_; have HB := n10_; clear n0_ n1_ n2_ n3_ n4_ n5_ n6_ n7_ n8_ n9_ n10_; (try clear hb); (try clear hb2); (try clear hk); (try clear hi)))
        go_roundg k1
        case measure => have := HK1.o; omega
        case rel => exact ⟨(wrap64 (x7_1 + 2)), (by first | rfl | (simp; done) | (simp [*]; done)), H', ⟨by have := HK1.o; omega⟩, ⟨by (with_reducible repeat (first | refine zad ?_ _ | refine zab ?_ | refine zac ?_ _)); exact BK208.o⟩, ⟨by (with_reducible repeat (first | refine zad ?_ _ | refine zab ?_ | refine zac ?_ _)); exact BK216.o⟩, ⟨by (with_reducible repeat (first | refine zad ?_ _ | refine zab ?_ | refine zac ?_ _)); exact BK217.o⟩, ⟨by (with_reducible repeat (first | refine zad ?_ _ | refine zab ?_ | refine zac ?_ _)); exact BK218.o⟩, ⟨by (with_reducible repeat (first | refine zad ?_ _ | refine zab ?_ | refine zac ?_ _)); exact BK219.o⟩, ⟨by repeat (first | (with_reducible first | exact HB.o | apply zaf | apply zah | apply zag | refine zae ?_ GE208.o | refine zae ?_ GE216.o | refine zae ?_ GE217.o | refine zae ?_ GE218.o | refine zae ?_ GE219.o | refine zae ?_ GE223.o | refine zae ?_ GE227.o | refine zae ?_ GE231.o | refine zae ?_ GE235.o | refine zae ?_ GE239.o) | exact HB.o)⟩⟩
       ·replace c33 := Bool.eq_false_iff.mpr c33
        subst c33
        have H1 : (none) = some r := by rw [if_neg (show ¬ (false = true) by decide)] at H; exact H
        clear H
        have H := H1
        clear H1
        exact absurd H (by simp)
      ·rw [if_neg c31] at H
       exact absurd H (by simp)
    ·rw [if_neg c24] at H
     have c24b0 : decide (x7_1 ≤ 2) = false := decide_eq_false c24
     clear c24
     replace H := Option.bind_eq_some_iff.mp H
     obtain ⟨⟨t241, t242, t243⟩, A1070, H⟩ := H
     replace H : ((vinculumlaw02_op.f k1 2 t210 t211 0 t241 t242 t243).bind fun bt245 => ((rational_Mul.f k1 t210 t211 t212 t213).bind fun bt249 => ((rational_Mul.f k1 t210 t211 t214 t215).bind fun bt253 => ((vinculumlaw02_op.f k1 0 bt249.1 bt249.2.1 bt249.2.2 bt253.1 bt253.2.1 bt253.2.2).bind fun bt257 => ((vinculumlaw02_agree.f bt245.1 bt245.2.1 bt245.2.2 bt257.1 bt257.2.1 bt257.2.2).bind fun t261 => (some t261)))))) = some r := H
     have A107 := zaa.mk A1070
     clear A1070
     replace H := Option.bind_eq_some_iff.mp H
     obtain ⟨⟨t245, t246, t247⟩, A1080, H⟩ := H
     replace H : ((rational_Mul.f k1 t210 t211 t212 t213).bind fun bt249 => ((rational_Mul.f k1 t210 t211 t214 t215).bind fun bt253 => ((vinculumlaw02_op.f k1 0 bt249.1 bt249.2.1 bt249.2.2 bt253.1 bt253.2.1 bt253.2.2).bind fun bt257 => ((vinculumlaw02_agree.f t245 t246 t247 bt257.1 bt257.2.1 bt257.2.2).bind fun t261 => (some t261))))) = some r := H
     have A108 := zaa.mk A1080
     clear A1080
     replace H := Option.bind_eq_some_iff.mp H
     obtain ⟨⟨t249, t250, t251⟩, A1090, H⟩ := H
     replace H : ((rational_Mul.f k1 t210 t211 t214 t215).bind fun bt253 => ((vinculumlaw02_op.f k1 0 t249 t250 t251 bt253.1 bt253.2.1 bt253.2.2).bind fun bt257 => ((vinculumlaw02_agree.f t245 t246 t247 bt257.1 bt257.2.1 bt257.2.2).bind fun t261 => (some t261)))) = some r := H
     have A109 := zaa.mk A1090
     clear A1090
     replace H := Option.bind_eq_some_iff.mp H
     obtain ⟨⟨t253, t254, t255⟩, A1100, H⟩ := H
     replace H : ((vinculumlaw02_op.f k1 0 t249 t250 t251 t253 t254 t255).bind fun bt257 => ((vinculumlaw02_agree.f t245 t246 t247 bt257.1 bt257.2.1 bt257.2.2).bind fun t261 => (some t261))) = some r := H
     have A110 := zaa.mk A1100
     clear A1100
     replace H := Option.bind_eq_some_iff.mp H
     obtain ⟨⟨t257, t258, t259⟩, A1110, H⟩ := H
     replace H : ((vinculumlaw02_agree.f t245 t246 t247 t257 t258 t259).bind fun t261 => (some t261)) = some r := H
     have A111 := zaa.mk A1110
     clear A1110
     replace H := Option.bind_eq_some_iff.mp H
     obtain ⟨t261, A1120, H⟩ := H
     replace H : (some t261) = some r := H
     have A112 := zaa.mk A1120
     clear A1120
     obtain rfl := Option.some.inj H
     have hnb113 := NB218_208.o
     have hnc113 := NB208_218.o
     have hnb114 := NB218_216.o
     have hnc114 := NB216_218.o
     have hnb115 := NB218_217.o
     have hnc115 := NB217_218.o
     have hnb116 := NB218_219.o
     have hnc116 := NB219_218.o
     have hcz117_0 : wr.cell? ⟨gb218, 0, none⟩ = some (.int .i64 t212) := (zai BK218.o 0).trans rfl
     have hcz117_1 : wr.cell? ⟨gb218, 1, none⟩ = some (.int .i64 t213) := (zai BK218.o 1).trans rfl
     have hfz117_0 := zak BK218.o 0
     have hfz117_1 := zak BK218.o 1
     have hnb118 := NB219_208.o
     have hnc118 := NB208_219.o
     have hnb119 := NB219_216.o
     have hnc119 := NB216_219.o
     have hnb120 := NB219_217.o
     have hnc120 := NB217_219.o
     have hcz121_0 : wr.cell? ⟨gb219, 0, none⟩ = some (.int .i64 t214) := (zai BK219.o 0).trans rfl
     have hcz121_1 : wr.cell? ⟨gb219, 1, none⟩ = some (.int .i64 t215) := (zai BK219.o 1).trans rfl
     have hfz121_0 := zak BK219.o 0
     have hfz121_1 := zak BK219.o 1
     go_wp2_with (first | ((with_reducible refine zas (f := 23) rfl ?_); refine zat (some 98) rfl rfl Tryd.func23 (by kernel_rfl) rfl #[.agg #[.int .i64 t212, .int .i64 t213], .agg #[.int .i64 t214, .int .i64 t215]] rfl (by (try simp only [List.map_toArray, List.map_cons, List.map_nil]); first | done | rfl | (simp only [List.length_drop, List.length_take]; rfl)) ?_; (with_reducible refine (rational_Add.calls k1 t212 t213 t214 t215 t241 t242 t243 _ A107.o).mono ?_); rintro e w122 ⟨rfl, hb⟩; refine ⟨_, rfl, ?_⟩; have n0_ := zaa.mk (zaj (by (with_reducible repeat (first | refine zad ?_ _ | refine zab ?_ | refine zac ?_ _)); exact BK208.o) hb); have n1_ := zaa.mk (zaj (by (with_reducible repeat (first | refine zad ?_ _ | refine zab ?_ | refine zac ?_ _)); exact BK216.o) hb); have n2_ := zaa.mk (zaj (by (with_reducible repeat (first | refine zad ?_ _ | refine zab ?_ | refine zac ?_ _)); exact BK217.o) hb); have n3_ := zaa.mk (zaj (by (with_reducible repeat (first | refine zad ?_ _ | refine zab ?_ | refine zac ?_ _)); exact BK218.o) hb); have n4_ := zaa.mk (zaj (by (with_reducible repeat (first | refine zad ?_ _ | refine zab ?_ | refine zac ?_ _)); exact BK219.o) hb); have n5_ := zaa.mk (zao (by repeat (first | (with_reducible first | exact HB.o | apply zaf | apply zah | apply zag | refine zae ?_ GE208.o | refine zae ?_ GE216.o | refine zae ?_ GE217.o | refine zae ?_ GE218.o | refine zae ?_ GE219.o) | exact HB.o)) hb); clear BK208; clear BK216; clear BK217; clear BK218; clear BK219; clear HB; have BK208 := n0_; have BK216 := n1_; have BK217 := n2_; have BK218 := n3_; have BK219 := n4_; have HB := n5_; clear n0_ n1_ n2_ n3_ n4_ n5_; (try clear hb); (try clear hb2); (try clear hk); (try clear hi)) | ((with_reducible refine zaq (N := 18) rfl ?_); refine zar ?hg (N := 18) ?hd (cs := #[.int .i64 0, .int .i64 0]) (t := 24) ?hr ?_; (case hd => rfl); (case hg => rfl); (case hr => first | (go_simp; done) | (go_simp; rfl)); intro gb244 hg w123 hbox hb; have n0_ := zaa.mk (zaj (by (with_reducible repeat (first | refine zad ?_ _ | refine zab ?_ | refine zac ?_ _)); exact BK208.o) hb); have n1_ := zaa.mk (zaj (by (with_reducible repeat (first | refine zad ?_ _ | refine zab ?_ | refine zac ?_ _)); exact BK216.o) hb); have n2_ := zaa.mk (zaj (by (with_reducible repeat (first | refine zad ?_ _ | refine zab ?_ | refine zac ?_ _)); exact BK217.o) hb); have n3_ := zaa.mk (zaj (by (with_reducible repeat (first | refine zad ?_ _ | refine zab ?_ | refine zac ?_ _)); exact BK218.o) hb); have n4_ := zaa.mk (zaj (by (with_reducible repeat (first | refine zad ?_ _ | refine zab ?_ | refine zac ?_ _)); exact BK219.o) hb); have n5_ := zaa.mk (zao (by repeat (first | (with_reducible first | exact HB.o | apply zaf | apply zah | apply zag | refine zae ?_ GE208.o | refine zae ?_ GE216.o | refine zae ?_ GE217.o | refine zae ?_ GE218.o | refine zae ?_ GE219.o) | exact HB.o)) hb); have n6_ := zaa.mk (hbox); have n7_ := zaa.mk ((by rw [hg]; exact (zan (by repeat (first | (with_reducible first | exact HB.o | apply zaf | apply zah | apply zag | refine zae ?_ GE208.o | refine zae ?_ GE216.o | refine zae ?_ GE217.o | refine zae ?_ GE218.o | refine zae ?_ GE219.o) | exact HB.o))) : w.heap.size ≤ gb244)); have n8_ := zaa.mk ((by rw [hg]; exact (zan (by repeat (first | (with_reducible first | exact HB.o | apply zaf | apply zah | apply zag | refine zae ?_ GE208.o | refine zae ?_ GE216.o | refine zae ?_ GE217.o | refine zae ?_ GE218.o | refine zae ?_ GE219.o) | exact HB.o))) : w.heap.size ≤ gb244)); have n9_ := zaa.mk ((by rw [hg]; exact Nat.ne_of_lt (zal (g := gb208) (o := .cells #[.int .i16 a0_0, .int .i16 a0_1, .int .i16 a0_2, .int .i16 a0_3, .int .i16 a0_4, .int .i16 a0_5] 40 (0, 0)) (by (with_reducible repeat (first | refine zad ?_ _ | refine zab ?_ | refine zac ?_ _)); exact BK208.o)) : gb208 ≠ gb244)); have n10_ := zaa.mk ((by rw [hg]; exact Nat.ne_of_gt (zal (g := gb208) (o := .cells #[.int .i16 a0_0, .int .i16 a0_1, .int .i16 a0_2, .int .i16 a0_3, .int .i16 a0_4, .int .i16 a0_5] 40 (0, 0)) (by (with_reducible repeat (first | refine zad ?_ _ | refine zab ?_ | refine zac ?_ _)); exact BK208.o)) : gb244 ≠ gb208)); have n11_ := zaa.mk ((by rw [hg]; exact Nat.ne_of_lt (zal (g := gb216) (o := .cells #[.int .i64 t210, .int .i64 t211, .int .i64 t212, .int .i64 t213, .int .i64 t214, .int .i64 t215] 41 (0, 0)) (by (with_reducible repeat (first | refine zad ?_ _ | refine zab ?_ | refine zac ?_ _)); exact BK216.o)) : gb216 ≠ gb244)); have n12_ := zaa.mk ((by rw [hg]; exact Nat.ne_of_gt (zal (g := gb216) (o := .cells #[.int .i64 t210, .int .i64 t211, .int .i64 t212, .int .i64 t213, .int .i64 t214, .int .i64 t215] 41 (0, 0)) (by (with_reducible repeat (first | refine zad ?_ _ | refine zab ?_ | refine zac ?_ _)); exact BK216.o)) : gb244 ≠ gb216)); have n13_ := zaa.mk ((by rw [hg]; exact Nat.ne_of_lt (zal (g := gb217) (o := .cells #[.int .i64 t210, .int .i64 t211] 24 (0, 0)) (by (with_reducible repeat (first | refine zad ?_ _ | refine zab ?_ | refine zac ?_ _)); exact BK217.o)) : gb217 ≠ gb244)); have n14_ := zaa.mk ((by rw [hg]; exact Nat.ne_of_gt (zal (g := gb217) (o := .cells #[.int .i64 t210, .int .i64 t211] 24 (0, 0)) (by (with_reducible repeat (first | refine zad ?_ _ | refine zab ?_ | refine zac ?_ _)); exact BK217.o)) : gb244 ≠ gb217)); have n15_ := zaa.mk ((by rw [hg]; exact Nat.ne_of_lt (zal (g := gb218) (o := .cells #[.int .i64 t212, .int .i64 t213] 24 (0, 0)) (by (with_reducible repeat (first | refine zad ?_ _ | refine zab ?_ | refine zac ?_ _)); exact BK218.o)) : gb218 ≠ gb244)); have n16_ := zaa.mk ((by rw [hg]; exact Nat.ne_of_gt (zal (g := gb218) (o := .cells #[.int .i64 t212, .int .i64 t213] 24 (0, 0)) (by (with_reducible repeat (first | refine zad ?_ _ | refine zab ?_ | refine zac ?_ _)); exact BK218.o)) : gb244 ≠ gb218)); have n17_ := zaa.mk ((by rw [hg]; exact Nat.ne_of_lt (zal (g := gb219) (o := .cells #[.int .i64 t214, .int .i64 t215] 24 (0, 0)) (by (with_reducible repeat (first | refine zad ?_ _ | refine zab ?_ | refine zac ?_ _)); exact BK219.o)) : gb219 ≠ gb244)); have n18_ := zaa.mk ((by rw [hg]; exact Nat.ne_of_gt (zal (g := gb219) (o := .cells #[.int .i64 t214, .int .i64 t215] 24 (0, 0)) (by (with_reducible repeat (first | refine zad ?_ _ | refine zab ?_ | refine zac ?_ _)); exact BK219.o)) : gb244 ≠ gb219)); clear BK208; clear BK216; clear BK217; clear BK218; clear BK219; clear HB; have BK208 := n0_; have BK216 := n1_; have BK217 := n2_; have BK218 := n3_; have BK219 := n4_; have HB := n5_; have BK244 := n6_; have GW244 := n7_; have GE244 := n8_; have NB208_244 := n9_; have NB244_208 := n10_; have NB216_244 := n11_; have NB244_216 := n12_; have NB217_244 := n13_; have NB244_217 := n14_; have NB218_244 := n15_; have NB244_218 := n16_; have NB219_244 := n17_; have NB244_219 := n18_; clear n0_ n1_ n2_ n3_ n4_ n5_ n6_ n7_ n8_ n9_ n10_ n11_ n12_ n13_ n14_ n15_ n16_ n17_ n18_; clear hb hbox hg; have hnb124 := NB244_208.o; have hnc124 := NB208_244.o; have hnb125 := NB244_216.o; have hnc125 := NB216_244.o; have hnb126 := NB244_217.o; have hnc126 := NB217_244.o; have hnb127 := NB244_218.o; have hnc127 := NB218_244.o; have hnb128 := NB244_219.o; have hnc128 := NB219_244.o; obtain ⟨hcz129_0, hcz129_1⟩ := cz2 BK244.o; obtain ⟨hfz129_0, hfz129_1⟩ := fz2 BK244.o; have hnb130 := NB217_208.o; have hnc130 := NB208_217.o; have hnb131 := NB217_216.o; have hnc131 := NB216_217.o; obtain ⟨hcz132_0, hcz132_1⟩ := cz2 BK217.o; obtain ⟨hfz132_0, hfz132_1⟩ := fz2 BK217.o) | ((with_reducible refine zas (f := 21) rfl ?_); refine zat (some 105) rfl rfl Tryd.func21 (by kernel_rfl) rfl #[.int .i64 2, .agg #[.int .i64 t210, .int .i64 t211], .int .i64 0, .agg #[.int .i64 t241, .int .i64 t242], .int .i64 t243] rfl (by (try simp only [List.map_toArray, List.map_cons, List.map_nil]); first | done | rfl | (simp only [List.length_drop, List.length_take]; rfl)) ?_; (with_reducible refine (vinculumlaw02_op.calls k1 2 t210 t211 0 t241 t242 t243 t245 t246 t247 _ A108.o).mono ?_); rintro e w133 ⟨rfl, hb⟩; refine ⟨_, rfl, ?_⟩; have n0_ := zaa.mk (zaj (g := gb208) (o := .cells #[.int .i16 a0_0, .int .i16 a0_1, .int .i16 a0_2, .int .i16 a0_3, .int .i16 a0_4, .int .i16 a0_5] 40 (0, 0)) (by (with_reducible repeat (first | refine zad ?_ _ | refine zab ?_ | refine zac ?_ _)); refine zam ?_ NB208_244.o _; (with_reducible repeat (first | refine zad ?_ _ | refine zab ?_ | refine zac ?_ _)); refine zam ?_ NB208_244.o _; (with_reducible repeat (first | refine zad ?_ _ | refine zab ?_ | refine zac ?_ _)); exact BK208.o) hb); have n1_ := zaa.mk (zaj (g := gb216) (o := .cells #[.int .i64 t210, .int .i64 t211, .int .i64 t212, .int .i64 t213, .int .i64 t214, .int .i64 t215] 41 (0, 0)) (by (with_reducible repeat (first | refine zad ?_ _ | refine zab ?_ | refine zac ?_ _)); refine zam ?_ NB216_244.o _; (with_reducible repeat (first | refine zad ?_ _ | refine zab ?_ | refine zac ?_ _)); refine zam ?_ NB216_244.o _; (with_reducible repeat (first | refine zad ?_ _ | refine zab ?_ | refine zac ?_ _)); exact BK216.o) hb); have n2_ := zaa.mk (zaj (g := gb217) (o := .cells #[.int .i64 t210, .int .i64 t211] 24 (0, 0)) (by (with_reducible repeat (first | refine zad ?_ _ | refine zab ?_ | refine zac ?_ _)); refine zam ?_ NB217_244.o _; (with_reducible repeat (first | refine zad ?_ _ | refine zab ?_ | refine zac ?_ _)); refine zam ?_ NB217_244.o _; (with_reducible repeat (first | refine zad ?_ _ | refine zab ?_ | refine zac ?_ _)); exact BK217.o) hb); have n3_ := zaa.mk (zaj (g := gb218) (o := .cells #[.int .i64 t212, .int .i64 t213] 24 (0, 0)) (by (with_reducible repeat (first | refine zad ?_ _ | refine zab ?_ | refine zac ?_ _)); refine zam ?_ NB218_244.o _; (with_reducible repeat (first | refine zad ?_ _ | refine zab ?_ | refine zac ?_ _)); refine zam ?_ NB218_244.o _; (with_reducible repeat (first | refine zad ?_ _ | refine zab ?_ | refine zac ?_ _)); exact BK218.o) hb); have n4_ := zaa.mk (zaj (g := gb219) (o := .cells #[.int .i64 t214, .int .i64 t215] 24 (0, 0)) (by (with_reducible repeat (first | refine zad ?_ _ | refine zab ?_ | refine zac ?_ _)); refine zam ?_ NB219_244.o _; (with_reducible repeat (first | refine zad ?_ _ | refine zab ?_ | refine zac ?_ _)); refine zam ?_ NB219_244.o _; (with_reducible repeat (first | refine zad ?_ _ | refine zab ?_ | refine zac ?_ _)); exact BK219.o) hb); have n5_ := zaa.mk (zaj (g := gb244) (o := .cells #[.int .i64 t241, .int .i64 t242] 24 (0, 0)) (by (with_reducible repeat (first | refine zad ?_ _ | refine zab ?_ | refine zac ?_ _)); refine zap (cs := #[.int .i64 t241, .int .i64 0]) ?_ 1 _ rfl; (with_reducible repeat (first | refine zad ?_ _ | refine zab ?_ | refine zac ?_ _)); refine zap (cs := #[.int .i64 0, .int .i64 0]) ?_ 0 _ rfl; (with_reducible repeat (first | refine zad ?_ _ | refine zab ?_ | refine zac ?_ _)); exact BK244.o) hb); have n6_ := zaa.mk (zao (by repeat (first | (with_reducible first | exact HB.o | apply zaf | apply zah | apply zag | refine zae ?_ GE208.o | refine zae ?_ GE216.o | refine zae ?_ GE217.o | refine zae ?_ GE218.o | refine zae ?_ GE219.o | refine zae ?_ GE244.o) | exact HB.o)) hb); clear BK208; clear BK216; clear BK217; clear BK218; clear BK219; clear BK244; clear HB; have BK208 := n0_; have BK216 := n1_; have BK217 := n2_; have BK218 := n3_; have BK219 := n4_; have BK244 := n5_; have HB := n6_; clear n0_ n1_ n2_ n3_ n4_ n5_ n6_; (try clear hb); (try clear hb2); (try clear hk); (try clear hi)) | ((with_reducible refine zaq (N := 20) rfl ?_); refine zar ?hg (N := 20) ?hd (cs := #[.int .i64 0, .int .i64 0]) (t := 24) ?hr ?_; (case hd => rfl); (case hg => rfl); (case hr => first | (go_simp; done) | (go_simp; rfl)); intro gb248 hg w134 hbox hb; have n0_ := zaa.mk (zaj (by (with_reducible repeat (first | refine zad ?_ _ | refine zab ?_ | refine zac ?_ _)); exact BK208.o) hb); have n1_ := zaa.mk (zaj (by (with_reducible repeat (first | refine zad ?_ _ | refine zab ?_ | refine zac ?_ _)); exact BK216.o) hb); have n2_ := zaa.mk (zaj (by (with_reducible repeat (first | refine zad ?_ _ | refine zab ?_ | refine zac ?_ _)); exact BK217.o) hb); have n3_ := zaa.mk (zaj (by (with_reducible repeat (first | refine zad ?_ _ | refine zab ?_ | refine zac ?_ _)); exact BK218.o) hb); have n4_ := zaa.mk (zaj (by (with_reducible repeat (first | refine zad ?_ _ | refine zab ?_ | refine zac ?_ _)); exact BK219.o) hb); have n5_ := zaa.mk (zaj (by (with_reducible repeat (first | refine zad ?_ _ | refine zab ?_ | refine zac ?_ _)); exact BK244.o) hb); have n6_ := zaa.mk (zao (by repeat (first | (with_reducible first | exact HB.o | apply zaf | apply zah | apply zag | refine zae ?_ GE208.o | refine zae ?_ GE216.o | refine zae ?_ GE217.o | refine zae ?_ GE218.o | refine zae ?_ GE219.o | refine zae ?_ GE244.o) | exact HB.o)) hb); have n7_ := zaa.mk (hbox); have n8_ := zaa.mk ((by rw [hg]; exact (zan (by repeat (first | (with_reducible first | exact HB.o | apply zaf | apply zah | apply zag | refine zae ?_ GE208.o | refine zae ?_ GE216.o | refine zae ?_ GE217.o | refine zae ?_ GE218.o | refine zae ?_ GE219.o | refine zae ?_ GE244.o) | exact HB.o))) : w.heap.size ≤ gb248)); have n9_ := zaa.mk ((by rw [hg]; exact (zan (by repeat (first | (with_reducible first | exact HB.o | apply zaf | apply zah | apply zag | refine zae ?_ GE208.o | refine zae ?_ GE216.o | refine zae ?_ GE217.o | refine zae ?_ GE218.o | refine zae ?_ GE219.o | refine zae ?_ GE244.o) | exact HB.o))) : w.heap.size ≤ gb248)); have n10_ := zaa.mk ((by rw [hg]; exact Nat.ne_of_lt (zal (g := gb208) (o := .cells #[.int .i16 a0_0, .int .i16 a0_1, .int .i16 a0_2, .int .i16 a0_3, .int .i16 a0_4, .int .i16 a0_5] 40 (0, 0)) (by (with_reducible repeat (first | refine zad ?_ _ | refine zab ?_ | refine zac ?_ _)); exact BK208.o)) : gb208 ≠ gb248)); have n11_ := zaa.mk ((by rw [hg]; exact Nat.ne_of_gt (zal (g := gb208) (o := .cells #[.int .i16 a0_0, .int .i16 a0_1, .int .i16 a0_2, .int .i16 a0_3, .int .i16 a0_4, .int .i16 a0_5] 40 (0, 0)) (by (with_reducible repeat (first | refine zad ?_ _ | refine zab ?_ | refine zac ?_ _)); exact BK208.o)) : gb248 ≠ gb208)); have n12_ := zaa.mk ((by rw [hg]; exact Nat.ne_of_lt (zal (g := gb216) (o := .cells #[.int .i64 t210, .int .i64 t211, .int .i64 t212, .int .i64 t213, .int .i64 t214, .int .i64 t215] 41 (0, 0)) (by (with_reducible repeat (first | refine zad ?_ _ | refine zab ?_ | refine zac ?_ _)); exact BK216.o)) : gb216 ≠ gb248)); have n13_ := zaa.mk ((by rw [hg]; exact Nat.ne_of_gt (zal (g := gb216) (o := .cells #[.int .i64 t210, .int .i64 t211, .int .i64 t212, .int .i64 t213, .int .i64 t214, .int .i64 t215] 41 (0, 0)) (by (with_reducible repeat (first | refine zad ?_ _ | refine zab ?_ | refine zac ?_ _)); exact BK216.o)) : gb248 ≠ gb216)); have n14_ := zaa.mk ((by rw [hg]; exact Nat.ne_of_lt (zal (g := gb217) (o := .cells #[.int .i64 t210, .int .i64 t211] 24 (0, 0)) (by (with_reducible repeat (first | refine zad ?_ _ | refine zab ?_ | refine zac ?_ _)); exact BK217.o)) : gb217 ≠ gb248)); have n15_ := zaa.mk ((by rw [hg]; exact Nat.ne_of_gt (zal (g := gb217) (o := .cells #[.int .i64 t210, .int .i64 t211] 24 (0, 0)) (by (with_reducible repeat (first | refine zad ?_ _ | refine zab ?_ | refine zac ?_ _)); exact BK217.o)) : gb248 ≠ gb217)); have n16_ := zaa.mk ((by rw [hg]; exact Nat.ne_of_lt (zal (g := gb218) (o := .cells #[.int .i64 t212, .int .i64 t213] 24 (0, 0)) (by (with_reducible repeat (first | refine zad ?_ _ | refine zab ?_ | refine zac ?_ _)); exact BK218.o)) : gb218 ≠ gb248)); have n17_ := zaa.mk ((by rw [hg]; exact Nat.ne_of_gt (zal (g := gb218) (o := .cells #[.int .i64 t212, .int .i64 t213] 24 (0, 0)) (by (with_reducible repeat (first | refine zad ?_ _ | refine zab ?_ | refine zac ?_ _)); exact BK218.o)) : gb248 ≠ gb218)); have n18_ := zaa.mk ((by rw [hg]; exact Nat.ne_of_lt (zal (g := gb219) (o := .cells #[.int .i64 t214, .int .i64 t215] 24 (0, 0)) (by (with_reducible repeat (first | refine zad ?_ _ | refine zab ?_ | refine zac ?_ _)); exact BK219.o)) : gb219 ≠ gb248)); have n19_ := zaa.mk ((by rw [hg]; exact Nat.ne_of_gt (zal (g := gb219) (o := .cells #[.int .i64 t214, .int .i64 t215] 24 (0, 0)) (by (with_reducible repeat (first | refine zad ?_ _ | refine zab ?_ | refine zac ?_ _)); exact BK219.o)) : gb248 ≠ gb219)); have n20_ := zaa.mk ((by rw [hg]; exact Nat.ne_of_lt (zal (g := gb244) (o := .cells #[.int .i64 t241, .int .i64 t242] 24 (0, 0)) (by (with_reducible repeat (first | refine zad ?_ _ | refine zab ?_ | refine zac ?_ _)); exact BK244.o)) : gb244 ≠ gb248)); have n21_ := zaa.mk ((by rw [hg]; exact Nat.ne_of_gt (zal (g := gb244) (o := .cells #[.int .i64 t241, .int .i64 t242] 24 (0, 0)) (by (with_reducible repeat (first | refine zad ?_ _ | refine zab ?_ | refine zac ?_ _)); exact BK244.o)) : gb248 ≠ gb244)); clear BK208; clear BK216; clear BK217; clear BK218; clear BK219; clear BK244; clear HB; have BK208 := n0_; have BK216 := n1_; have BK217 := n2_; have BK218 := n3_; have BK219 := n4_; have BK244 := n5_; have HB := n6_; have BK248 := n7_; have GW248 := n8_; have GE248 := n9_; have NB208_248 := n10_; have NB248_208 := n11_; have NB216_248 := n12_; have NB248_216 := n13_; have NB217_248 := n14_; have NB248_217 := n15_; have NB218_248 := n16_; have NB248_218 := n17_; have NB219_248 := n18_; have NB248_219 := n19_; have NB244_248 := n20_; have NB248_244 := n21_; clear n0_ n1_ n2_ n3_ n4_ n5_ n6_ n7_ n8_ n9_ n10_ n11_ n12_ n13_ n14_ n15_ n16_ n17_ n18_ n19_ n20_ n21_; clear hb hbox hg; have hnb135 := NB248_208.o; have hnc135 := NB208_248.o; have hnb136 := NB248_216.o; have hnc136 := NB216_248.o; have hnb137 := NB248_217.o; have hnc137 := NB217_248.o; have hnb138 := NB248_218.o; have hnc138 := NB218_248.o; have hnb139 := NB248_219.o; have hnc139 := NB219_248.o; have hnb140 := NB248_244.o; have hnc140 := NB244_248.o; obtain ⟨hcz141_0, hcz141_1⟩ := cz2 BK248.o; obtain ⟨hfz141_0, hfz141_1⟩ := fz2 BK248.o; obtain ⟨hcz142_0, hcz142_1⟩ := cz2 BK217.o; obtain ⟨hfz142_0, hfz142_1⟩ := fz2 BK217.o; obtain ⟨hcz143_0, hcz143_1⟩ := cz2 BK218.o; obtain ⟨hfz143_0, hfz143_1⟩ := fz2 BK218.o) | ((with_reducible refine zas (f := 24) rfl ?_); refine zat (some 111) rfl rfl Tryd.func24 (by kernel_rfl) rfl #[.agg #[.int .i64 t210, .int .i64 t211], .agg #[.int .i64 t212, .int .i64 t213]] rfl (by (try simp only [List.map_toArray, List.map_cons, List.map_nil]); first | done | rfl | (simp only [List.length_drop, List.length_take]; rfl)) ?_; (with_reducible refine (rational_Mul.calls k1 t210 t211 t212 t213 t249 t250 t251 _ A109.o).mono ?_); rintro e w144 ⟨rfl, hb⟩; refine ⟨_, rfl, ?_⟩; have n0_ := zaa.mk (zaj (g := gb208) (o := .cells #[.int .i16 a0_0, .int .i16 a0_1, .int .i16 a0_2, .int .i16 a0_3, .int .i16 a0_4, .int .i16 a0_5] 40 (0, 0)) (by (with_reducible repeat (first | refine zad ?_ _ | refine zab ?_ | refine zac ?_ _)); refine zam ?_ NB208_248.o _; (with_reducible repeat (first | refine zad ?_ _ | refine zab ?_ | refine zac ?_ _)); refine zam ?_ NB208_248.o _; (with_reducible repeat (first | refine zad ?_ _ | refine zab ?_ | refine zac ?_ _)); exact BK208.o) hb); have n1_ := zaa.mk (zaj (g := gb216) (o := .cells #[.int .i64 t210, .int .i64 t211, .int .i64 t212, .int .i64 t213, .int .i64 t214, .int .i64 t215] 41 (0, 0)) (by (with_reducible repeat (first | refine zad ?_ _ | refine zab ?_ | refine zac ?_ _)); refine zam ?_ NB216_248.o _; (with_reducible repeat (first | refine zad ?_ _ | refine zab ?_ | refine zac ?_ _)); refine zam ?_ NB216_248.o _; (with_reducible repeat (first | refine zad ?_ _ | refine zab ?_ | refine zac ?_ _)); exact BK216.o) hb); have n2_ := zaa.mk (zaj (g := gb217) (o := .cells #[.int .i64 t210, .int .i64 t211] 24 (0, 0)) (by (with_reducible repeat (first | refine zad ?_ _ | refine zab ?_ | refine zac ?_ _)); refine zam ?_ NB217_248.o _; (with_reducible repeat (first | refine zad ?_ _ | refine zab ?_ | refine zac ?_ _)); refine zam ?_ NB217_248.o _; (with_reducible repeat (first | refine zad ?_ _ | refine zab ?_ | refine zac ?_ _)); exact BK217.o) hb); have n3_ := zaa.mk (zaj (g := gb218) (o := .cells #[.int .i64 t212, .int .i64 t213] 24 (0, 0)) (by (with_reducible repeat (first | refine zad ?_ _ | refine zab ?_ | refine zac ?_ _)); refine zam ?_ NB218_248.o _; (with_reducible repeat (first | refine zad ?_ _ | refine zab ?_ | refine zac ?_ _)); refine zam ?_ NB218_248.o _; (with_reducible repeat (first | refine zad ?_ _ | refine zab ?_ | refine zac ?_ _)); exact BK218.o) hb); have n4_ := zaa.mk (zaj (g := gb219) (o := .cells #[.int .i64 t214, .int .i64 t215] 24 (0, 0)) (by (with_reducible repeat (first | refine zad ?_ _ | refine zab ?_ | refine zac ?_ _)); refine zam ?_ NB219_248.o _; (with_reducible repeat (first | refine zad ?_ _ | refine zab ?_ | refine zac ?_ _)); refine zam ?_ NB219_248.o _; (with_reducible repeat (first | refine zad ?_ _ | refine zab ?_ | refine zac ?_ _)); exact BK219.o) hb); have n5_ := zaa.mk (zaj (g := gb244) (o := .cells #[.int .i64 t241, .int .i64 t242] 24 (0, 0)) (by (with_reducible repeat (first | refine zad ?_ _ | refine zab ?_ | refine zac ?_ _)); refine zam ?_ NB244_248.o _; (with_reducible repeat (first | refine zad ?_ _ | refine zab ?_ | refine zac ?_ _)); refine zam ?_ NB244_248.o _; (with_reducible repeat (first | refine zad ?_ _ | refine zab ?_ | refine zac ?_ _)); exact BK244.o) hb); have n6_ := zaa.mk (zaj (g := gb248) (o := .cells #[.int .i64 t245, .int .i64 t246] 24 (0, 0)) (by (with_reducible repeat (first | refine zad ?_ _ | refine zab ?_ | refine zac ?_ _)); refine zap (cs := #[.int .i64 t245, .int .i64 0]) ?_ 1 _ rfl; (with_reducible repeat (first | refine zad ?_ _ | refine zab ?_ | refine zac ?_ _)); refine zap (cs := #[.int .i64 0, .int .i64 0]) ?_ 0 _ rfl; (with_reducible repeat (first | refine zad ?_ _ | refine zab ?_ | refine zac ?_ _)); exact BK248.o) hb); have n7_ := zaa.mk (zao (by repeat (first | (with_reducible first | exact HB.o | apply zaf | apply zah | apply zag | refine zae ?_ GE208.o | refine zae ?_ GE216.o | refine zae ?_ GE217.o | refine zae ?_ GE218.o | refine zae ?_ GE219.o | refine zae ?_ GE244.o | refine zae ?_ GE248.o) | exact HB.o)) hb); clear BK208; clear BK216; clear BK217; clear BK218; clear BK219; clear BK244; clear BK248; clear HB; have BK208 := n0_; have BK216 := n1_; have BK217 := n2_; have BK218 := n3_; have BK219 := n4_; have BK244 := n5_; have BK248 := n6_; have HB := n7_; clear n0_ n1_ n2_ n3_ n4_ n5_ n6_ n7_; (try clear hb); (try clear hb2); (try clear hk); (try clear hi)) | ((with_reducible refine zaq (N := 22) rfl ?_); refine zar ?hg (N := 22) ?hd (cs := #[.int .i64 0, .int .i64 0]) (t := 24) ?hr ?_; (case hd => rfl); (case hg => rfl); (case hr => first | (go_simp; done) | (go_simp; rfl)); intro gb252 hg w145 hbox hb; have n0_ := zaa.mk (zaj (by (with_reducible repeat (first | refine zad ?_ _ | refine zab ?_ | refine zac ?_ _)); exact BK208.o) hb); have n1_ := zaa.mk (zaj (by (with_reducible repeat (first | refine zad ?_ _ | refine zab ?_ | refine zac ?_ _)); exact BK216.o) hb); have n2_ := zaa.mk (zaj (by (with_reducible repeat (first | refine zad ?_ _ | refine zab ?_ | refine zac ?_ _)); exact BK217.o) hb); have n3_ := zaa.mk (zaj (by (with_reducible repeat (first | refine zad ?_ _ | refine zab ?_ | refine zac ?_ _)); exact BK218.o) hb); have n4_ := zaa.mk (zaj (by (with_reducible repeat (first | refine zad ?_ _ | refine zab ?_ | refine zac ?_ _)); exact BK219.o) hb); have n5_ := zaa.mk (zaj (by (with_reducible repeat (first | refine zad ?_ _ | refine zab ?_ | refine zac ?_ _)); exact BK244.o) hb); have n6_ := zaa.mk (zaj (by (with_reducible repeat (first | refine zad ?_ _ | refine zab ?_ | refine zac ?_ _)); exact BK248.o) hb); have n7_ := zaa.mk (zao (by repeat (first | (with_reducible first | exact HB.o | apply zaf | apply zah | apply zag | refine zae ?_ GE208.o | refine zae ?_ GE216.o | refine zae ?_ GE217.o | refine zae ?_ GE218.o | refine zae ?_ GE219.o | refine zae ?_ GE244.o | refine zae ?_ GE248.o) | exact HB.o)) hb); have n8_ := zaa.mk (hbox); have n9_ := zaa.mk ((by rw [hg]; exact (zan (by repeat (first | (with_reducible first | exact HB.o | apply zaf | apply zah | apply zag | refine zae ?_ GE208.o | refine zae ?_ GE216.o | refine zae ?_ GE217.o | refine zae ?_ GE218.o | refine zae ?_ GE219.o | refine zae ?_ GE244.o | refine zae ?_ GE248.o) | exact HB.o))) : w.heap.size ≤ gb252)); have n10_ := zaa.mk ((by rw [hg]; exact (zan (by repeat (first | (with_reducible first | exact HB.o | apply zaf | apply zah | apply zag | refine zae ?_ GE208.o | refine zae ?_ GE216.o | refine zae ?_ GE217.o | refine zae ?_ GE218.o | refine zae ?_ GE219.o | refine zae ?_ GE244.o | refine zae ?_ GE248.o) | exact HB.o))) : w.heap.size ≤ gb252)); have n11_ := zaa.mk ((by rw [hg]; exact Nat.ne_of_lt (zal (g := gb208) (o := .cells #[.int .i16 a0_0, .int .i16 a0_1, .int .i16 a0_2, .int .i16 a0_3, .int .i16 a0_4, .int .i16 a0_5] 40 (0, 0)) (by (with_reducible repeat (first | refine zad ?_ _ | refine zab ?_ | refine zac ?_ _)); exact BK208.o)) : gb208 ≠ gb252)); have n12_ := zaa.mk ((by rw [hg]; exact Nat.ne_of_gt (zal (g := gb208) (o := .cells #[.int .i16 a0_0, .int .i16 a0_1, .int .i16 a0_2, .int .i16 a0_3, .int .i16 a0_4, .int .i16 a0_5] 40 (0, 0)) (by (with_reducible repeat (first | refine zad ?_ _ | refine zab ?_ | refine zac ?_ _)); exact BK208.o)) : gb252 ≠ gb208)); have n13_ := zaa.mk ((by rw [hg]; exact Nat.ne_of_lt (zal (g := gb216) (o := .cells #[.int .i64 t210, .int .i64 t211, .int .i64 t212, .int .i64 t213, .int .i64 t214, .int .i64 t215] 41 (0, 0)) (by (with_reducible repeat (first | refine zad ?_ _ | refine zab ?_ | refine zac ?_ _)); exact BK216.o)) : gb216 ≠ gb252)); have n14_ := zaa.mk ((by rw [hg]; exact Nat.ne_of_gt (zal (g := gb216) (o := .cells #[.int .i64 t210, .int .i64 t211, .int .i64 t212, .int .i64 t213, .int .i64 t214, .int .i64 t215] 41 (0, 0)) (by (with_reducible repeat (first | refine zad ?_ _ | refine zab ?_ | refine zac ?_ _)); exact BK216.o)) : gb252 ≠ gb216)); have n15_ := zaa.mk ((by rw [hg]; exact Nat.ne_of_lt (zal (g := gb217) (o := .cells #[.int .i64 t210, .int .i64 t211] 24 (0, 0)) (by (with_reducible repeat (first | refine zad ?_ _ | refine zab ?_ | refine zac ?_ _)); exact BK217.o)) : gb217 ≠ gb252)); have n16_ := zaa.mk ((by rw [hg]; exact Nat.ne_of_gt (zal (g := gb217) (o := .cells #[.int .i64 t210, .int .i64 t211] 24 (0, 0)) (by (with_reducible repeat (first | refine zad ?_ _ | refine zab ?_ | refine zac ?_ _)); exact BK217.o)) : gb252 ≠ gb217)); have n17_ := zaa.mk ((by rw [hg]; exact Nat.ne_of_lt (zal (g := gb218) (o := .cells #[.int .i64 t212, .int .i64 t213] 24 (0, 0)) (by (with_reducible repeat (first | refine zad ?_ _ | refine zab ?_ | refine zac ?_ _)); exact BK218.o)) : gb218 ≠ gb252)); have n18_ := zaa.mk ((by rw [hg]; exact Nat.ne_of_gt (zal (g := gb218) (o := .cells #[.int .i64 t212, .int .i64 t213] 24 (0, 0)) (by (with_reducible repeat (first | refine zad ?_ _ | refine zab ?_ | refine zac ?_ _)); exact BK218.o)) : gb252 ≠ gb218)); have n19_ := zaa.mk ((by rw [hg]; exact Nat.ne_of_lt (zal (g := gb219) (o := .cells #[.int .i64 t214, .int .i64 t215] 24 (0, 0)) (by (with_reducible repeat (first | refine zad ?_ _ | refine zab ?_ | refine zac ?_ _)); exact BK219.o)) : gb219 ≠ gb252)); have n20_ := zaa.mk ((by rw [hg]; exact Nat.ne_of_gt (zal (g := gb219) (o := .cells #[.int .i64 t214, .int .i64 t215] 24 (0, 0)) (by (with_reducible repeat (first | refine zad ?_ _ | refine zab ?_ | refine zac ?_ _)); exact BK219.o)) : gb252 ≠ gb219)); have n21_ := zaa.mk ((by rw [hg]; exact Nat.ne_of_lt (zal (g := gb244) (o := .cells #[.int .i64 t241, .int .i64 t242] 24 (0, 0)) (by (with_reducible repeat (first | refine zad ?_ _ | refine zab ?_ | refine zac ?_ _)); exact BK244.o)) : gb244 ≠ gb252)); have n22_ := zaa.mk ((by rw [hg]; exact Nat.ne_of_gt (zal (g := gb244) (o := .cells #[.int .i64 t241, .int .i64 t242] 24 (0, 0)) (by (with_reducible repeat (first | refine zad ?_ _ | refine zab ?_ | refine zac ?_ _)); exact BK244.o)) : gb252 ≠ gb244)); have n23_ := zaa.mk ((by rw [hg]; exact Nat.ne_of_lt (zal (g := gb248) (o := .cells #[.int .i64 t245, .int .i64 t246] 24 (0, 0)) (by (with_reducible repeat (first | refine zad ?_ _ | refine zab ?_ | refine zac ?_ _)); exact BK248.o)) : gb248 ≠ gb252)); have n24_ := zaa.mk ((by rw [hg]; exact Nat.ne_of_gt (zal (g := gb248) (o := .cells #[.int .i64 t245, .int .i64 t246] 24 (0, 0)) (by (with_reducible repeat (first | refine zad ?_ _ | refine zab ?_ | refine zac ?_ _)); exact BK248.o)) : gb252 ≠ gb248)); clear BK208; clear BK216; clear BK217; clear BK218; clear BK219; clear BK244; clear BK248; clear HB; have BK208 := n0_; have BK216 := n1_; have BK217 := n2_; have BK218 := n3_; have BK219 := n4_; have BK244 := n5_; have BK248 := n6_; have HB := n7_; have BK252 := n8_; have GW252 := n9_; have GE252 := n10_; have NB208_252 := n11_; have NB252_208 := n12_; have NB216_252 := n13_; have NB252_216 := n14_; have NB217_252 := n15_; have NB252_217 := n16_; have NB218_252 := n17_; have NB252_218 := n18_; have NB219_252 := n19_; have NB252_219 := n20_; have NB244_252 := n21_; have NB252_244 := n22_; have NB248_252 := n23_; have NB252_248 := n24_; clear n0_ n1_ n2_ n3_ n4_ n5_ n6_ n7_ n8_ n9_ n10_ n11_ n12_ n13_ n14_ n15_ n16_ n17_ n18_ n19_ n20_ n21_ n22_ n23_ n24_; clear hb hbox hg; have hnb146 := NB252_208.o; have hnc146 := NB208_252.o; have hnb147 := NB252_216.o; have hnc147 := NB216_252.o; have hnb148 := NB252_217.o; have hnc148 := NB217_252.o; have hnb149 := NB252_218.o; have hnc149 := NB218_252.o; have hnb150 := NB252_219.o; have hnc150 := NB219_252.o; have hnb151 := NB252_244.o; have hnc151 := NB244_252.o; have hnb152 := NB252_248.o; have hnc152 := NB248_252.o; obtain ⟨hcz153_0, hcz153_1⟩ := cz2 BK252.o; obtain ⟨hfz153_0, hfz153_1⟩ := fz2 BK252.o; obtain ⟨hcz154_0, hcz154_1⟩ := cz2 BK217.o; obtain ⟨hfz154_0, hfz154_1⟩ := fz2 BK217.o; obtain ⟨hcz155_0, hcz155_1⟩ := cz2 BK219.o; obtain ⟨hfz155_0, hfz155_1⟩ := fz2 BK219.o) | ((with_reducible refine zas (f := 24) rfl ?_); refine zat (some 117) rfl rfl Tryd.func24 (by kernel_rfl) rfl #[.agg #[.int .i64 t210, .int .i64 t211], .agg #[.int .i64 t214, .int .i64 t215]] rfl (by (try simp only [List.map_toArray, List.map_cons, List.map_nil]); first | done | rfl | (simp only [List.length_drop, List.length_take]; rfl)) ?_; (with_reducible refine (rational_Mul.calls k1 t210 t211 t214 t215 t253 t254 t255 _ A110.o).mono ?_); rintro e w156 ⟨rfl, hb⟩; refine ⟨_, rfl, ?_⟩; have n0_ := zaa.mk (zaj (g := gb208) (o := .cells #[.int .i16 a0_0, .int .i16 a0_1, .int .i16 a0_2, .int .i16 a0_3, .int .i16 a0_4, .int .i16 a0_5] 40 (0, 0)) (by (with_reducible repeat (first | refine zad ?_ _ | refine zab ?_ | refine zac ?_ _)); refine zam ?_ NB208_252.o _; (with_reducible repeat (first | refine zad ?_ _ | refine zab ?_ | refine zac ?_ _)); refine zam ?_ NB208_252.o _; (with_reducible repeat (first | refine zad ?_ _ | refine zab ?_ | refine zac ?_ _)); exact BK208.o) hb); have n1_ := zaa.mk (zaj (g := gb216) (o := .cells #[.int .i64 t210, .int .i64 t211, .int .i64 t212, .int .i64 t213, .int .i64 t214, .int .i64 t215] 41 (0, 0)) (by (with_reducible repeat (first | refine zad ?_ _ | refine zab ?_ | refine zac ?_ _)); refine zam ?_ NB216_252.o _; (with_reducible repeat (first | refine zad ?_ _ | refine zab ?_ | refine zac ?_ _)); refine zam ?_ NB216_252.o _; (with_reducible repeat (first | refine zad ?_ _ | refine zab ?_ | refine zac ?_ _)); exact BK216.o) hb); have n2_ := zaa.mk (zaj (g := gb217) (o := .cells #[.int .i64 t210, .int .i64 t211] 24 (0, 0)) (by (with_reducible repeat (first | refine zad ?_ _ | refine zab ?_ | refine zac ?_ _)); refine zam ?_ NB217_252.o _; (with_reducible repeat (first | refine zad ?_ _ | refine zab ?_ | refine zac ?_ _)); refine zam ?_ NB217_252.o _; (with_reducible repeat (first | refine zad ?_ _ | refine zab ?_ | refine zac ?_ _)); exact BK217.o) hb); have n3_ := zaa.mk (zaj (g := gb218) (o := .cells #[.int .i64 t212, .int .i64 t213] 24 (0, 0)) (by (with_reducible repeat (first | refine zad ?_ _ | refine zab ?_ | refine zac ?_ _)); refine zam ?_ NB218_252.o _; (with_reducible repeat (first | refine zad ?_ _ | refine zab ?_ | refine zac ?_ _)); refine zam ?_ NB218_252.o _; (with_reducible repeat (first | refine zad ?_ _ | refine zab ?_ | refine zac ?_ _)); exact BK218.o) hb); have n4_ := zaa.mk (zaj (g := gb219) (o := .cells #[.int .i64 t214, .int .i64 t215] 24 (0, 0)) (by (with_reducible repeat (first | refine zad ?_ _ | refine zab ?_ | refine zac ?_ _)); refine zam ?_ NB219_252.o _; (with_reducible repeat (first | refine zad ?_ _ | refine zab ?_ | refine zac ?_ _)); refine zam ?_ NB219_252.o _; (with_reducible repeat (first | refine zad ?_ _ | refine zab ?_ | refine zac ?_ _)); exact BK219.o) hb); have n5_ := zaa.mk (zaj (g := gb244) (o := .cells #[.int .i64 t241, .int .i64 t242] 24 (0, 0)) (by (with_reducible repeat (first | refine zad ?_ _ | refine zab ?_ | refine zac ?_ _)); refine zam ?_ NB244_252.o _; (with_reducible repeat (first | refine zad ?_ _ | refine zab ?_ | refine zac ?_ _)); refine zam ?_ NB244_252.o _; (with_reducible repeat (first | refine zad ?_ _ | refine zab ?_ | refine zac ?_ _)); exact BK244.o) hb); have n6_ := zaa.mk (zaj (g := gb248) (o := .cells #[.int .i64 t245, .int .i64 t246] 24 (0, 0)) (by (with_reducible repeat (first | refine zad ?_ _ | refine zab ?_ | refine zac ?_ _)); refine zam ?_ NB248_252.o _; (with_reducible repeat (first | refine zad ?_ _ | refine zab ?_ | refine zac ?_ _)); refine zam ?_ NB248_252.o _; (with_reducible repeat (first | refine zad ?_ _ | refine zab ?_ | refine zac ?_ _)); exact BK248.o) hb); have n7_ := zaa.mk (zaj (g := gb252) (o := .cells #[.int .i64 t249, .int .i64 t250] 24 (0, 0)) (by (with_reducible repeat (first | refine zad ?_ _ | refine zab ?_ | refine zac ?_ _)); refine zap (cs := #[.int .i64 t249, .int .i64 0]) ?_ 1 _ rfl; (with_reducible repeat (first | refine zad ?_ _ | refine zab ?_ | refine zac ?_ _)); refine zap (cs := #[.int .i64 0, .int .i64 0]) ?_ 0 _ rfl; (with_reducible repeat (first | refine zad ?_ _ | refine zab ?_ | refine zac ?_ _)); exact BK252.o) hb); have n8_ := zaa.mk (zao (by repeat (first | (with_reducible first | exact HB.o | apply zaf | apply zah | apply zag | refine zae ?_ GE208.o | refine zae ?_ GE216.o | refine zae ?_ GE217.o | refine zae ?_ GE218.o | refine zae ?_ GE219.o | refine zae ?_ GE244.o | refine zae ?_ GE248.o | refine zae ?_ GE252.o) | exact HB.o)) hb); clear BK208; clear BK216; clear BK217; clear BK218; clear BK219; clear BK244; clear BK248; clear BK252; clear HB; have BK208 := n0_; have BK216 := n1_; have BK217 := n2_; have BK218 := n3_; have BK219 := n4_; have BK244 := n5_; have BK248 := n6_; have BK252 := n7_; have HB := n8_; clear n0_ n1_ n2_ n3_ n4_ n5_ n6_ n7_ n8_; (try clear hb); (try clear hb2); (try clear hk); (try clear hi)) | ((with_reducible refine zaq (N := 24) rfl ?_); refine zar ?hg (N := 24) ?hd (cs := #[.int .i64 0, .int .i64 0]) (t := 24) ?hr ?_; (case hd => rfl); (case hg => rfl); (case hr => first | (go_simp; done) | (go_simp; rfl)); intro gb256 hg w157 hbox hb; have n0_ := zaa.mk (zaj (by (with_reducible repeat (first | refine zad ?_ _ | refine zab ?_ | refine zac ?_ _)); exact BK208.o) hb); have n1_ := zaa.mk (zaj (by (with_reducible repeat (first | refine zad ?_ _ | refine zab ?_ | refine zac ?_ _)); exact BK216.o) hb); have n2_ := zaa.mk (zaj (by (with_reducible repeat (first | refine zad ?_ _ | refine zab ?_ | refine zac ?_ _)); exact BK217.o) hb); have n3_ := zaa.mk (zaj (by (with_reducible repeat (first | refine zad ?_ _ | refine zab ?_ | refine zac ?_ _)); exact BK218.o) hb); have n4_ := zaa.mk (zaj (by (with_reducible repeat (first | refine zad ?_ _ | refine zab ?_ | refine zac ?_ _)); exact BK219.o) hb); have n5_ := zaa.mk (zaj (by (with_reducible repeat (first | refine zad ?_ _ | refine zab ?_ | refine zac ?_ _)); exact BK244.o) hb); have n6_ := zaa.mk (zaj (by (with_reducible repeat (first | refine zad ?_ _ | refine zab ?_ | refine zac ?_ _)); exact BK248.o) hb); have n7_ := zaa.mk (zaj (by (with_reducible repeat (first | refine zad ?_ _ | refine zab ?_ | refine zac ?_ _)); exact BK252.o) hb); have n8_ := zaa.mk (zao (by repeat (first | (with_reducible first | exact HB.o | apply zaf | apply zah | apply zag | refine zae ?_ GE208.o | refine zae ?_ GE216.o | refine zae ?_ GE217.o | refine zae ?_ GE218.o | refine zae ?_ GE219.o | refine zae ?_ GE244.o | refine zae ?_ GE248.o | refine zae ?_ GE252.o) | exact HB.o)) hb); have n9_ := zaa.mk (hbox); have n10_ := zaa.mk ((by rw [hg]; exact (zan (by repeat (first | (with_reducible first | exact HB.o | apply zaf | apply zah | apply zag | refine zae ?_ GE208.o | refine zae ?_ GE216.o | refine zae ?_ GE217.o | refine zae ?_ GE218.o | refine zae ?_ GE219.o | refine zae ?_ GE244.o | refine zae ?_ GE248.o | refine zae ?_ GE252.o) | exact HB.o))) : w.heap.size ≤ gb256)); have n11_ := zaa.mk ((by rw [hg]; exact (zan (by repeat (first | (with_reducible first | exact HB.o | apply zaf | apply zah | apply zag | refine zae ?_ GE208.o | refine zae ?_ GE216.o | refine zae ?_ GE217.o | refine zae ?_ GE218.o | refine zae ?_ GE219.o | refine zae ?_ GE244.o | refine zae ?_ GE248.o | refine zae ?_ GE252.o) | exact HB.o))) : w.heap.size ≤ gb256)); have n12_ := zaa.mk ((by rw [hg]; exact Nat.ne_of_lt (zal (g := gb208) (o := .cells #[.int .i16 a0_0, .int .i16 a0_1, .int .i16 a0_2, .int .i16 a0_3, .int .i16 a0_4, .int .i16 a0_5] 40 (0, 0)) (by (with_reducible repeat (first | refine zad ?_ _ | refine zab ?_ | refine zac ?_ _)); exact BK208.o)) : gb208 ≠ gb256)); have n13_ := zaa.mk ((by rw [hg]; exact Nat.ne_of_gt (zal (g := gb208) (o := .cells #[.int .i16 a0_0, .int .i16 a0_1, .int .i16 a0_2, .int .i16 a0_3, .int .i16 a0_4, .int .i16 a0_5] 40 (0, 0)) (by (with_reducible repeat (first | refine zad ?_ _ | refine zab ?_ | refine zac ?_ _)); exact BK208.o)) : gb256 ≠ gb208)); have n14_ := zaa.mk ((by rw [hg]; exact Nat.ne_of_lt (zal (g := gb216) (o := .cells #[.int .i64 t210, .int .i64 t211, .int .i64 t212, .int .i64 t213, .int .i64 t214, .int .i64 t215] 41 (0, 0)) (by (with_reducible repeat (first | refine zad ?_ _ | refine zab ?_ | refine zac ?_ _)); exact BK216.o)) : gb216 ≠ gb256)); have n15_ := zaa.mk ((by rw [hg]; exact Nat.ne_of_gt (zal (g := gb216) (o := .cells #[.int .i64 t210, .int .i64 t211, .int .i64 t212, .int .i64 t213, .int .i64 t214, .int .i64 t215] 41 (0, 0)) (by (with_reducible repeat (first | refine zad ?_ _ | refine zab ?_ | refine zac ?_ _)); exact BK216.o)) : gb256 ≠ gb216)); have n16_ := zaa.mk ((by rw [hg]; exact Nat.ne_of_lt (zal (g := gb217) (o := .cells #[.int .i64 t210, .int .i64 t211] 24 (0, 0)) (by (with_reducible repeat (first | refine zad ?_ _ | refine zab ?_ | refine zac ?_ _)); exact BK217.o)) : gb217 ≠ gb256)); have n17_ := zaa.mk ((by rw [hg]; exact Nat.ne_of_gt (zal (g := gb217) (o := .cells #[.int .i64 t210, .int .i64 t211] 24 (0, 0)) (by (with_reducible repeat (first | refine zad ?_ _ | refine zab ?_ | refine zac ?_ _)); exact BK217.o)) : gb256 ≠ gb217)); have n18_ := zaa.mk ((by rw [hg]; exact Nat.ne_of_lt (zal (g := gb218) (o := .cells #[.int .i64 t212, .int .i64 t213] 24 (0, 0)) (by (with_reducible repeat (first | refine zad ?_ _ | refine zab ?_ | refine zac ?_ _)); exact BK218.o)) : gb218 ≠ gb256)); have n19_ := zaa.mk ((by rw [hg]; exact Nat.ne_of_gt (zal (g := gb218) (o := .cells #[.int .i64 t212, .int .i64 t213] 24 (0, 0)) (by (with_reducible repeat (first | refine zad ?_ _ | refine zab ?_ | refine zac ?_ _)); exact BK218.o)) : gb256 ≠ gb218)); have n20_ := zaa.mk ((by rw [hg]; exact Nat.ne_of_lt (zal (g := gb219) (o := .cells #[.int .i64 t214, .int .i64 t215] 24 (0, 0)) (by (with_reducible repeat (first | refine zad ?_ _ | refine zab ?_ | refine zac ?_ _)); exact BK219.o)) : gb219 ≠ gb256)); have n21_ := zaa.mk ((by rw [hg]; exact Nat.ne_of_gt (zal (g := gb219) (o := .cells #[.int .i64 t214, .int .i64 t215] 24 (0, 0)) (by (with_reducible repeat (first | refine zad ?_ _ | refine zab ?_ | refine zac ?_ _)); exact BK219.o)) : gb256 ≠ gb219)); have n22_ := zaa.mk ((by rw [hg]; exact Nat.ne_of_lt (zal (g := gb244) (o := .cells #[.int .i64 t241, .int .i64 t242] 24 (0, 0)) (by (with_reducible repeat (first | refine zad ?_ _ | refine zab ?_ | refine zac ?_ _)); exact BK244.o)) : gb244 ≠ gb256)); have n23_ := zaa.mk ((by rw [hg]; exact Nat.ne_of_gt (zal (g := gb244) (o := .cells #[.int .i64 t241, .int .i64 t242] 24 (0, 0)) (by (with_reducible repeat (first | refine zad ?_ _ | refine zab ?_ | refine zac ?_ _)); exact BK244.o)) : gb256 ≠ gb244)); have n24_ := zaa.mk ((by rw [hg]; exact Nat.ne_of_lt (zal (g := gb248) (o := .cells #[.int .i64 t245, .int .i64 t246] 24 (0, 0)) (by (with_reducible repeat (first | refine zad ?_ _ | refine zab ?_ | refine zac ?_ _)); exact BK248.o)) : gb248 ≠ gb256)); have n25_ := zaa.mk ((by rw [hg]; exact Nat.ne_of_gt (zal (g := gb248) (o := .cells #[.int .i64 t245, .int .i64 t246] 24 (0, 0)) (by (with_reducible repeat (first | refine zad ?_ _ | refine zab ?_ | refine zac ?_ _)); exact BK248.o)) : gb256 ≠ gb248)); have n26_ := zaa.mk ((by rw [hg]; exact Nat.ne_of_lt (zal (g := gb252) (o := .cells #[.int .i64 t249, .int .i64 t250] 24 (0, 0)) (by (with_reducible repeat (first | refine zad ?_ _ | refine zab ?_ | refine zac ?_ _)); exact BK252.o)) : gb252 ≠ gb256)); have n27_ := zaa.mk ((by rw [hg]; exact Nat.ne_of_gt (zal (g := gb252) (o := .cells #[.int .i64 t249, .int .i64 t250] 24 (0, 0)) (by (with_reducible repeat (first | refine zad ?_ _ | refine zab ?_ | refine zac ?_ _)); exact BK252.o)) : gb256 ≠ gb252)); clear BK208; clear BK216; clear BK217; clear BK218; clear BK219; clear BK244; clear BK248; clear BK252; clear HB; have BK208 := n0_; have BK216 := n1_; have BK217 := n2_; have BK218 := n3_; have BK219 := n4_; have BK244 := n5_; have BK248 := n6_; have BK252 := n7_; have HB := n8_; have BK256 := n9_; have GW256 := n10_; have GE256 := n11_; have NB208_256 := n12_; have NB256_208 := n13_; have NB216_256 := n14_; have NB256_216 := n15_; have NB217_256 := n16_; have NB256_217 := n17_; have NB218_256 := n18_; have NB256_218 := n19_; have NB219_256 := n20_; have NB256_219 := n21_; have NB244_256 := n22_; have NB256_244 := n23_; have NB248_256 := n24_; have NB256_248 := n25_; have NB252_256 := n26_; have NB256_252 := n27_; clear n0_ n1_ n2_ n3_ n4_ n5_ n6_ n7_ n8_ n9_ n10_ n11_ n12_ n13_ n14_ n15_ n16_ n17_ n18_ n19_ n20_ n21_ n22_ n23_ n24_ n25_ n26_ n27_; clear hb hbox hg; have hnb158 := NB256_208.o; have hnc158 := NB208_256.o; have hnb159 := NB256_216.o; have hnc159 := NB216_256.o; have hnb160 := NB256_217.o; have hnc160 := NB217_256.o; have hnb161 := NB256_218.o; have hnc161 := NB218_256.o; have hnb162 := NB256_219.o; have hnc162 := NB219_256.o; have hnb163 := NB256_244.o; have hnc163 := NB244_256.o; have hnb164 := NB256_248.o; have hnc164 := NB248_256.o; have hnb165 := NB256_252.o; have hnc165 := NB252_256.o; obtain ⟨hcz166_0, hcz166_1⟩ := cz2 BK256.o; obtain ⟨hfz166_0, hfz166_1⟩ := fz2 BK256.o; obtain ⟨hcz167_0, hcz167_1⟩ := cz2 BK252.o; obtain ⟨hfz167_0, hfz167_1⟩ := fz2 BK252.o) | ((with_reducible refine zas (f := 21) rfl ?_); refine zat (some 125) rfl rfl Tryd.func21 (by kernel_rfl) rfl #[.int .i64 0, .agg #[.int .i64 t249, .int .i64 t250], .int .i64 t251, .agg #[.int .i64 t253, .int .i64 t254], .int .i64 t255] rfl (by (try simp only [List.map_toArray, List.map_cons, List.map_nil]); first | done | rfl | (simp only [List.length_drop, List.length_take]; rfl)) ?_; (with_reducible refine (vinculumlaw02_op.calls k1 0 t249 t250 t251 t253 t254 t255 t257 t258 t259 _ A111.o).mono ?_); rintro e w168 ⟨rfl, hb⟩; refine ⟨_, rfl, ?_⟩; have n0_ := zaa.mk (zaj (g := gb208) (o := .cells #[.int .i16 a0_0, .int .i16 a0_1, .int .i16 a0_2, .int .i16 a0_3, .int .i16 a0_4, .int .i16 a0_5] 40 (0, 0)) (by (with_reducible repeat (first | refine zad ?_ _ | refine zab ?_ | refine zac ?_ _)); refine zam ?_ NB208_256.o _; (with_reducible repeat (first | refine zad ?_ _ | refine zab ?_ | refine zac ?_ _)); refine zam ?_ NB208_256.o _; (with_reducible repeat (first | refine zad ?_ _ | refine zab ?_ | refine zac ?_ _)); exact BK208.o) hb); have n1_ := zaa.mk (zaj (g := gb216) (o := .cells #[.int .i64 t210, .int .i64 t211, .int .i64 t212, .int .i64 t213, .int .i64 t214, .int .i64 t215] 41 (0, 0)) (by (with_reducible repeat (first | refine zad ?_ _ | refine zab ?_ | refine zac ?_ _)); refine zam ?_ NB216_256.o _; (with_reducible repeat (first | refine zad ?_ _ | refine zab ?_ | refine zac ?_ _)); refine zam ?_ NB216_256.o _; (with_reducible repeat (first | refine zad ?_ _ | refine zab ?_ | refine zac ?_ _)); exact BK216.o) hb); have n2_ := zaa.mk (zaj (g := gb217) (o := .cells #[.int .i64 t210, .int .i64 t211] 24 (0, 0)) (by (with_reducible repeat (first | refine zad ?_ _ | refine zab ?_ | refine zac ?_ _)); refine zam ?_ NB217_256.o _; (with_reducible repeat (first | refine zad ?_ _ | refine zab ?_ | refine zac ?_ _)); refine zam ?_ NB217_256.o _; (with_reducible repeat (first | refine zad ?_ _ | refine zab ?_ | refine zac ?_ _)); exact BK217.o) hb); have n3_ := zaa.mk (zaj (g := gb218) (o := .cells #[.int .i64 t212, .int .i64 t213] 24 (0, 0)) (by (with_reducible repeat (first | refine zad ?_ _ | refine zab ?_ | refine zac ?_ _)); refine zam ?_ NB218_256.o _; (with_reducible repeat (first | refine zad ?_ _ | refine zab ?_ | refine zac ?_ _)); refine zam ?_ NB218_256.o _; (with_reducible repeat (first | refine zad ?_ _ | refine zab ?_ | refine zac ?_ _)); exact BK218.o) hb); have n4_ := zaa.mk (zaj (g := gb219) (o := .cells #[.int .i64 t214, .int .i64 t215] 24 (0, 0)) (by (with_reducible repeat (first | refine zad ?_ _ | refine zab ?_ | refine zac ?_ _)); refine zam ?_ NB219_256.o _; (with_reducible repeat (first | refine zad ?_ _ | refine zab ?_ | refine zac ?_ _)); refine zam ?_ NB219_256.o _; (with_reducible repeat (first | refine zad ?_ _ | refine zab ?_ | refine zac ?_ _)); exact BK219.o) hb); have n5_ := zaa.mk (zaj (g := gb244) (o := .cells #[.int .i64 t241, .int .i64 t242] 24 (0, 0)) (by (with_reducible repeat (first | refine zad ?_ _ | refine zab ?_ | refine zac ?_ _)); refine zam ?_ NB244_256.o _; (with_reducible repeat (first | refine zad ?_ _ | refine zab ?_ | refine zac ?_ _)); refine zam ?_ NB244_256.o _; (with_reducible repeat (first | refine zad ?_ _ | refine zab ?_ | refine zac ?_ _)); exact BK244.o) hb); have n6_ := zaa.mk (zaj (g := gb248) (o := .cells #[.int .i64 t245, .int .i64 t246] 24 (0, 0)) (by (with_reducible repeat (first | refine zad ?_ _ | refine zab ?_ | refine zac ?_ _)); refine zam ?_ NB248_256.o _; (with_reducible repeat (first | refine zad ?_ _ | refine zab ?_ | refine zac ?_ _)); refine zam ?_ NB248_256.o _; (with_reducible repeat (first | refine zad ?_ _ | refine zab ?_ | refine zac ?_ _)); exact BK248.o) hb); have n7_ := zaa.mk (zaj (g := gb252) (o := .cells #[.int .i64 t249, .int .i64 t250] 24 (0, 0)) (by (with_reducible repeat (first | refine zad ?_ _ | refine zab ?_ | refine zac ?_ _)); refine zam ?_ NB252_256.o _; (with_reducible repeat (first | refine zad ?_ _ | refine zab ?_ | refine zac ?_ _)); refine zam ?_ NB252_256.o _; (with_reducible repeat (first | refine zad ?_ _ | refine zab ?_ | refine zac ?_ _)); exact BK252.o) hb); have n8_ := zaa.mk (zaj (g := gb256) (o := .cells #[.int .i64 t253, .int .i64 t254] 24 (0, 0)) (by (with_reducible repeat (first | refine zad ?_ _ | refine zab ?_ | refine zac ?_ _)); refine zap (cs := #[.int .i64 t253, .int .i64 0]) ?_ 1 _ rfl; (with_reducible repeat (first | refine zad ?_ _ | refine zab ?_ | refine zac ?_ _)); refine zap (cs := #[.int .i64 0, .int .i64 0]) ?_ 0 _ rfl; (with_reducible repeat (first | refine zad ?_ _ | refine zab ?_ | refine zac ?_ _)); exact BK256.o) hb); have n9_ := zaa.mk (zao (by repeat (first | (with_reducible first | exact HB.o | apply zaf | apply zah | apply zag | refine zae ?_ GE208.o | refine zae ?_ GE216.o | refine zae ?_ GE217.o | refine zae ?_ GE218.o | refine zae ?_ GE219.o | refine zae ?_ GE244.o | refine zae ?_ GE248.o | refine zae ?_ GE252.o | refine zae ?_ GE256.o) | exact HB.o)) hb); clear BK208; clear BK216; clear BK217; clear BK218; clear BK219; clear BK244; clear BK248; clear BK252; clear BK256; clear HB; have BK208 := n0_; have BK216 := n1_; have BK217 := n2_; have BK218 := n3_; have BK219 := n4_; have BK244 := n5_; have BK248 := n6_; have BK252 := n7_; have BK256 := n8_; have HB := n9_; clear n0_ n1_ n2_ n3_ n4_ n5_ n6_ n7_ n8_ n9_; (try clear hb); (try clear hb2); (try clear hk); (try clear hi)) | ((with_reducible refine zaq (N := 26) rfl ?_); refine zar ?hg (N := 26) ?hd (cs := #[.int .i64 0, .int .i64 0]) (t := 24) ?hr ?_; (case hd => rfl); (case hg => rfl); (case hr => first | (go_simp; done) | (go_simp; rfl)); intro gb260 hg w169 hbox hb; have n0_ := zaa.mk (zaj (by (with_reducible repeat (first | refine zad ?_ _ | refine zab ?_ | refine zac ?_ _)); exact BK208.o) hb); have n1_ := zaa.mk (zaj (by (with_reducible repeat (first | refine zad ?_ _ | refine zab ?_ | refine zac ?_ _)); exact BK216.o) hb); have n2_ := zaa.mk (zaj (by (with_reducible repeat (first | refine zad ?_ _ | refine zab ?_ | refine zac ?_ _)); exact BK217.o) hb); have n3_ := zaa.mk (zaj (by (with_reducible repeat (first | refine zad ?_ _ | refine zab ?_ | refine zac ?_ _)); exact BK218.o) hb); have n4_ := zaa.mk (zaj (by (with_reducible repeat (first | refine zad ?_ _ | refine zab ?_ | refine zac ?_ _)); exact BK219.o) hb); have n5_ := zaa.mk (zaj (by (with_reducible repeat (first | refine zad ?_ _ | refine zab ?_ | refine zac ?_ _)); exact BK244.o) hb); have n6_ := zaa.mk (zaj (by (with_reducible repeat (first | refine zad ?_ _ | refine zab ?_ | refine zac ?_ _)); exact BK248.o) hb); have n7_ := zaa.mk (zaj (by (with_reducible repeat (first | refine zad ?_ _ | refine zab ?_ | refine zac ?_ _)); exact BK252.o) hb); have n8_ := zaa.mk (zaj (by (with_reducible repeat (first | refine zad ?_ _ | refine zab ?_ | refine zac ?_ _)); exact BK256.o) hb); have n9_ := zaa.mk (zao (by repeat (first | (with_reducible first | exact HB.o | apply zaf | apply zah | apply zag | refine zae ?_ GE208.o | refine zae ?_ GE216.o | refine zae ?_ GE217.o | refine zae ?_ GE218.o | refine zae ?_ GE219.o | refine zae ?_ GE244.o | refine zae ?_ GE248.o | refine zae ?_ GE252.o | refine zae ?_ GE256.o) | exact HB.o)) hb); have n10_ := zaa.mk (hbox); have n11_ := zaa.mk ((by rw [hg]; exact (zan (by repeat (first | (with_reducible first | exact HB.o | apply zaf | apply zah | apply zag | refine zae ?_ GE208.o | refine zae ?_ GE216.o | refine zae ?_ GE217.o | refine zae ?_ GE218.o | refine zae ?_ GE219.o | refine zae ?_ GE244.o | refine zae ?_ GE248.o | refine zae ?_ GE252.o | refine zae ?_ GE256.o) | exact HB.o))) : w.heap.size ≤ gb260)); have n12_ := zaa.mk ((by rw [hg]; exact (zan (by repeat (first | (with_reducible first | exact HB.o | apply zaf | apply zah | apply zag | refine zae ?_ GE208.o | refine zae ?_ GE216.o | refine zae ?_ GE217.o | refine zae ?_ GE218.o | refine zae ?_ GE219.o | refine zae ?_ GE244.o | refine zae ?_ GE248.o | refine zae ?_ GE252.o | refine zae ?_ GE256.o) | exact HB.o))) : w.heap.size ≤ gb260)); have n13_ := zaa.mk ((by rw [hg]; exact Nat.ne_of_lt (zal (g := gb208) (o := .cells #[.int .i16 a0_0, .int .i16 a0_1, .int .i16 a0_2, .int .i16 a0_3, .int .i16 a0_4, .int .i16 a0_5] 40 (0, 0)) (by (with_reducible repeat (first | refine zad ?_ _ | refine zab ?_ | refine zac ?_ _)); exact BK208.o)) : gb208 ≠ gb260)); have n14_ := zaa.mk ((by rw [hg]; exact Nat.ne_of_gt (zal (g := gb208) (o := .cells #[.int .i16 a0_0, .int .i16 a0_1, .int .i16 a0_2, .int .i16 a0_3, .int .i16 a0_4, .int .i16 a0_5] 40 (0, 0)) (by (with_reducible repeat (first | refine zad ?_ _ | refine zab ?_ | refine zac ?_ _)); exact BK208.o)) : gb260 ≠ gb208)); have n15_ := zaa.mk ((by rw [hg]; exact Nat.ne_of_lt (zal (g := gb216) (o := .cells #[.int .i64 t210, .int .i64 t211, .int .i64 t212, .int .i64 t213, .int .i64 t214, .int .i64 t215] 41 (0, 0)) (by (with_reducible repeat (first | refine zad ?_ _ | refine zab ?_ | refine zac ?_ _)); exact BK216.o)) : gb216 ≠ gb260)); have n16_ := zaa.mk ((by rw [hg]; exact Nat.ne_of_gt (zal (g := gb216) (o := .cells #[.int .i64 t210, .int .i64 t211, .int .i64 t212, .int .i64 t213, .int .i64 t214, .int .i64 t215] 41 (0, 0)) (by (with_reducible repeat (first | refine zad ?_ _ | refine zab ?_ | refine zac ?_ _)); exact BK216.o)) : gb260 ≠ gb216)); have n17_ := zaa.mk ((by rw [hg]; exact Nat.ne_of_lt (zal (g := gb217) (o := .cells #[.int .i64 t210, .int .i64 t211] 24 (0, 0)) (by (with_reducible repeat (first | refine zad ?_ _ | refine zab ?_ | refine zac ?_ _)); exact BK217.o)) : gb217 ≠ gb260)); have n18_ := zaa.mk ((by rw [hg]; exact Nat.ne_of_gt (zal (g := gb217) (o := .cells #[.int .i64 t210, .int .i64 t211] 24 (0, 0)) (by (with_reducible repeat (first | refine zad ?_ _ | refine zab ?_ | refine zac ?_ _)); exact BK217.o)) : gb260 ≠ gb217)); have n19_ := zaa.mk ((by rw [hg]; exact Nat.ne_of_lt (zal (g := gb218) (o := .cells #[.int .i64 t212, .int .i64 t213] 24 (0, 0)) (by (with_reducible repeat (first | refine zad ?_ _ | refine zab ?_ | refine zac ?_ _)); exact BK218.o)) : gb218 ≠ gb260)); have n20_ := zaa.mk ((by rw [hg]; exact Nat.ne_of_gt (zal (g := gb218) (o := .cells #[.int .i64 t212, .int .i64 t213] 24 (0, 0)) (by (with_reducible repeat (first | refine zad ?_ _ | refine zab ?_ | refine zac ?_ _)); exact BK218.o)) : gb260 ≠ gb218)); have n21_ := zaa.mk ((by rw [hg]; exact Nat.ne_of_lt (zal (g := gb219) (o := .cells #[.int .i64 t214, .int .i64 t215] 24 (0, 0)) (by (with_reducible repeat (first | refine zad ?_ _ | refine zab ?_ | refine zac ?_ _)); exact BK219.o)) : gb219 ≠ gb260)); have n22_ := zaa.mk ((by rw [hg]; exact Nat.ne_of_gt (zal (g := gb219) (o := .cells #[.int .i64 t214, .int .i64 t215] 24 (0, 0)) (by (with_reducible repeat (first | refine zad ?_ _ | refine zab ?_ | refine zac ?_ _)); exact BK219.o)) : gb260 ≠ gb219)); have n23_ := zaa.mk ((by rw [hg]; exact Nat.ne_of_lt (zal (g := gb244) (o := .cells #[.int .i64 t241, .int .i64 t242] 24 (0, 0)) (by (with_reducible repeat (first | refine zad ?_ _ | refine zab ?_ | refine zac ?_ _)); exact BK244.o)) : gb244 ≠ gb260)); have n24_ := zaa.mk ((by rw [hg]; exact Nat.ne_of_gt (zal (g := gb244) (o := .cells #[.int .i64 t241, .int .i64 t242] 24 (0, 0)) (by (with_reducible repeat (first | refine zad ?_ _ | refine zab ?_ | refine zac ?_ _)); exact BK244.o)) : gb260 ≠ gb244)); have n25_ := zaa.mk ((by rw [hg]; exact Nat.ne_of_lt (zal (g := gb248) (o := .cells #[.int .i64 t245, .int .i64 t246] 24 (0, 0)) (by (with_reducible repeat (first | refine zad ?_ _ | refine zab ?_ | refine zac ?_ _)); exact BK248.o)) : gb248 ≠ gb260)); have n26_ := zaa.mk ((by rw [hg]; exact Nat.ne_of_gt (zal (g := gb248) (o := .cells #[.int .i64 t245, .int .i64 t246] 24 (0, 0)) (by (with_reducible repeat (first | refine zad ?_ _ | refine zab ?_ | refine zac ?_ _)); exact BK248.o)) : gb260 ≠ gb248)); have n27_ := zaa.mk ((by rw [hg]; exact Nat.ne_of_lt (zal (g := gb252) (o := .cells #[.int .i64 t249, .int .i64 t250] 24 (0, 0)) (by (with_reducible repeat (first | refine zad ?_ _ | refine zab ?_ | refine zac ?_ _)); exact BK252.o)) : gb252 ≠ gb260)); have n28_ := zaa.mk ((by rw [hg]; exact Nat.ne_of_gt (zal (g := gb252) (o := .cells #[.int .i64 t249, .int .i64 t250] 24 (0, 0)) (by (with_reducible repeat (first | refine zad ?_ _ | refine zab ?_ | refine zac ?_ _)); exact BK252.o)) : gb260 ≠ gb252)); have n29_ := zaa.mk ((by rw [hg]; exact Nat.ne_of_lt (zal (g := gb256) (o := .cells #[.int .i64 t253, .int .i64 t254] 24 (0, 0)) (by (with_reducible repeat (first | refine zad ?_ _ | refine zab ?_ | refine zac ?_ _)); exact BK256.o)) : gb256 ≠ gb260)); have n30_ := zaa.mk ((by rw [hg]; exact Nat.ne_of_gt (zal (g := gb256) (o := .cells #[.int .i64 t253, .int .i64 t254] 24 (0, 0)) (by (with_reducible repeat (first | refine zad ?_ _ | refine zab ?_ | refine zac ?_ _)); exact BK256.o)) : gb260 ≠ gb256)); clear BK208; clear BK216; clear BK217; clear BK218; clear BK219; clear BK244; clear BK248; clear BK252; clear BK256; clear HB; have BK208 := n0_; have BK216 := n1_; have BK217 := n2_; have BK218 := n3_; have BK219 := n4_; have BK244 := n5_; have BK248 := n6_; have BK252 := n7_; have BK256 := n8_; have HB := n9_; have BK260 := n10_; have GW260 := n11_; have GE260 := n12_; have NB208_260 := n13_; have NB260_208 := n14_; have NB216_260 := n15_; have NB260_216 := n16_; have NB217_260 := n17_; have NB260_217 := n18_; have NB218_260 := n19_; have NB260_218 := n20_; have NB219_260 := n21_; have NB260_219 := n22_; have NB244_260 := n23_; have NB260_244 := n24_; have NB248_260 := n25_; have NB260_248 := n26_; have NB252_260 := n27_; have NB260_252 := n28_; have NB256_260 := n29_; have NB260_256 := n30_; clear n0_ n1_ n2_ n3_ n4_ n5_ n6_ n7_ n8_ n9_ n10_ n11_ n12_ n13_ n14_ n15_ n16_ n17_ n18_ n19_ n20_ n21_ n22_ n23_ n24_ n25_ n26_ n27_ n28_ n29_ n30_; clear hb hbox hg; have hnb170 := NB260_208.o; have hnc170 := NB208_260.o; have hnb171 := NB260_216.o; have hnc171 := NB216_260.o; have hnb172 := NB260_217.o; have hnc172 := NB217_260.o; have hnb173 := NB260_218.o; have hnc173 := NB218_260.o; have hnb174 := NB260_219.o; have hnc174 := NB219_260.o; have hnb175 := NB260_244.o; have hnc175 := NB244_260.o; have hnb176 := NB260_248.o; have hnc176 := NB248_260.o; have hnb177 := NB260_252.o; have hnc177 := NB252_260.o; have hnb178 := NB260_256.o; have hnc178 := NB256_260.o; obtain ⟨hcz179_0, hcz179_1⟩ := cz2 BK260.o; obtain ⟨hfz179_0, hfz179_1⟩ := fz2 BK260.o; obtain ⟨hcz180_0, hcz180_1⟩ := cz2 BK248.o; obtain ⟨hfz180_0, hfz180_1⟩ := fz2 BK248.o) | ((with_reducible refine zas (f := 22) rfl ?_); refine zat (some 132) rfl rfl Tryd.func22 (by kernel_rfl) rfl #[.agg #[.int .i64 t245, .int .i64 t246], .int .i64 t247, .agg #[.int .i64 t257, .int .i64 t258], .int .i64 t259] rfl (by (try simp only [List.map_toArray, List.map_cons, List.map_nil]); first | done | rfl | (simp only [List.length_drop, List.length_take]; rfl)) ?_; (with_reducible refine (vinculumlaw02_agree.calls t245 t246 t247 t257 t258 t259 t261 _ A112.o).mono ?_); rintro e w181 ⟨rfl, hb⟩; refine ⟨_, rfl, ?_⟩; have n0_ := zaa.mk (zaj (g := gb208) (o := .cells #[.int .i16 a0_0, .int .i16 a0_1, .int .i16 a0_2, .int .i16 a0_3, .int .i16 a0_4, .int .i16 a0_5] 40 (0, 0)) (by (with_reducible repeat (first | refine zad ?_ _ | refine zab ?_ | refine zac ?_ _)); refine zam ?_ NB208_260.o _; (with_reducible repeat (first | refine zad ?_ _ | refine zab ?_ | refine zac ?_ _)); refine zam ?_ NB208_260.o _; (with_reducible repeat (first | refine zad ?_ _ | refine zab ?_ | refine zac ?_ _)); exact BK208.o) hb); have n1_ := zaa.mk (zaj (g := gb216) (o := .cells #[.int .i64 t210, .int .i64 t211, .int .i64 t212, .int .i64 t213, .int .i64 t214, .int .i64 t215] 41 (0, 0)) (by (with_reducible repeat (first | refine zad ?_ _ | refine zab ?_ | refine zac ?_ _)); refine zam ?_ NB216_260.o _; (with_reducible repeat (first | refine zad ?_ _ | refine zab ?_ | refine zac ?_ _)); refine zam ?_ NB216_260.o _; (with_reducible repeat (first | refine zad ?_ _ | refine zab ?_ | refine zac ?_ _)); exact BK216.o) hb); have n2_ := zaa.mk (zaj (g := gb217) (o := .cells #[.int .i64 t210, .int .i64 t211] 24 (0, 0)) (by (with_reducible repeat (first | refine zad ?_ _ | refine zab ?_ | refine zac ?_ _)); refine zam ?_ NB217_260.o _; (with_reducible repeat (first | refine zad ?_ _ | refine zab ?_ | refine zac ?_ _)); refine zam ?_ NB217_260.o _; (with_reducible repeat (first | refine zad ?_ _ | refine zab ?_ | refine zac ?_ _)); exact BK217.o) hb); have n3_ := zaa.mk (zaj (g := gb218) (o := .cells #[.int .i64 t212, .int .i64 t213] 24 (0, 0)) (by (with_reducible repeat (first | refine zad ?_ _ | refine zab ?_ | refine zac ?_ _)); refine zam ?_ NB218_260.o _; (with_reducible repeat (first | refine zad ?_ _ | refine zab ?_ | refine zac ?_ _)); refine zam ?_ NB218_260.o _; (with_reducible repeat (first | refine zad ?_ _ | refine zab ?_ | refine zac ?_ _)); exact BK218.o) hb); have n4_ := zaa.mk (zaj (g := gb219) (o := .cells #[.int .i64 t214, .int .i64 t215] 24 (0, 0)) (by (with_reducible repeat (first | refine zad ?_ _ | refine zab ?_ | refine zac ?_ _)); refine zam ?_ NB219_260.o _; (with_reducible repeat (first | refine zad ?_ _ | refine zab ?_ | refine zac ?_ _)); refine zam ?_ NB219_260.o _; (with_reducible repeat (first | refine zad ?_ _ | refine zab ?_ | refine zac ?_ _)); exact BK219.o) hb); have n5_ := zaa.mk (zaj (g := gb244) (o := .cells #[.int .i64 t241, .int .i64 t242] 24 (0, 0)) (by (with_reducible repeat (first | refine zad ?_ _ | refine zab ?_ | refine zac ?_ _)); refine zam ?_ NB244_260.o _; (with_reducible repeat (first | refine zad ?_ _ | refine zab ?_ | refine zac ?_ _)); refine zam ?_ NB244_260.o _; (with_reducible repeat (first | refine zad ?_ _ | refine zab ?_ | refine zac ?_ _)); exact BK244.o) hb); have n6_ := zaa.mk (zaj (g := gb248) (o := .cells #[.int .i64 t245, .int .i64 t246] 24 (0, 0)) (by (with_reducible repeat (first | refine zad ?_ _ | refine zab ?_ | refine zac ?_ _)); refine zam ?_ NB248_260.o _; (with_reducible repeat (first | refine zad ?_ _ | refine zab ?_ | refine zac ?_ _)); refine zam ?_ NB248_260.o _; (with_reducible repeat (first | refine zad ?_ _ | refine zab ?_ | refine zac ?_ _)); exact BK248.o) hb); have n7_ := zaa.mk (zaj (g := gb252) (o := .cells #[.int .i64 t249, .int .i64 t250] 24 (0, 0)) (by (with_reducible repeat (first | refine zad ?_ _ | refine zab ?_ | refine zac ?_ _)); refine zam ?_ NB252_260.o _; (with_reducible repeat (first | refine zad ?_ _ | refine zab ?_ | refine zac ?_ _)); refine zam ?_ NB252_260.o _; (with_reducible repeat (first | refine zad ?_ _ | refine zab ?_ | refine zac ?_ _)); exact BK252.o) hb); have n8_ := zaa.mk (zaj (g := gb256) (o := .cells #[.int .i64 t253, .int .i64 t254] 24 (0, 0)) (by (with_reducible repeat (first | refine zad ?_ _ | refine zab ?_ | refine zac ?_ _)); refine zam ?_ NB256_260.o _; (with_reducible repeat (first | refine zad ?_ _ | refine zab ?_ | refine zac ?_ _)); refine zam ?_ NB256_260.o _; (with_reducible repeat (first | refine zad ?_ _ | refine zab ?_ | refine zac ?_ _)); exact BK256.o) hb); have n9_ := zaa.mk (zaj (g := gb260) (o := .cells #[.int .i64 t257, .int .i64 t258] 24 (0, 0)) (by (with_reducible repeat (first | refine zad ?_ _ | refine zab ?_ | refine zac ?_ _)); refine zap (cs := #[.int .i64 t257, .int .i64 0]) ?_ 1 _ rfl; (with_reducible repeat (first | refine zad ?_ _ | refine zab ?_ | refine zac ?_ _)); refine zap (cs := #[.int .i64 0, .int .i64 0]) ?_ 0 _ rfl; (with_reducible repeat (first | refine zad ?_ _ | refine zab ?_ | refine zac ?_ _)); exact BK260.o) hb); have n10_ := zaa.mk (zao (by repeat (first | (with_reducible first | exact HB.o | apply zaf | apply zah | apply zag | refine zae ?_ GE208.o | refine zae ?_ GE216.o | refine zae ?_ GE217.o | refine zae ?_ GE218.o | refine zae ?_ GE219.o | refine zae ?_ GE244.o | refine zae ?_ GE248.o | refine zae ?_ GE252.o | refine zae ?_ GE256.o | refine zae ?_ GE260.o) | exact HB.o)) hb); clear BK208; clear BK216; clear BK217; clear BK218; clear BK219; clear BK244; clear BK248; clear BK252; clear BK256; clear BK260; clear HB; have BK208 := n0_; have BK216 := n1_; have BK217 := n2_; have BK218 := n3_; have BK219 := n4_; have BK244 := n5_; have BK248 := n6_; have BK252 := n7_; have BK256 := n8_; have BK260 := n9_; have HB := n10_; clear n0_ n1_ n2_ n3_ n4_ n5_ n6_ n7_ n8_ n9_ n10_; (try clear hb); (try clear hb2); (try clear hk); (try clear hi)))
     go_ret
     exact ⟨by first | rfl | (simp [errW_none, errW_some] <;> rfl) | (simp [*, errW_none, errW_some] <;> rfl), by repeat (first | (with_reducible first | exact HB.o | apply zaf | apply zah | apply zag | refine zae ?_ GE208.o | refine zae ?_ GE216.o | refine zae ?_ GE217.o | refine zae ?_ GE218.o | refine zae ?_ GE219.o | refine zae ?_ GE244.o | refine zae ?_ GE248.o | refine zae ?_ GE252.o | refine zae ?_ GE256.o | refine zae ?_ GE260.o) | exact HB.o)⟩
 ·replace c3 := Bool.eq_false_iff.mpr c3
  subst c3
  have H1 : (none) = some r := by rw [if_neg (show ¬ (false = true) by decide)] at H; exact H
  clear H
  have H := H1
  clear H1
  exact absurd H (by simp)

end Go.Proofs.YtoieknocpphjoaaDoor.P
