--m
/- Written by wip/tool/hprint.py (the kit's print.py with hand-proved contracts set in): contracts of the functions that the statements of this seat reach, without conditions beyond those named in each theorem. -/
import Derived.Test.YtoieknocpphjoaaDoorP0
import Derived.Test.YtoieknocpphjoaaDoorP1
import Derived.Test.YtoieknocpphjoaaDoorP7
import Derived.Test.YtoieknocpphjoaaDoorP9
import Derived.Test.YtoieknocpphjoaaDoorP19
import Derived.Test.YtoieknocpphjoaaDoorP20
import Derived.Test.YtoieknocpphjoaaDoorP21
import Derived.Test.YtoieknocpphjoaaDoorP22
import Derived.Test.YtoieknocpphjoaaDoorP23
namespace Go.Proofs.YtoieknocpphjoaaDoor.P
open Go.RowKit Go.Proofs.YtoieknocpphjoaaDoorW.PrintWords Go.Proofs.YtoieknocpphjoaaDoorW.PrintLast Go.Proofs.YtoieknocpphjoaaDoorW.PrintMore
attribute [local go_sem] zax zay zaz zaA zaB zaC zaD zaE   -- for this text's walks alone
set_option linter.unusedVariables false
set_option linter.unusedSimpArgs false

attribute [local go_sem high] eqA24
/-! ### vinculumlaw02_RationalUndo: function 5 -/
mutual
def vinculumlaw02_RationalUndo.j0 : Nat → Int → Int → Int → Int → Option (Bool)
 | 0, _, _, _, _ => none
 | k + 1, x272000, x272001, x273000, x273001 => (rational_Mul.f k x272000 x272001 x273000 x273001).bind fun bt281 => (if bt281.2.2 = 0 then (vinculumlaw02_RationalUndo.j1 k (x273000 != 0) x272000 x272001 x273000 x273001 bt281.1 bt281.2.1) else (vinculumlaw02_RationalUndo.j1 k false x272000 x272001 x273000 x273001 bt281.1 bt281.2.1))
def vinculumlaw02_RationalUndo.j1 : Nat → Bool → Int → Int → Int → Int → Int → Int → Option (Bool)
 | 0, _, _, _, _, _, _, _ => none
 | k + 1, x55, x272000, x272001, x273000, x273001, x285000, x285001 => if x55 = true then ((rational_Div.f k x285000 x285001 x273000 x273001).bind fun bt285 => (if bt285.2.2 = 0 then (if (!(bt285.1 == x272000) || (!(bt285.2.1 == x272001))) = true then (none) else (some true)) else (none))) else (some true)
end
def vinculumlaw02_RationalUndo.f (k : Nat) (a0_0 : Int) (a0_1 : Int) (a0_2 : Int) (a0_3 : Int) (a0_4 : Int) (a0_5 : Int) : Option (Bool) := (vinculumlaw02_awake.f k).bind fun t263 => (if t263 = true then ((vinculumlaw02_numbers.f k a0_0 a0_1 a0_2 a0_3 a0_4 a0_5).bind fun bt264 => ((rational_Add.f k bt264.1 bt264.2.1 bt264.2.2.1 bt264.2.2.2.1).bind fun bt273 => (if bt273.2.2 = 0 then ((rational_Sub.f k bt273.1 bt273.2.1 bt264.2.2.1 bt264.2.2.2.1).bind fun bt277 => (if bt277.2.2 = 0 then (if (!(bt277.1 == bt264.1) || (!(bt277.2.1 == bt264.2.1))) = true then (none) else (vinculumlaw02_RationalUndo.j0 k bt264.1 bt264.2.1 bt264.2.2.1 bt264.2.2.2.1)) else (none))) else (vinculumlaw02_RationalUndo.j0 k bt264.1 bt264.2.1 bt264.2.2.1 bt264.2.2.2.1)))) else (none))
theorem vinculumlaw02_RationalUndo.mono_l : ∀ k, (∀ y0 y1 y2 y3, LeO (vinculumlaw02_RationalUndo.j0 k y0 y1 y2 y3) (vinculumlaw02_RationalUndo.j0 (k + 1) y0 y1 y2 y3)) ∧ (∀ y0 y1 y2 y3 y4 y5 y6, LeO (vinculumlaw02_RationalUndo.j1 k y0 y1 y2 y3 y4 y5 y6) (vinculumlaw02_RationalUndo.j1 (k + 1) y0 y1 y2 y3 y4 y5 y6))
 | 0 => ⟨fun _ _ _ _ r h => by simp [vinculumlaw02_RationalUndo.j0] at h, fun _ _ _ _ _ _ _ r h => by simp [vinculumlaw02_RationalUndo.j1] at h⟩
 | k + 1 => by
  obtain ⟨ih0, ih1⟩ := vinculumlaw02_RationalUndo.mono_l k
  refine ⟨?_, ?_⟩
  ·intro y0 y1 y2 y3
   unfold vinculumlaw02_RationalUndo.j0
   repeat' first
   | (with_reducible exact ih0 _ _ _ _)
   | (with_reducible exact ih1 _ _ _ _ _ _ _)
   | (with_reducible exact rational_Add.mono _ _ _ _ _)
   | (with_reducible exact rational_Div.mono _ _ _ _ _)
   | (with_reducible exact rational_Mul.mono _ _ _ _ _)
   | (with_reducible exact rational_Sub.mono _ _ _ _ _)
   | (with_reducible exact vinculumlaw02_awake.mono _)
   | (with_reducible exact vinculumlaw02_numbers.mono _ _ _ _ _ _ _)
   | (with_reducible exact LeO.refl _)
   | (with_reducible exact LeO.none _)
   | (with_reducible refine LeO.ite ?_ ?_)
   | (with_reducible refine LeO.bind ?_ (fun _ => ?_))
   | exact ih0 _ _ _ _
   | exact ih1 _ _ _ _ _ _ _
   | exact rational_Add.mono _ _ _ _ _
   | exact rational_Div.mono _ _ _ _ _
   | exact rational_Mul.mono _ _ _ _ _
   | exact rational_Sub.mono _ _ _ _ _
   | exact vinculumlaw02_awake.mono _
   | exact vinculumlaw02_numbers.mono _ _ _ _ _ _ _
   | exact LeO.none _
   | refine LeO.ite ?_ ?_
   | refine LeO.bind ?_ (fun _ => ?_)
  ·intro y0 y1 y2 y3 y4 y5 y6
   unfold vinculumlaw02_RationalUndo.j1
   repeat' first
   | (with_reducible exact ih0 _ _ _ _)
   | (with_reducible exact ih1 _ _ _ _ _ _ _)
   | (with_reducible exact rational_Add.mono _ _ _ _ _)
   | (with_reducible exact rational_Div.mono _ _ _ _ _)
   | (with_reducible exact rational_Mul.mono _ _ _ _ _)
   | (with_reducible exact rational_Sub.mono _ _ _ _ _)
   | (with_reducible exact vinculumlaw02_awake.mono _)
   | (with_reducible exact vinculumlaw02_numbers.mono _ _ _ _ _ _ _)
   | (with_reducible exact LeO.refl _)
   | (with_reducible exact LeO.none _)
   | (with_reducible refine LeO.ite ?_ ?_)
   | (with_reducible refine LeO.bind ?_ (fun _ => ?_))
   | exact ih0 _ _ _ _
   | exact ih1 _ _ _ _ _ _ _
   | exact rational_Add.mono _ _ _ _ _
   | exact rational_Div.mono _ _ _ _ _
   | exact rational_Mul.mono _ _ _ _ _
   | exact rational_Sub.mono _ _ _ _ _
   | exact vinculumlaw02_awake.mono _
   | exact vinculumlaw02_numbers.mono _ _ _ _ _ _ _
   | exact LeO.none _
   | refine LeO.ite ?_ ?_
   | refine LeO.bind ?_ (fun _ => ?_)
theorem vinculumlaw02_RationalUndo.mono : ∀ a0 a1 a2 a3 a4 a5 k, LeO (vinculumlaw02_RationalUndo.f k a0 a1 a2 a3 a4 a5) (vinculumlaw02_RationalUndo.f (k + 1) a0 a1 a2 a3 a4 a5) := by
 intro a0 a1 a2 a3 a4 a5 k
 obtain ⟨ih0, ih1⟩ := vinculumlaw02_RationalUndo.mono_l k
 unfold vinculumlaw02_RationalUndo.f
 repeat' first
   | (with_reducible exact ih0 _ _ _ _)
   | (with_reducible exact ih1 _ _ _ _ _ _ _)
   | (with_reducible exact rational_Add.mono _ _ _ _ _)
   | (with_reducible exact rational_Div.mono _ _ _ _ _)
   | (with_reducible exact rational_Mul.mono _ _ _ _ _)
   | (with_reducible exact rational_Sub.mono _ _ _ _ _)
   | (with_reducible exact vinculumlaw02_awake.mono _)
   | (with_reducible exact vinculumlaw02_numbers.mono _ _ _ _ _ _ _)
   | (with_reducible exact LeO.refl _)
   | (with_reducible exact LeO.none _)
   | (with_reducible refine LeO.ite ?_ ?_)
   | (with_reducible refine LeO.bind ?_ (fun _ => ?_))
   | exact ih0 _ _ _ _
   | exact ih1 _ _ _ _ _ _ _
   | exact rational_Add.mono _ _ _ _ _
   | exact rational_Div.mono _ _ _ _ _
   | exact rational_Mul.mono _ _ _ _ _
   | exact rational_Sub.mono _ _ _ _ _
   | exact vinculumlaw02_awake.mono _
   | exact vinculumlaw02_numbers.mono _ _ _ _ _ _ _
   | exact LeO.none _
   | refine LeO.ite ?_ ?_
   | refine LeO.bind ?_ (fun _ => ?_)
def vinculumlaw02_RationalUndo.T4 : Bool × List (List Nat × List Nat) := (true, [([], []), ([0], [0]), ([], []), ([2], [2]), ([], []), ([], []), ([4, 1, 0, 1, 4, 5], [1, 4]), ([5, 3, 6, 0, 1, 2, 3, 4, 5, 6], [3, 5])])
def vinculumlaw02_RationalUndo.B4 : List Nat := [0, 1, 0, 4, 0, 0, 51, 127]
theorem vinculumlaw02_RationalUndo.tab4 : rtab .any (opsOf Tryd.f5 4) = vinculumlaw02_RationalUndo.T4 := by kernel_rfl
theorem vinculumlaw02_RationalUndo.bits4 : waitsOk vinculumlaw02_RationalUndo.T4.2 vinculumlaw02_RationalUndo.B4 = true := by kernel_rfl
set_option maxHeartbeats 8000000 in
set_option maxRecDepth 100000 in
theorem vinculumlaw02_RationalUndo.calls (k : Nat) (a0_0 : Int) (a0_1 : Int) (a0_2 : Int) (a0_3 : Int) (a0_4 : Int) (a0_5 : Int) (r : Bool) (w : World) (htab : TB w) (h : vinculumlaw02_RationalUndo.f k a0_0 a0_1 a0_2 a0_3 a0_4 a0_5 = some r) :
  Calls Tryd.prog 5 #[.agg #[.int .i16 a0_0, .int .i16 a0_1, .int .i16 a0_2, .int .i16 a0_3, .int .i16 a0_4, .int .i16 a0_5]] w fun e w' => e = .returned (.bool r) ∧ Below w.heap.size w w' := by
 have hu40 := Tryd.underlying40
 have hu41 := Tryd.underlying41
 have hu24 := Tryd.underlying24
 have HB := zaa.mk (Below.refl w.heap.size w)
 have HT9 := zaa.mk htab.stays
 clear htab
 have H : ((vinculumlaw02_awake.f k).bind fun t263 => (if t263 = true then ((vinculumlaw02_numbers.f k a0_0 a0_1 a0_2 a0_3 a0_4 a0_5).bind fun bt264 => ((rational_Add.f k bt264.1 bt264.2.1 bt264.2.2.1 bt264.2.2.2.1).bind fun bt273 => (if bt273.2.2 = 0 then ((rational_Sub.f k bt273.1 bt273.2.1 bt264.2.2.1 bt264.2.2.2.1).bind fun bt277 => (if bt277.2.2 = 0 then (if (!(bt277.1 == bt264.1) || (!(bt277.2.1 == bt264.2.1))) = true then (none) else (vinculumlaw02_RationalUndo.j0 k bt264.1 bt264.2.1 bt264.2.2.1 bt264.2.2.2.1)) else (none))) else (vinculumlaw02_RationalUndo.j0 k bt264.1 bt264.2.1 bt264.2.2.1 bt264.2.2.2.1)))) else (none))) = some r := h
 clear h
 replace H := Option.bind_eq_some_iff.mp H
 obtain ⟨t263, A20, H⟩ := H
 replace H : (if t263 = true then ((vinculumlaw02_numbers.f k a0_0 a0_1 a0_2 a0_3 a0_4 a0_5).bind fun bt264 => ((rational_Add.f k bt264.1 bt264.2.1 bt264.2.2.1 bt264.2.2.2.1).bind fun bt273 => (if bt273.2.2 = 0 then ((rational_Sub.f k bt273.1 bt273.2.1 bt264.2.2.1 bt264.2.2.2.1).bind fun bt277 => (if bt277.2.2 = 0 then (if (!(bt277.1 == bt264.1) || (!(bt277.2.1 == bt264.2.1))) = true then (none) else (vinculumlaw02_RationalUndo.j0 k bt264.1 bt264.2.1 bt264.2.2.1 bt264.2.2.2.1)) else (none))) else (vinculumlaw02_RationalUndo.j0 k bt264.1 bt264.2.1 bt264.2.2.1 bt264.2.2.2.1)))) else (none)) = some r := H
 have A2 := zaa.mk A20
 clear A20
 by_cases c3 : t263 = true
 ·subst c3
  have H1 : ((vinculumlaw02_numbers.f k a0_0 a0_1 a0_2 a0_3 a0_4 a0_5).bind fun bt264 => ((rational_Add.f k bt264.1 bt264.2.1 bt264.2.2.1 bt264.2.2.2.1).bind fun bt273 => (if bt273.2.2 = 0 then ((rational_Sub.f k bt273.1 bt273.2.1 bt264.2.2.1 bt264.2.2.2.1).bind fun bt277 => (if bt277.2.2 = 0 then (if (!(bt277.1 == bt264.1) || (!(bt277.2.1 == bt264.2.1))) = true then (none) else (vinculumlaw02_RationalUndo.j0 k bt264.1 bt264.2.1 bt264.2.2.1 bt264.2.2.2.1)) else (none))) else (vinculumlaw02_RationalUndo.j0 k bt264.1 bt264.2.1 bt264.2.2.1 bt264.2.2.2.1)))) = some r := by rw [if_pos rfl] at H; exact H
  clear H
  have H := H1
  clear H1
  replace H := Option.bind_eq_some_iff.mp H
  obtain ⟨⟨t264, t265, t266, t267, t268, t269⟩, A40, H⟩ := H
  replace H : ((rational_Add.f k t264 t265 t266 t267).bind fun bt273 => (if bt273.2.2 = 0 then ((rational_Sub.f k bt273.1 bt273.2.1 t266 t267).bind fun bt277 => (if bt277.2.2 = 0 then (if (!(bt277.1 == t264) || (!(bt277.2.1 == t265))) = true then (none) else (vinculumlaw02_RationalUndo.j0 k t264 t265 t266 t267)) else (none))) else (vinculumlaw02_RationalUndo.j0 k t264 t265 t266 t267))) = some r := H
  have A4 := zaa.mk A40
  clear A40
  replace H := Option.bind_eq_some_iff.mp H
  obtain ⟨⟨t273, t274, t275⟩, A50, H⟩ := H
  replace H : (if t275 = 0 then ((rational_Sub.f k t273 t274 t266 t267).bind fun bt277 => (if bt277.2.2 = 0 then (if (!(bt277.1 == t264) || (!(bt277.2.1 == t265))) = true then (none) else (vinculumlaw02_RationalUndo.j0 k t264 t265 t266 t267)) else (none))) else (vinculumlaw02_RationalUndo.j0 k t264 t265 t266 t267)) = some r := H
  have A5 := zaa.mk A50
  clear A50
  have HC6 := zaa.mk H
  clear H
  go_enter Tryd.func5, Tryd.ntmps5
  try go_wp2_with (first | ((with_reducible refine zaq (N := 1) rfl ?_); refine zar ?hg (N := 1) ?hd (cs := #[.int .i16 a0_0, .int .i16 a0_1, .int .i16 a0_2, .int .i16 a0_3, .int .i16 a0_4, .int .i16 a0_5]) (t := 40) ?hr ?_; (case hd => rfl); (case hg => rfl); (case hr => first | (go_simp; done) | (go_simp; rfl)); intro gb262 hg w7 hbox hb; have n0_ := zaa.mk (zao (by repeat (first | (with_reducible first | exact HB.o | apply zaf | apply zah | apply zag) | exact HB.o)) hb); have n1_ := zaa.mk (hbox); have n2_ := zaa.mk ((by rw [hg]; exact (zan (by repeat (first | (with_reducible first | exact HB.o | apply zaf | apply zah | apply zag) | exact HB.o))) : w.heap.size ≤ gb262)); have n3_ := zaa.mk ((by rw [hg]; exact (zan (by repeat (first | (with_reducible first | exact HB.o | apply zaf | apply zah | apply zag) | exact HB.o))) : w.heap.size ≤ gb262)); clear HB; have HB := n0_; have BK262 := n1_; have GW262 := n2_; have GE262 := n3_; clear n0_ n1_ n2_ n3_; clear hb hbox hg) | ((with_reducible refine zas (f := 12) rfl ?_); refine zat (some 14) rfl rfl Tryd.func12 (by kernel_rfl) rfl #[] rfl (by (try simp only [List.map_toArray, List.map_cons, List.map_nil]); first | done | rfl | (simp only [List.length_drop, List.length_take]; rfl)) ?_; (with_reducible refine (vinculumlaw02_awake.calls k  true _ (HT9.out _ (by repeat (first | (with_reducible first | exact HB.o | apply zaf | apply zah | apply zag | refine zae ?_ GE262.o) | exact HB.o))) A2.o).mono ?_); rintro e w8 ⟨rfl, hb⟩; refine ⟨_, rfl, ?_⟩; have n0_ := zaa.mk (zaj (by (with_reducible repeat (first | refine zad ?_ _ | refine zab ?_ | refine zac ?_ _)); exact BK262.o) hb); have n1_ := zaa.mk (zao (by repeat (first | (with_reducible first | exact HB.o | apply zaf | apply zah | apply zag | refine zae ?_ GE262.o) | exact HB.o)) hb); clear BK262; clear HB; have BK262 := n0_; have HB := n1_; clear n0_ n1_; (try clear hb); (try clear hb2); (try clear hk); (try clear hi); obtain ⟨hcz9_0, hcz9_1, hcz9_2, hcz9_3, hcz9_4, hcz9_5⟩ := cz6 BK262.o; obtain ⟨hfz9_0, hfz9_1, hfz9_2, hfz9_3, hfz9_4, hfz9_5⟩ := fz6 BK262.o) | ((with_reducible refine zas (f := 20) rfl ?_); refine zat (some 17) rfl rfl Tryd.func20 (by kernel_rfl) rfl #[.agg #[.int .i16 a0_0, .int .i16 a0_1, .int .i16 a0_2, .int .i16 a0_3, .int .i16 a0_4, .int .i16 a0_5]] rfl (by (try simp only [List.map_toArray, List.map_cons, List.map_nil]); first | done | rfl | (simp only [List.length_drop, List.length_take]; rfl)) ?_; (with_reducible refine (vinculumlaw02_numbers.calls k a0_0 a0_1 a0_2 a0_3 a0_4 a0_5 t264 t265 t266 t267 t268 t269 _ A4.o).mono ?_); rintro e w10 ⟨rfl, hb⟩; refine ⟨_, rfl, ?_⟩; have n0_ := zaa.mk (zaj (by (with_reducible repeat (first | refine zad ?_ _ | refine zab ?_ | refine zac ?_ _)); exact BK262.o) hb); have n1_ := zaa.mk (zao (by repeat (first | (with_reducible first | exact HB.o | apply zaf | apply zah | apply zag | refine zae ?_ GE262.o) | exact HB.o)) hb); clear BK262; clear HB; have BK262 := n0_; have HB := n1_; clear n0_ n1_; (try clear hb); (try clear hb2); (try clear hk); (try clear hi)) | ((with_reducible refine zaq (N := 3) rfl ?_); refine zar ?hg (N := 3) ?hd (cs := #[.int .i64 0, .int .i64 0, .int .i64 0, .int .i64 0, .int .i64 0, .int .i64 0]) (t := 41) ?hr ?_; (case hd => rfl); (case hg => rfl); (case hr => first | (go_simp; done) | (go_simp; rfl)); intro gb270 hg w11 hbox hb; have n0_ := zaa.mk (zaj (by (with_reducible repeat (first | refine zad ?_ _ | refine zab ?_ | refine zac ?_ _)); exact BK262.o) hb); have n1_ := zaa.mk (zao (by repeat (first | (with_reducible first | exact HB.o | apply zaf | apply zah | apply zag | refine zae ?_ GE262.o) | exact HB.o)) hb); have n2_ := zaa.mk (hbox); have n3_ := zaa.mk ((by rw [hg]; exact (zan (by repeat (first | (with_reducible first | exact HB.o | apply zaf | apply zah | apply zag | refine zae ?_ GE262.o) | exact HB.o))) : w.heap.size ≤ gb270)); have n4_ := zaa.mk ((by rw [hg]; exact (zan (by repeat (first | (with_reducible first | exact HB.o | apply zaf | apply zah | apply zag | refine zae ?_ GE262.o) | exact HB.o))) : w.heap.size ≤ gb270)); have n5_ := zaa.mk ((by rw [hg]; exact Nat.ne_of_lt (zal (g := gb262) (o := .cells #[.int .i16 a0_0, .int .i16 a0_1, .int .i16 a0_2, .int .i16 a0_3, .int .i16 a0_4, .int .i16 a0_5] 40 (0, 0)) (by (with_reducible repeat (first | refine zad ?_ _ | refine zab ?_ | refine zac ?_ _)); exact BK262.o)) : gb262 ≠ gb270)); have n6_ := zaa.mk ((by rw [hg]; exact Nat.ne_of_gt (zal (g := gb262) (o := .cells #[.int .i16 a0_0, .int .i16 a0_1, .int .i16 a0_2, .int .i16 a0_3, .int .i16 a0_4, .int .i16 a0_5] 40 (0, 0)) (by (with_reducible repeat (first | refine zad ?_ _ | refine zab ?_ | refine zac ?_ _)); exact BK262.o)) : gb270 ≠ gb262)); clear BK262; clear HB; have BK262 := n0_; have HB := n1_; have BK270 := n2_; have GW270 := n3_; have GE270 := n4_; have NB262_270 := n5_; have NB270_262 := n6_; clear n0_ n1_ n2_ n3_ n4_ n5_ n6_; clear hb hbox hg; have hnb12 := NB270_262.o; have hnc12 := NB262_270.o; obtain ⟨hcz13_0, hcz13_1, hcz13_2, hcz13_3, hcz13_4, hcz13_5⟩ := cz6 BK270.o; obtain ⟨hfz13_0, hfz13_1, hfz13_2, hfz13_3, hfz13_4, hfz13_5⟩ := fz6 BK270.o))
  have n0_ : zaa (((((((w11.setCell ⟨gb270, 0, none⟩ (.int .i64 t264)).setCell ⟨gb270, 1, none⟩ (.int .i64 t265)).setCell ⟨gb270, 2, none⟩ (.int .i64 t266)).setCell ⟨gb270, 3, none⟩ (.int .i64 t267)).setCell ⟨gb270, 4, none⟩ (.int .i64 t268)).setCell ⟨gb270, 5, none⟩ (.int .i64 t269)).heap[gb262]? = some (.cells #[.int .i16 a0_0, .int .i16 a0_1, .int .i16 a0_2, .int .i16 a0_3, .int .i16 a0_4, .int .i16 a0_5] 40 (0, 0))) := ⟨by (with_reducible repeat (first | refine zad ?_ _ | refine zab ?_ | refine zac ?_ _)); refine zam ?_ NB262_270.o _; (with_reducible repeat (first | refine zad ?_ _ | refine zab ?_ | refine zac ?_ _)); refine zam ?_ NB262_270.o _; (with_reducible repeat (first | refine zad ?_ _ | refine zab ?_ | refine zac ?_ _)); refine zam ?_ NB262_270.o _; (with_reducible repeat (first | refine zad ?_ _ | refine zab ?_ | refine zac ?_ _)); refine zam ?_ NB262_270.o _; (with_reducible repeat (first | refine zad ?_ _ | refine zab ?_ | refine zac ?_ _)); refine zam ?_ NB262_270.o _; (with_reducible repeat (first | refine zad ?_ _ | refine zab ?_ | refine zac ?_ _)); refine zam ?_ NB262_270.o _; (with_reducible repeat (first | refine zad ?_ _ | refine zab ?_ | refine zac ?_ _)); exact BK262.o⟩
  have n1_ : zaa (((((((w11.setCell ⟨gb270, 0, none⟩ (.int .i64 t264)).setCell ⟨gb270, 1, none⟩ (.int .i64 t265)).setCell ⟨gb270, 2, none⟩ (.int .i64 t266)).setCell ⟨gb270, 3, none⟩ (.int .i64 t267)).setCell ⟨gb270, 4, none⟩ (.int .i64 t268)).setCell ⟨gb270, 5, none⟩ (.int .i64 t269)).heap[gb270]? = some (.cells #[.int .i64 t264, .int .i64 t265, .int .i64 t266, .int .i64 t267, .int .i64 t268, .int .i64 t269] 41 (0, 0))) := ⟨by (with_reducible repeat (first | refine zad ?_ _ | refine zab ?_ | refine zac ?_ _)); refine zap (cs := #[.int .i64 t264, .int .i64 t265, .int .i64 t266, .int .i64 t267, .int .i64 t268, .int .i64 0]) ?_ 5 _ rfl; (with_reducible repeat (first | refine zad ?_ _ | refine zab ?_ | refine zac ?_ _)); refine zap (cs := #[.int .i64 t264, .int .i64 t265, .int .i64 t266, .int .i64 t267, .int .i64 0, .int .i64 0]) ?_ 4 _ rfl; (with_reducible repeat (first | refine zad ?_ _ | refine zab ?_ | refine zac ?_ _)); refine zap (cs := #[.int .i64 t264, .int .i64 t265, .int .i64 t266, .int .i64 0, .int .i64 0, .int .i64 0]) ?_ 3 _ rfl; (with_reducible repeat (first | refine zad ?_ _ | refine zab ?_ | refine zac ?_ _)); refine zap (cs := #[.int .i64 t264, .int .i64 t265, .int .i64 0, .int .i64 0, .int .i64 0, .int .i64 0]) ?_ 2 _ rfl; (with_reducible repeat (first | refine zad ?_ _ | refine zab ?_ | refine zac ?_ _)); refine zap (cs := #[.int .i64 t264, .int .i64 0, .int .i64 0, .int .i64 0, .int .i64 0, .int .i64 0]) ?_ 1 _ rfl; (with_reducible repeat (first | refine zad ?_ _ | refine zab ?_ | refine zac ?_ _)); refine zap (cs := #[.int .i64 0, .int .i64 0, .int .i64 0, .int .i64 0, .int .i64 0, .int .i64 0]) ?_ 0 _ rfl; (with_reducible repeat (first | refine zad ?_ _ | refine zab ?_ | refine zac ?_ _)); exact BK270.o⟩
  have n2_ : zaa (Below w.heap.size w ((((((w11.setCell ⟨gb270, 0, none⟩ (.int .i64 t264)).setCell ⟨gb270, 1, none⟩ (.int .i64 t265)).setCell ⟨gb270, 2, none⟩ (.int .i64 t266)).setCell ⟨gb270, 3, none⟩ (.int .i64 t267)).setCell ⟨gb270, 4, none⟩ (.int .i64 t268)).setCell ⟨gb270, 5, none⟩ (.int .i64 t269))) := ⟨by repeat (first | (with_reducible first | exact HB.o | apply zaf | apply zah | apply zag | refine zae ?_ GE262.o | refine zae ?_ GE270.o) | exact HB.o)⟩
  (try clear BK262)
  (try clear BK270)
  (try clear HB)
  generalize ((((((w11.setCell ⟨gb270, 0, none⟩ (.int .i64 t264)).setCell ⟨gb270, 1, none⟩ (.int .i64 t265)).setCell ⟨gb270, 2, none⟩ (.int .i64 t266)).setCell ⟨gb270, 3, none⟩ (.int .i64 t267)).setCell ⟨gb270, 4, none⟩ (.int .i64 t268)).setCell ⟨gb270, 5, none⟩ (.int .i64 t269)) = w14 at n0_ n1_ n2_ ⊢
  have BK262 := n0_
  have BK270 := n1_
  have HB := n2_
  clear n0_ n1_ n2_
  have n0_ := zaa.mk (zab BK262.o)
  have n1_ := zaa.mk (zab BK270.o)
  have n2_ := zaa.mk (zag HB.o)
  clear BK262
  clear BK270
  clear HB
  have BK262 := n0_
  have BK270 := n1_
  have HB := n2_
  clear n0_ n1_ n2_
  refine start_ (n := 8) (S := fun w' => w'.cell? ⟨gb270, 0, none⟩ = some (.int .i64 t264) ∧ w'.cell? ⟨gb270, 1, none⟩ = some (.int .i64 t265) ∧ w'.cell? ⟨gb270, 2, none⟩ = some (.int .i64 t266) ∧ w'.cell? ⟨gb270, 3, none⟩ = some (.int .i64 t267) ∧ w'.cell? ⟨gb270, 4, none⟩ = some (.int .i64 t268) ∧ w'.cell? ⟨gb270, 5, none⟩ = some (.int .i64 t269)) (ds := []) #[false, false, false, false, false, false, false, false] (by kernel_rfl) rfl rfl (cz6 BK270.o) (fun hHeld => ?_); refine with_tabW vinculumlaw02_RationalUndo.tab4 vinculumlaw02_RationalUndo.bits4 (fun HT_ HW_ => ?_)
  generalize w14.drew = w15 at BK262 BK270 HB hHeld ⊢
  refine pure_ (i := 0) (N := some 18) (v := ?_) (a' := ?_) #[true, false, false, false, false, false, false, false] rfl rfl (zaH HT_.out (by kernel_rfl)) (fun _ _ _ h => h) (Or.inl ⟨by rfl, ?_⟩) ?_ ?_
  rotate_left
  ·intro w'
   go_simp
   with_reducible rfl
  rotate_left
  ·simp only [Act.put, List.setIfInBounds_toArray, List.set_cons_zero, List.set_cons_succ, i64_w, i32_w]
   rfl
  refine pure_ (i := 2) (N := some 20) (v := ?_) (a' := ?_) #[true, false, true, false, false, false, false, false] rfl rfl (zaH HT_.out (by kernel_rfl)) (fun _ _ _ h => h) (Or.inl ⟨by rfl, ?_⟩) ?_ ?_
  rotate_left
  ·intro w'
   go_simp
   with_reducible rfl
  rotate_left
  ·simp only [Act.put, List.setIfInBounds_toArray, List.set_cons_zero, List.set_cons_succ, i64_w, i32_w]
   rfl
  refine take_ (i := 1) (N := some 19) (v := ?_) (a' := ?_) #[true, true, true, false, false, false, false, false] rfl rfl (zaK HT_.out HW_.out (by kernel_rfl)) (fun _ _ _ h => h) (Or.inl ⟨by rfl, ?_⟩) hHeld ?_ ?_
  rotate_left
  ·rintro w' ⟨s0, s1, s2, s3, s4, s5⟩
   go_simp
   with_reducible rfl
  rotate_left
  ·simp only [Act.put, List.setIfInBounds_toArray, List.set_cons_zero, List.set_cons_succ, i64_w, i32_w]
   rfl
  refine take_ (i := 3) (N := some 21) (v := ?_) (a' := ?_) #[true, true, true, true, false, false, false, false] rfl rfl (zaK HT_.out HW_.out (by kernel_rfl)) (fun _ _ _ h => h) (Or.inl ⟨by rfl, ?_⟩) hHeld ?_ ?_
  rotate_left
  ·rintro w' ⟨s0, s1, s2, s3, s4, s5⟩
   go_simp
   with_reducible rfl
  rotate_left
  ·simp only [Act.put, List.setIfInBounds_toArray, List.set_cons_zero, List.set_cons_succ, i64_w, i32_w]
   rfl
  refine join_ (σ := Nat × Nat) 2 #[true, true, true, true, true, true, false, false] (fun s_ => [(4, .pointer (some ⟨s_.1, 0, none⟩)), (5, .pointer (some ⟨s_.2, 0, none⟩))]) (fun s_ w' => (w'.cell? ⟨gb270, 0, none⟩ = some (.int .i64 t264) ∧ w'.cell? ⟨gb270, 1, none⟩ = some (.int .i64 t265) ∧ w'.cell? ⟨gb270, 2, none⟩ = some (.int .i64 t266) ∧ w'.cell? ⟨gb270, 3, none⟩ = some (.int .i64 t267) ∧ w'.cell? ⟨gb270, 4, none⟩ = some (.int .i64 t268) ∧ w'.cell? ⟨gb270, 5, none⟩ = some (.int .i64 t269)) ∧ (w'.heap[gb262]? = some (.cells #[.int .i16 a0_0, .int .i16 a0_1, .int .i16 a0_2, .int .i16 a0_3, .int .i16 a0_4, .int .i16 a0_5] 40 (0, 0))) ∧ (w'.heap[gb270]? = some (.cells #[.int .i64 t264, .int .i64 t265, .int .i64 t266, .int .i64 t267, .int .i64 t268, .int .i64 t269] 41 (0, 0))) ∧ (w'.heap[s_.1]? = some (.cells #[.int .i64 0, .int .i64 0] 24 (0, 0))) ∧ (w'.heap[s_.2]? = some (.cells #[.int .i64 0, .int .i64 0] 24 (0, 0))) ∧ (w.heap.size ≤ s_.1) ∧ (w.heap.size ≤ s_.1) ∧ (gb262 ≠ s_.1) ∧ (s_.1 ≠ gb262) ∧ (gb270 ≠ s_.1) ∧ (s_.1 ≠ gb270) ∧ (s_.2 ≠ s_.1) ∧ (s_.1 ≠ s_.2) ∧ (w.heap.size ≤ s_.2) ∧ (w.heap.size ≤ s_.2) ∧ (gb262 ≠ s_.2) ∧ (s_.2 ≠ gb262) ∧ (gb270 ≠ s_.2) ∧ (s_.2 ≠ gb270) ∧ (Below w.heap.size w w')) ?_ ?_
  rotate_left
  ·intro hCont
   refine two_ (i := 4) (j := 5) (Ni := some 4) (Nj := some 5) #[true, true, true, true, true, false, false, false] #[true, true, true, true, false, true, false, false] rfl rfl rfl rfl (two_of HT_.out (by kernel_rfl)) (by decide) (by decide) (fun K hK => ?_) (fun K hK => ?_)
   ·skip
    refine zaI ?hg (N := 4) ?hd (cs := #[.int .i64 0, .int .i64 0]) (t := 24) ?hr ?_; (case hd => rfl); (case hg => rfl); (case hr => first | (go_simp; done) | (go_simp; rfl))
    intro gb271 hg w16 hbox hb
    have n0_ := zaa.mk (zaj (by (with_reducible repeat (first | refine zad ?_ _ | refine zab ?_ | refine zac ?_ _)); exact BK262.o) hb)
    have n1_ := zaa.mk (zaj (by (with_reducible repeat (first | refine zad ?_ _ | refine zab ?_ | refine zac ?_ _)); exact BK270.o) hb)
    have n2_ := zaa.mk (zao (by repeat (first | (with_reducible first | exact HB.o | apply zaf | apply zah | apply zag | refine zae ?_ GE262.o | refine zae ?_ GE270.o) | exact HB.o)) hb)
    have n3_ := zaa.mk (hbox)
    have n4_ := zaa.mk ((by rw [hg]; exact (zan (by repeat (first | (with_reducible first | exact HB.o | apply zaf | apply zah | apply zag | refine zae ?_ GE262.o | refine zae ?_ GE270.o) | exact HB.o))) : w.heap.size ≤ gb271))
    have n5_ := zaa.mk ((by rw [hg]; exact (zan (by repeat (first | (with_reducible first | exact HB.o | apply zaf | apply zah | apply zag | refine zae ?_ GE262.o | refine zae ?_ GE270.o) | exact HB.o))) : w.heap.size ≤ gb271))
    have n6_ := zaa.mk ((by rw [hg]; exact Nat.ne_of_lt (zal (g := gb262) (o := .cells #[.int .i16 a0_0, .int .i16 a0_1, .int .i16 a0_2, .int .i16 a0_3, .int .i16 a0_4, .int .i16 a0_5] 40 (0, 0)) (by (with_reducible repeat (first | refine zad ?_ _ | refine zab ?_ | refine zac ?_ _)); exact BK262.o)) : gb262 ≠ gb271))
    have n7_ := zaa.mk ((by rw [hg]; exact Nat.ne_of_gt (zal (g := gb262) (o := .cells #[.int .i16 a0_0, .int .i16 a0_1, .int .i16 a0_2, .int .i16 a0_3, .int .i16 a0_4, .int .i16 a0_5] 40 (0, 0)) (by (with_reducible repeat (first | refine zad ?_ _ | refine zab ?_ | refine zac ?_ _)); exact BK262.o)) : gb271 ≠ gb262))
    have n8_ := zaa.mk ((by rw [hg]; exact Nat.ne_of_lt (zal (g := gb270) (o := .cells #[.int .i64 t264, .int .i64 t265, .int .i64 t266, .int .i64 t267, .int .i64 t268, .int .i64 t269] 41 (0, 0)) (by (with_reducible repeat (first | refine zad ?_ _ | refine zab ?_ | refine zac ?_ _)); exact BK270.o)) : gb270 ≠ gb271))
    have n9_ := zaa.mk ((by rw [hg]; exact Nat.ne_of_gt (zal (g := gb270) (o := .cells #[.int .i64 t264, .int .i64 t265, .int .i64 t266, .int .i64 t267, .int .i64 t268, .int .i64 t269] 41 (0, 0)) (by (with_reducible repeat (first | refine zad ?_ _ | refine zab ?_ | refine zac ?_ _)); exact BK270.o)) : gb271 ≠ gb270))
    clear BK262
    clear BK270
    clear HB
    have BK262 := n0_
    have BK270 := n1_
    have HB := n2_
    have BK271 := n3_
    have GW271 := n4_
    have GE271 := n5_
    have NB262_271 := n6_
    have NB271_262 := n7_
    have NB270_271 := n8_
    have NB271_270 := n9_
    clear n0_ n1_ n2_ n3_ n4_ n5_ n6_ n7_ n8_ n9_
    clear hb hbox hg
    refine hK.out _ _ (cz6 BK270.o) (fun hHeld => ?_)
    clear hK K
    refine norm_ (a' := ?_) ?_ ?_
    rotate_left
    ·show Act.put _ (some 4) _ = _
     simp only [Act.put, List.setIfInBounds_toArray, List.set_cons_zero, List.set_cons_succ, i64_w, i32_w]
     rfl
    refine one_ (i := 5) (N := some 5) #[true, true, true, true, true, true, false, false] rfl rfl (zaJ HT_.out (by kernel_rfl)) (by decide) (fun K hK => ?_)
    refine zaI ?hg (N := 5) ?hd (cs := #[.int .i64 0, .int .i64 0]) (t := 24) ?hr ?_; (case hd => rfl); (case hg => rfl); (case hr => first | (go_simp; done) | (go_simp; rfl))
    intro gb272 hg w17 hbox hb
    have n0_ := zaa.mk (zaj (by (with_reducible repeat (first | refine zad ?_ _ | refine zab ?_ | refine zac ?_ _)); exact BK262.o) hb)
    have n1_ := zaa.mk (zaj (by (with_reducible repeat (first | refine zad ?_ _ | refine zab ?_ | refine zac ?_ _)); exact BK270.o) hb)
    have n2_ := zaa.mk (zaj (by (with_reducible repeat (first | refine zad ?_ _ | refine zab ?_ | refine zac ?_ _)); exact BK271.o) hb)
    have n3_ := zaa.mk (zao (by repeat (first | (with_reducible first | exact HB.o | apply zaf | apply zah | apply zag | refine zae ?_ GE262.o | refine zae ?_ GE270.o | refine zae ?_ GE271.o) | exact HB.o)) hb)
    have n4_ := zaa.mk (hbox)
    have n5_ := zaa.mk ((by rw [hg]; exact (zan (by repeat (first | (with_reducible first | exact HB.o | apply zaf | apply zah | apply zag | refine zae ?_ GE262.o | refine zae ?_ GE270.o | refine zae ?_ GE271.o) | exact HB.o))) : w.heap.size ≤ gb272))
    have n6_ := zaa.mk ((by rw [hg]; exact (zan (by repeat (first | (with_reducible first | exact HB.o | apply zaf | apply zah | apply zag | refine zae ?_ GE262.o | refine zae ?_ GE270.o | refine zae ?_ GE271.o) | exact HB.o))) : w.heap.size ≤ gb272))
    have n7_ := zaa.mk ((by rw [hg]; exact Nat.ne_of_lt (zal (g := gb262) (o := .cells #[.int .i16 a0_0, .int .i16 a0_1, .int .i16 a0_2, .int .i16 a0_3, .int .i16 a0_4, .int .i16 a0_5] 40 (0, 0)) (by (with_reducible repeat (first | refine zad ?_ _ | refine zab ?_ | refine zac ?_ _)); exact BK262.o)) : gb262 ≠ gb272))
    have n8_ := zaa.mk ((by rw [hg]; exact Nat.ne_of_gt (zal (g := gb262) (o := .cells #[.int .i16 a0_0, .int .i16 a0_1, .int .i16 a0_2, .int .i16 a0_3, .int .i16 a0_4, .int .i16 a0_5] 40 (0, 0)) (by (with_reducible repeat (first | refine zad ?_ _ | refine zab ?_ | refine zac ?_ _)); exact BK262.o)) : gb272 ≠ gb262))
    have n9_ := zaa.mk ((by rw [hg]; exact Nat.ne_of_lt (zal (g := gb270) (o := .cells #[.int .i64 t264, .int .i64 t265, .int .i64 t266, .int .i64 t267, .int .i64 t268, .int .i64 t269] 41 (0, 0)) (by (with_reducible repeat (first | refine zad ?_ _ | refine zab ?_ | refine zac ?_ _)); exact BK270.o)) : gb270 ≠ gb272))
    have n10_ := zaa.mk ((by rw [hg]; exact Nat.ne_of_gt (zal (g := gb270) (o := .cells #[.int .i64 t264, .int .i64 t265, .int .i64 t266, .int .i64 t267, .int .i64 t268, .int .i64 t269] 41 (0, 0)) (by (with_reducible repeat (first | refine zad ?_ _ | refine zab ?_ | refine zac ?_ _)); exact BK270.o)) : gb272 ≠ gb270))
    have n11_ := zaa.mk ((by rw [hg]; exact Nat.ne_of_lt (zal (g := gb271) (o := .cells #[.int .i64 0, .int .i64 0] 24 (0, 0)) (by (with_reducible repeat (first | refine zad ?_ _ | refine zab ?_ | refine zac ?_ _)); exact BK271.o)) : gb271 ≠ gb272))
    have n12_ := zaa.mk ((by rw [hg]; exact Nat.ne_of_gt (zal (g := gb271) (o := .cells #[.int .i64 0, .int .i64 0] 24 (0, 0)) (by (with_reducible repeat (first | refine zad ?_ _ | refine zab ?_ | refine zac ?_ _)); exact BK271.o)) : gb272 ≠ gb271))
    clear BK262
    clear BK270
    clear BK271
    clear HB
    have BK262 := n0_
    have BK270 := n1_
    have BK271 := n2_
    have HB := n3_
    have BK272 := n4_
    have GW272 := n5_
    have GE272 := n6_
    have NB262_272 := n7_
    have NB272_262 := n8_
    have NB270_272 := n9_
    have NB272_270 := n10_
    have NB271_272 := n11_
    have NB272_271 := n12_
    clear n0_ n1_ n2_ n3_ n4_ n5_ n6_ n7_ n8_ n9_ n10_ n11_ n12_
    clear hb hbox hg
    refine hK.out _ _ (cz6 BK270.o) (fun hHeld => ?_)
    clear hK K
    refine norm_ (a' := ?_) ?_ ?_
    rotate_left
    ·show Act.put _ (some 5) _ = _
     simp only [Act.put, List.setIfInBounds_toArray, List.set_cons_zero, List.set_cons_succ, i64_w, i32_w]
     rfl
    exact norm_ (by simp only [zaF, Act.put, List.setIfInBounds_toArray, List.set_cons_zero, List.set_cons_succ]) (hCont (gb271, gb272) _ ⟨hHeld, (by (with_reducible repeat (first | refine zad ?_ _ | refine zab ?_ | refine zac ?_ _)); exact BK262.o), (by (with_reducible repeat (first | refine zad ?_ _ | refine zab ?_ | refine zac ?_ _)); exact BK270.o), (by (with_reducible repeat (first | refine zad ?_ _ | refine zab ?_ | refine zac ?_ _)); exact BK271.o), (by (with_reducible repeat (first | refine zad ?_ _ | refine zab ?_ | refine zac ?_ _)); exact BK272.o), GW271.o, GE271.o, NB262_271.o, NB271_262.o, NB270_271.o, NB271_270.o, NB272_271.o, NB271_272.o, GW272.o, GE272.o, NB262_272.o, NB272_262.o, NB270_272.o, NB272_270.o, (by repeat (first | (with_reducible first | exact HB.o | apply zaf | apply zah | apply zag | refine zae ?_ GE262.o | refine zae ?_ GE270.o | refine zae ?_ GE271.o | refine zae ?_ GE272.o) | exact HB.o))⟩)
   ·skip
    refine zaI ?hg (N := 5) ?hd (cs := #[.int .i64 0, .int .i64 0]) (t := 24) ?hr ?_; (case hd => rfl); (case hg => rfl); (case hr => first | (go_simp; done) | (go_simp; rfl))
    intro gb272 hg w16 hbox hb
    have n0_ := zaa.mk (zaj (by (with_reducible repeat (first | refine zad ?_ _ | refine zab ?_ | refine zac ?_ _)); exact BK262.o) hb)
    have n1_ := zaa.mk (zaj (by (with_reducible repeat (first | refine zad ?_ _ | refine zab ?_ | refine zac ?_ _)); exact BK270.o) hb)
    have n2_ := zaa.mk (zao (by repeat (first | (with_reducible first | exact HB.o | apply zaf | apply zah | apply zag | refine zae ?_ GE262.o | refine zae ?_ GE270.o) | exact HB.o)) hb)
    have n3_ := zaa.mk (hbox)
    have n4_ := zaa.mk ((by rw [hg]; exact (zan (by repeat (first | (with_reducible first | exact HB.o | apply zaf | apply zah | apply zag | refine zae ?_ GE262.o | refine zae ?_ GE270.o) | exact HB.o))) : w.heap.size ≤ gb272))
    have n5_ := zaa.mk ((by rw [hg]; exact (zan (by repeat (first | (with_reducible first | exact HB.o | apply zaf | apply zah | apply zag | refine zae ?_ GE262.o | refine zae ?_ GE270.o) | exact HB.o))) : w.heap.size ≤ gb272))
    have n6_ := zaa.mk ((by rw [hg]; exact Nat.ne_of_lt (zal (g := gb262) (o := .cells #[.int .i16 a0_0, .int .i16 a0_1, .int .i16 a0_2, .int .i16 a0_3, .int .i16 a0_4, .int .i16 a0_5] 40 (0, 0)) (by (with_reducible repeat (first | refine zad ?_ _ | refine zab ?_ | refine zac ?_ _)); exact BK262.o)) : gb262 ≠ gb272))
    have n7_ := zaa.mk ((by rw [hg]; exact Nat.ne_of_gt (zal (g := gb262) (o := .cells #[.int .i16 a0_0, .int .i16 a0_1, .int .i16 a0_2, .int .i16 a0_3, .int .i16 a0_4, .int .i16 a0_5] 40 (0, 0)) (by (with_reducible repeat (first | refine zad ?_ _ | refine zab ?_ | refine zac ?_ _)); exact BK262.o)) : gb272 ≠ gb262))
    have n8_ := zaa.mk ((by rw [hg]; exact Nat.ne_of_lt (zal (g := gb270) (o := .cells #[.int .i64 t264, .int .i64 t265, .int .i64 t266, .int .i64 t267, .int .i64 t268, .int .i64 t269] 41 (0, 0)) (by (with_reducible repeat (first | refine zad ?_ _ | refine zab ?_ | refine zac ?_ _)); exact BK270.o)) : gb270 ≠ gb272))
    have n9_ := zaa.mk ((by rw [hg]; exact Nat.ne_of_gt (zal (g := gb270) (o := .cells #[.int .i64 t264, .int .i64 t265, .int .i64 t266, .int .i64 t267, .int .i64 t268, .int .i64 t269] 41 (0, 0)) (by (with_reducible repeat (first | refine zad ?_ _ | refine zab ?_ | refine zac ?_ _)); exact BK270.o)) : gb272 ≠ gb270))
    clear BK262
    clear BK270
    clear HB
    have BK262 := n0_
    have BK270 := n1_
    have HB := n2_
    have BK272 := n3_
    have GW272 := n4_
    have GE272 := n5_
    have NB262_272 := n6_
    have NB272_262 := n7_
    have NB270_272 := n8_
    have NB272_270 := n9_
    clear n0_ n1_ n2_ n3_ n4_ n5_ n6_ n7_ n8_ n9_
    clear hb hbox hg
    refine hK.out _ _ (cz6 BK270.o) (fun hHeld => ?_)
    clear hK K
    refine norm_ (a' := ?_) ?_ ?_
    rotate_left
    ·show Act.put _ (some 5) _ = _
     simp only [Act.put, List.setIfInBounds_toArray, List.set_cons_zero, List.set_cons_succ, i64_w, i32_w]
     rfl
    refine one_ (i := 4) (N := some 4) #[true, true, true, true, true, true, false, false] rfl rfl (zaJ HT_.out (by kernel_rfl)) (by decide) (fun K hK => ?_)
    refine zaI ?hg (N := 4) ?hd (cs := #[.int .i64 0, .int .i64 0]) (t := 24) ?hr ?_; (case hd => rfl); (case hg => rfl); (case hr => first | (go_simp; done) | (go_simp; rfl))
    intro gb271 hg w17 hbox hb
    have n0_ := zaa.mk (zaj (by (with_reducible repeat (first | refine zad ?_ _ | refine zab ?_ | refine zac ?_ _)); exact BK262.o) hb)
    have n1_ := zaa.mk (zaj (by (with_reducible repeat (first | refine zad ?_ _ | refine zab ?_ | refine zac ?_ _)); exact BK270.o) hb)
    have n2_ := zaa.mk (zaj (by (with_reducible repeat (first | refine zad ?_ _ | refine zab ?_ | refine zac ?_ _)); exact BK272.o) hb)
    have n3_ := zaa.mk (zao (by repeat (first | (with_reducible first | exact HB.o | apply zaf | apply zah | apply zag | refine zae ?_ GE262.o | refine zae ?_ GE270.o | refine zae ?_ GE272.o) | exact HB.o)) hb)
    have n4_ := zaa.mk (hbox)
    have n5_ := zaa.mk ((by rw [hg]; exact (zan (by repeat (first | (with_reducible first | exact HB.o | apply zaf | apply zah | apply zag | refine zae ?_ GE262.o | refine zae ?_ GE270.o | refine zae ?_ GE272.o) | exact HB.o))) : w.heap.size ≤ gb271))
    have n6_ := zaa.mk ((by rw [hg]; exact (zan (by repeat (first | (with_reducible first | exact HB.o | apply zaf | apply zah | apply zag | refine zae ?_ GE262.o | refine zae ?_ GE270.o | refine zae ?_ GE272.o) | exact HB.o))) : w.heap.size ≤ gb271))
    have n7_ := zaa.mk ((by rw [hg]; exact Nat.ne_of_lt (zal (g := gb262) (o := .cells #[.int .i16 a0_0, .int .i16 a0_1, .int .i16 a0_2, .int .i16 a0_3, .int .i16 a0_4, .int .i16 a0_5] 40 (0, 0)) (by (with_reducible repeat (first | refine zad ?_ _ | refine zab ?_ | refine zac ?_ _)); exact BK262.o)) : gb262 ≠ gb271))
    have n8_ := zaa.mk ((by rw [hg]; exact Nat.ne_of_gt (zal (g := gb262) (o := .cells #[.int .i16 a0_0, .int .i16 a0_1, .int .i16 a0_2, .int .i16 a0_3, .int .i16 a0_4, .int .i16 a0_5] 40 (0, 0)) (by (with_reducible repeat (first | refine zad ?_ _ | refine zab ?_ | refine zac ?_ _)); exact BK262.o)) : gb271 ≠ gb262))
    have n9_ := zaa.mk ((by rw [hg]; exact Nat.ne_of_lt (zal (g := gb270) (o := .cells #[.int .i64 t264, .int .i64 t265, .int .i64 t266, .int .i64 t267, .int .i64 t268, .int .i64 t269] 41 (0, 0)) (by (with_reducible repeat (first | refine zad ?_ _ | refine zab ?_ | refine zac ?_ _)); exact BK270.o)) : gb270 ≠ gb271))
    have n10_ := zaa.mk ((by rw [hg]; exact Nat.ne_of_gt (zal (g := gb270) (o := .cells #[.int .i64 t264, .int .i64 t265, .int .i64 t266, .int .i64 t267, .int .i64 t268, .int .i64 t269] 41 (0, 0)) (by (with_reducible repeat (first | refine zad ?_ _ | refine zab ?_ | refine zac ?_ _)); exact BK270.o)) : gb271 ≠ gb270))
    have n11_ := zaa.mk ((by rw [hg]; exact Nat.ne_of_lt (zal (g := gb272) (o := .cells #[.int .i64 0, .int .i64 0] 24 (0, 0)) (by (with_reducible repeat (first | refine zad ?_ _ | refine zab ?_ | refine zac ?_ _)); exact BK272.o)) : gb272 ≠ gb271))
    have n12_ := zaa.mk ((by rw [hg]; exact Nat.ne_of_gt (zal (g := gb272) (o := .cells #[.int .i64 0, .int .i64 0] 24 (0, 0)) (by (with_reducible repeat (first | refine zad ?_ _ | refine zab ?_ | refine zac ?_ _)); exact BK272.o)) : gb271 ≠ gb272))
    clear BK262
    clear BK270
    clear BK272
    clear HB
    have BK262 := n0_
    have BK270 := n1_
    have BK272 := n2_
    have HB := n3_
    have BK271 := n4_
    have GW271 := n5_
    have GE271 := n6_
    have NB262_271 := n7_
    have NB271_262 := n8_
    have NB270_271 := n9_
    have NB271_270 := n10_
    have NB272_271 := n11_
    have NB271_272 := n12_
    clear n0_ n1_ n2_ n3_ n4_ n5_ n6_ n7_ n8_ n9_ n10_ n11_ n12_
    clear hb hbox hg
    refine hK.out _ _ (cz6 BK270.o) (fun hHeld => ?_)
    clear hK K
    refine norm_ (a' := ?_) ?_ ?_
    rotate_left
    ·show Act.put _ (some 4) _ = _
     simp only [Act.put, List.setIfInBounds_toArray, List.set_cons_zero, List.set_cons_succ, i64_w, i32_w]
     rfl
    exact norm_ (by simp only [zaF, Act.put, List.setIfInBounds_toArray, List.set_cons_zero, List.set_cons_succ]) (hCont (gb271, gb272) _ ⟨hHeld, (by (with_reducible repeat (first | refine zad ?_ _ | refine zab ?_ | refine zac ?_ _)); exact BK262.o), (by (with_reducible repeat (first | refine zad ?_ _ | refine zab ?_ | refine zac ?_ _)); exact BK270.o), (by (with_reducible repeat (first | refine zad ?_ _ | refine zab ?_ | refine zac ?_ _)); exact BK271.o), (by (with_reducible repeat (first | refine zad ?_ _ | refine zab ?_ | refine zac ?_ _)); exact BK272.o), GW271.o, GE271.o, NB262_271.o, NB271_262.o, NB270_271.o, NB271_270.o, NB272_271.o, NB271_272.o, GW272.o, GE272.o, NB262_272.o, NB272_262.o, NB270_272.o, NB272_270.o, (by repeat (first | (with_reducible first | exact HB.o | apply zaf | apply zah | apply zag | refine zae ?_ GE262.o | refine zae ?_ GE270.o | refine zae ?_ GE272.o | refine zae ?_ GE271.o) | exact HB.o))⟩)
  rintro ⟨gb271, gb272⟩ w18 ⟨hS_, h0_, h1_, h2_, h3_, h4_, h5_, h6_, h7_, h8_, h9_, h10_, h11_, h12_, h13_, h14_, h15_, h16_, h17_, h18_⟩
  have n0_ : zaa (w18.heap[gb262]? = some (.cells #[.int .i16 a0_0, .int .i16 a0_1, .int .i16 a0_2, .int .i16 a0_3, .int .i16 a0_4, .int .i16 a0_5] 40 (0, 0))) := ⟨h0_⟩
  have n1_ : zaa (w18.heap[gb270]? = some (.cells #[.int .i64 t264, .int .i64 t265, .int .i64 t266, .int .i64 t267, .int .i64 t268, .int .i64 t269] 41 (0, 0))) := ⟨h1_⟩
  have n2_ : zaa (w18.heap[gb271]? = some (.cells #[.int .i64 0, .int .i64 0] 24 (0, 0))) := ⟨h2_⟩
  have n3_ : zaa (w18.heap[gb272]? = some (.cells #[.int .i64 0, .int .i64 0] 24 (0, 0))) := ⟨h3_⟩
  have n4_ : zaa (w.heap.size ≤ gb271) := ⟨h4_⟩
  have n5_ : zaa (w.heap.size ≤ gb271) := ⟨h5_⟩
  have n6_ : zaa (gb262 ≠ gb271) := ⟨h6_⟩
  have n7_ : zaa (gb271 ≠ gb262) := ⟨h7_⟩
  have n8_ : zaa (gb270 ≠ gb271) := ⟨h8_⟩
  have n9_ : zaa (gb271 ≠ gb270) := ⟨h9_⟩
  have n10_ : zaa (gb272 ≠ gb271) := ⟨h10_⟩
  have n11_ : zaa (gb271 ≠ gb272) := ⟨h11_⟩
  have n12_ : zaa (w.heap.size ≤ gb272) := ⟨h12_⟩
  have n13_ : zaa (w.heap.size ≤ gb272) := ⟨h13_⟩
  have n14_ : zaa (gb262 ≠ gb272) := ⟨h14_⟩
  have n15_ : zaa (gb272 ≠ gb262) := ⟨h15_⟩
  have n16_ : zaa (gb270 ≠ gb272) := ⟨h16_⟩
  have n17_ : zaa (gb272 ≠ gb270) := ⟨h17_⟩
  have n18_ : zaa (Below w.heap.size w w18) := ⟨h18_⟩
  clear BK262
  clear BK270
  clear HB
  clear h0_ h1_ h2_ h3_ h4_ h5_ h6_ h7_ h8_ h9_ h10_ h11_ h12_ h13_ h14_ h15_ h16_ h17_ h18_
  have BK262 := n0_
  have BK270 := n1_
  have BK271 := n2_
  have BK272 := n3_
  have GW271 := n4_
  have GE271 := n5_
  have NB262_271 := n6_
  have NB271_262 := n7_
  have NB270_271 := n8_
  have NB271_270 := n9_
  have NB272_271 := n10_
  have NB271_272 := n11_
  have GW272 := n12_
  have GE272 := n13_
  have NB262_272 := n14_
  have NB272_262 := n15_
  have NB270_272 := n16_
  have NB272_270 := n17_
  have HB := n18_
  clear n0_ n1_ n2_ n3_ n4_ n5_ n6_ n7_ n8_ n9_ n10_ n11_ n12_ n13_ n14_ n15_ n16_ n17_ n18_
  have hHeld : w18.cell? ⟨gb270, 0, none⟩ = some (.int .i64 t264) ∧ w18.cell? ⟨gb270, 1, none⟩ = some (.int .i64 t265) ∧ w18.cell? ⟨gb270, 2, none⟩ = some (.int .i64 t266) ∧ w18.cell? ⟨gb270, 3, none⟩ = some (.int .i64 t267) ∧ w18.cell? ⟨gb270, 4, none⟩ = some (.int .i64 t268) ∧ w18.cell? ⟨gb270, 5, none⟩ = some (.int .i64 t269) := hS_
  refine norm_ (a' := ?_) ?_ ?_
  rotate_left
  ·simp only [zaF, Act.put, List.setIfInBounds_toArray, List.set_cons_zero, List.set_cons_succ]
   rfl
  refine one_ (i := 6) (N := none) #[true, true, true, true, true, true, true, false] rfl rfl (zaJ HT_.out (by kernel_rfl)) (by decide) (fun K hK => ?_)
  have hs19 : w18.cell? ⟨gb271, 0, none⟩ = some (.int .i64 0) := (zai BK271.o 0).trans rfl
  have hfs19 := zak BK271.o 0
  have hns19_0 := NB262_271.o
  have hns19_1 := NB270_271.o
  have hns19_3 := NB272_271.o
  have hms19_0 := NB271_262.o
  have hms19_1 := NB271_270.o
  have hms19_3 := NB271_272.o
  have hs20 : w18.cell? ⟨gb271, 1, none⟩ = some (.int .i64 0) := (zai BK271.o 1).trans rfl
  have hfs20 := zak BK271.o 1
  have hns20_0 := NB262_271.o
  have hns20_1 := NB270_271.o
  have hns20_3 := NB272_271.o
  have hms20_0 := NB271_262.o
  have hms20_1 := NB271_270.o
  have hms20_3 := NB271_272.o
  refine skip_ (w1 := ?_) (by rfl) rfl ?_ ?_
  rotate_left
  ·go_simp
   rfl
  refine hK.out _ _ ⟨((zau (p := ⟨gb271, _, none⟩) NB270_271.o _).trans (((zau (p := ⟨gb271, _, none⟩) NB270_271.o _).trans (hHeld.1)))), ((zau (p := ⟨gb271, _, none⟩) NB270_271.o _).trans (((zau (p := ⟨gb271, _, none⟩) NB270_271.o _).trans (hHeld.2.1)))), ((zau (p := ⟨gb271, _, none⟩) NB270_271.o _).trans (((zau (p := ⟨gb271, _, none⟩) NB270_271.o _).trans (hHeld.2.2.1)))), ((zau (p := ⟨gb271, _, none⟩) NB270_271.o _).trans (((zau (p := ⟨gb271, _, none⟩) NB270_271.o _).trans (hHeld.2.2.2.1)))), ((zau (p := ⟨gb271, _, none⟩) NB270_271.o _).trans (((zau (p := ⟨gb271, _, none⟩) NB270_271.o _).trans (hHeld.2.2.2.2.1)))), ((zau (p := ⟨gb271, _, none⟩) NB270_271.o _).trans (((zau (p := ⟨gb271, _, none⟩) NB270_271.o _).trans (hHeld.2.2.2.2.2))))⟩ (fun hHeld => ?_)
  clear hK K
  refine one_ (i := 7) (N := none) #[true, true, true, true, true, true, true, true] rfl rfl (zaJ HT_.out (by kernel_rfl)) (by decide) (fun K hK => ?_)
  have hs21 : w18.cell? ⟨gb272, 0, none⟩ = some (.int .i64 0) := (zai BK272.o 0).trans rfl
  have hfs21 := zak BK272.o 0
  have hns21_0 := NB262_272.o
  have hns21_1 := NB270_272.o
  have hns21_2 := NB271_272.o
  have hms21_0 := NB272_262.o
  have hms21_1 := NB272_270.o
  have hms21_2 := NB272_271.o
  have hs22 : w18.cell? ⟨gb272, 1, none⟩ = some (.int .i64 0) := (zai BK272.o 1).trans rfl
  have hfs22 := zak BK272.o 1
  have hns22_0 := NB262_272.o
  have hns22_1 := NB270_272.o
  have hns22_2 := NB271_272.o
  have hms22_0 := NB272_262.o
  have hms22_1 := NB272_270.o
  have hms22_2 := NB272_271.o
  refine skip_ (w1 := ?_) (by rfl) rfl ?_ ?_
  rotate_left
  ·go_simp
   rfl
  refine hK.out _ _ ⟨((zau (p := ⟨gb272, _, none⟩) NB270_272.o _).trans (((zau (p := ⟨gb272, _, none⟩) NB270_272.o _).trans (hHeld.1)))), ((zau (p := ⟨gb272, _, none⟩) NB270_272.o _).trans (((zau (p := ⟨gb272, _, none⟩) NB270_272.o _).trans (hHeld.2.1)))), ((zau (p := ⟨gb272, _, none⟩) NB270_272.o _).trans (((zau (p := ⟨gb272, _, none⟩) NB270_272.o _).trans (hHeld.2.2.1)))), ((zau (p := ⟨gb272, _, none⟩) NB270_272.o _).trans (((zau (p := ⟨gb272, _, none⟩) NB270_272.o _).trans (hHeld.2.2.2.1)))), ((zau (p := ⟨gb272, _, none⟩) NB270_272.o _).trans (((zau (p := ⟨gb272, _, none⟩) NB270_272.o _).trans (hHeld.2.2.2.2.1)))), ((zau (p := ⟨gb272, _, none⟩) NB270_272.o _).trans (((zau (p := ⟨gb272, _, none⟩) NB270_272.o _).trans (hHeld.2.2.2.2.2))))⟩ (fun hHeld => ?_)
  clear hK K
  refine done_ (done_of HT_.out (by kernel_rfl)) ?_
  have hnb23 := NB271_262.o
  have hnc23 := NB262_271.o
  have hnb24 := NB271_270.o
  have hnc24 := NB270_271.o
  have hnb25 := NB271_272.o
  have hnc25 := NB272_271.o
  have hcz26_0 : w18.cell? ⟨gb271, 0, none⟩ = some (.int .i64 0) := (zai BK271.o 0).trans rfl
  have hcz26_1 : w18.cell? ⟨gb271, 1, none⟩ = some (.int .i64 0) := (zai BK271.o 1).trans rfl
  have hfz26_0 := zak BK271.o 0
  have hfz26_1 := zak BK271.o 1
  have hnb27 := NB272_262.o
  have hnc27 := NB262_272.o
  have hnb28 := NB272_270.o
  have hnc28 := NB270_272.o
  have hcz29_0 : w18.cell? ⟨gb272, 0, none⟩ = some (.int .i64 0) := (zai BK272.o 0).trans rfl
  have hcz29_1 : w18.cell? ⟨gb272, 1, none⟩ = some (.int .i64 0) := (zai BK272.o 1).trans rfl
  have hfz29_0 := zak BK272.o 0
  have hfz29_1 := zak BK272.o 1
  go_upto_if 29 with (first | ((with_reducible refine zas (f := 23) rfl ?_); refine zat (some 25) rfl rfl Tryd.func23 (by kernel_rfl) rfl #[.agg #[.int .i64 t264, .int .i64 t265], .agg #[.int .i64 t266, .int .i64 t267]] rfl (by (try simp only [List.map_toArray, List.map_cons, List.map_nil]); first | done | rfl | (simp only [List.length_drop, List.length_take]; rfl)) ?_; (with_reducible refine (rational_Add.calls k t264 t265 t266 t267 t273 t274 t275 _ A5.o).mono ?_); rintro e w30 ⟨rfl, hb⟩; refine ⟨_, rfl, ?_⟩; have n0_ := zaa.mk (zaj (g := gb262) (o := .cells #[.int .i16 a0_0, .int .i16 a0_1, .int .i16 a0_2, .int .i16 a0_3, .int .i16 a0_4, .int .i16 a0_5] 40 (0, 0)) (by (with_reducible repeat (first | refine zad ?_ _ | refine zab ?_ | refine zac ?_ _)); refine zam ?_ NB262_272.o _; (with_reducible repeat (first | refine zad ?_ _ | refine zab ?_ | refine zac ?_ _)); refine zam ?_ NB262_272.o _; (with_reducible repeat (first | refine zad ?_ _ | refine zab ?_ | refine zac ?_ _)); refine zam ?_ NB262_271.o _; (with_reducible repeat (first | refine zad ?_ _ | refine zab ?_ | refine zac ?_ _)); refine zam ?_ NB262_271.o _; (with_reducible repeat (first | refine zad ?_ _ | refine zab ?_ | refine zac ?_ _)); exact BK262.o) hb); have n1_ := zaa.mk (zaj (g := gb270) (o := .cells #[.int .i64 t264, .int .i64 t265, .int .i64 t266, .int .i64 t267, .int .i64 t268, .int .i64 t269] 41 (0, 0)) (by (with_reducible repeat (first | refine zad ?_ _ | refine zab ?_ | refine zac ?_ _)); refine zam ?_ NB270_272.o _; (with_reducible repeat (first | refine zad ?_ _ | refine zab ?_ | refine zac ?_ _)); refine zam ?_ NB270_272.o _; (with_reducible repeat (first | refine zad ?_ _ | refine zab ?_ | refine zac ?_ _)); refine zam ?_ NB270_271.o _; (with_reducible repeat (first | refine zad ?_ _ | refine zab ?_ | refine zac ?_ _)); refine zam ?_ NB270_271.o _; (with_reducible repeat (first | refine zad ?_ _ | refine zab ?_ | refine zac ?_ _)); exact BK270.o) hb); have n2_ := zaa.mk (zaj (g := gb271) (o := .cells #[.int .i64 t264, .int .i64 t265] 24 (0, 0)) (by (with_reducible repeat (first | refine zad ?_ _ | refine zab ?_ | refine zac ?_ _)); refine zam ?_ NB271_272.o _; (with_reducible repeat (first | refine zad ?_ _ | refine zab ?_ | refine zac ?_ _)); refine zam ?_ NB271_272.o _; (with_reducible repeat (first | refine zad ?_ _ | refine zab ?_ | refine zac ?_ _)); refine zap (cs := #[.int .i64 t264, .int .i64 0]) ?_ 1 _ rfl; (with_reducible repeat (first | refine zad ?_ _ | refine zab ?_ | refine zac ?_ _)); refine zap (cs := #[.int .i64 0, .int .i64 0]) ?_ 0 _ rfl; (with_reducible repeat (first | refine zad ?_ _ | refine zab ?_ | refine zac ?_ _)); exact BK271.o) hb); have n3_ := zaa.mk (zaj (g := gb272) (o := .cells #[.int .i64 t266, .int .i64 t267] 24 (0, 0)) (by (with_reducible repeat (first | refine zad ?_ _ | refine zab ?_ | refine zac ?_ _)); refine zap (cs := #[.int .i64 t266, .int .i64 0]) ?_ 1 _ rfl; (with_reducible repeat (first | refine zad ?_ _ | refine zab ?_ | refine zac ?_ _)); refine zap (cs := #[.int .i64 0, .int .i64 0]) ?_ 0 _ rfl; (with_reducible repeat (first | refine zad ?_ _ | refine zab ?_ | refine zac ?_ _)); refine zam ?_ NB272_271.o _; (with_reducible repeat (first | refine zad ?_ _ | refine zab ?_ | refine zac ?_ _)); refine zam ?_ NB272_271.o _; (with_reducible repeat (first | refine zad ?_ _ | refine zab ?_ | refine zac ?_ _)); exact BK272.o) hb); have n4_ := zaa.mk (zao (by repeat (first | (with_reducible first | exact HB.o | apply zaf | apply zah | apply zag | refine zae ?_ GE262.o | refine zae ?_ GE270.o | refine zae ?_ GE271.o | refine zae ?_ GE272.o) | exact HB.o)) hb); clear BK262; clear BK270; clear BK271; clear BK272; clear HB; have BK262 := n0_; have BK270 := n1_; have BK271 := n2_; have BK272 := n3_; have HB := n4_; clear n0_ n1_ n2_ n3_ n4_; (try clear hb); (try clear hb2); (try clear hk); (try clear hi)) | ((with_reducible refine zaq (N := 6) rfl ?_); refine zar ?hg (N := 6) ?hd (cs := #[.int .i64 0, .int .i64 0]) (t := 24) ?hr ?_; (case hd => rfl); (case hg => rfl); (case hr => first | (go_simp; done) | (go_simp; rfl)); intro gb276 hg w31 hbox hb; have n0_ := zaa.mk (zaj (by (with_reducible repeat (first | refine zad ?_ _ | refine zab ?_ | refine zac ?_ _)); exact BK262.o) hb); have n1_ := zaa.mk (zaj (by (with_reducible repeat (first | refine zad ?_ _ | refine zab ?_ | refine zac ?_ _)); exact BK270.o) hb); have n2_ := zaa.mk (zaj (by (with_reducible repeat (first | refine zad ?_ _ | refine zab ?_ | refine zac ?_ _)); exact BK271.o) hb); have n3_ := zaa.mk (zaj (by (with_reducible repeat (first | refine zad ?_ _ | refine zab ?_ | refine zac ?_ _)); exact BK272.o) hb); have n4_ := zaa.mk (zao (by repeat (first | (with_reducible first | exact HB.o | apply zaf | apply zah | apply zag | refine zae ?_ GE262.o | refine zae ?_ GE270.o | refine zae ?_ GE271.o | refine zae ?_ GE272.o) | exact HB.o)) hb); have n5_ := zaa.mk (hbox); have n6_ := zaa.mk ((by rw [hg]; exact (zan (by repeat (first | (with_reducible first | exact HB.o | apply zaf | apply zah | apply zag | refine zae ?_ GE262.o | refine zae ?_ GE270.o | refine zae ?_ GE271.o | refine zae ?_ GE272.o) | exact HB.o))) : w.heap.size ≤ gb276)); have n7_ := zaa.mk ((by rw [hg]; exact (zan (by repeat (first | (with_reducible first | exact HB.o | apply zaf | apply zah | apply zag | refine zae ?_ GE262.o | refine zae ?_ GE270.o | refine zae ?_ GE271.o | refine zae ?_ GE272.o) | exact HB.o))) : w.heap.size ≤ gb276)); have n8_ := zaa.mk ((by rw [hg]; exact Nat.ne_of_lt (zal (g := gb262) (o := .cells #[.int .i16 a0_0, .int .i16 a0_1, .int .i16 a0_2, .int .i16 a0_3, .int .i16 a0_4, .int .i16 a0_5] 40 (0, 0)) (by (with_reducible repeat (first | refine zad ?_ _ | refine zab ?_ | refine zac ?_ _)); exact BK262.o)) : gb262 ≠ gb276)); have n9_ := zaa.mk ((by rw [hg]; exact Nat.ne_of_gt (zal (g := gb262) (o := .cells #[.int .i16 a0_0, .int .i16 a0_1, .int .i16 a0_2, .int .i16 a0_3, .int .i16 a0_4, .int .i16 a0_5] 40 (0, 0)) (by (with_reducible repeat (first | refine zad ?_ _ | refine zab ?_ | refine zac ?_ _)); exact BK262.o)) : gb276 ≠ gb262)); have n10_ := zaa.mk ((by rw [hg]; exact Nat.ne_of_lt (zal (g := gb270) (o := .cells #[.int .i64 t264, .int .i64 t265, .int .i64 t266, .int .i64 t267, .int .i64 t268, .int .i64 t269] 41 (0, 0)) (by (with_reducible repeat (first | refine zad ?_ _ | refine zab ?_ | refine zac ?_ _)); exact BK270.o)) : gb270 ≠ gb276)); have n11_ := zaa.mk ((by rw [hg]; exact Nat.ne_of_gt (zal (g := gb270) (o := .cells #[.int .i64 t264, .int .i64 t265, .int .i64 t266, .int .i64 t267, .int .i64 t268, .int .i64 t269] 41 (0, 0)) (by (with_reducible repeat (first | refine zad ?_ _ | refine zab ?_ | refine zac ?_ _)); exact BK270.o)) : gb276 ≠ gb270)); have n12_ := zaa.mk ((by rw [hg]; exact Nat.ne_of_lt (zal (g := gb271) (o := .cells #[.int .i64 t264, .int .i64 t265] 24 (0, 0)) (by (with_reducible repeat (first | refine zad ?_ _ | refine zab ?_ | refine zac ?_ _)); exact BK271.o)) : gb271 ≠ gb276)); have n13_ := zaa.mk ((by rw [hg]; exact Nat.ne_of_gt (zal (g := gb271) (o := .cells #[.int .i64 t264, .int .i64 t265] 24 (0, 0)) (by (with_reducible repeat (first | refine zad ?_ _ | refine zab ?_ | refine zac ?_ _)); exact BK271.o)) : gb276 ≠ gb271)); have n14_ := zaa.mk ((by rw [hg]; exact Nat.ne_of_lt (zal (g := gb272) (o := .cells #[.int .i64 t266, .int .i64 t267] 24 (0, 0)) (by (with_reducible repeat (first | refine zad ?_ _ | refine zab ?_ | refine zac ?_ _)); exact BK272.o)) : gb272 ≠ gb276)); have n15_ := zaa.mk ((by rw [hg]; exact Nat.ne_of_gt (zal (g := gb272) (o := .cells #[.int .i64 t266, .int .i64 t267] 24 (0, 0)) (by (with_reducible repeat (first | refine zad ?_ _ | refine zab ?_ | refine zac ?_ _)); exact BK272.o)) : gb276 ≠ gb272)); clear BK262; clear BK270; clear BK271; clear BK272; clear HB; have BK262 := n0_; have BK270 := n1_; have BK271 := n2_; have BK272 := n3_; have HB := n4_; have BK276 := n5_; have GW276 := n6_; have GE276 := n7_; have NB262_276 := n8_; have NB276_262 := n9_; have NB270_276 := n10_; have NB276_270 := n11_; have NB271_276 := n12_; have NB276_271 := n13_; have NB272_276 := n14_; have NB276_272 := n15_; clear n0_ n1_ n2_ n3_ n4_ n5_ n6_ n7_ n8_ n9_ n10_ n11_ n12_ n13_ n14_ n15_; clear hb hbox hg; have hnb32 := NB276_262.o; have hnc32 := NB262_276.o; have hnb33 := NB276_270.o; have hnc33 := NB270_276.o; have hnb34 := NB276_271.o; have hnc34 := NB271_276.o; have hnb35 := NB276_272.o; have hnc35 := NB272_276.o; obtain ⟨hcz36_0, hcz36_1⟩ := cz2 BK276.o; obtain ⟨hfz36_0, hfz36_1⟩ := fz2 BK276.o))
  (try simp only [Act.put, List.setIfInBounds_toArray, List.set_cons_zero, List.set_cons_succ])
  go_cut [] (fun wc => ∃ (kq : Nat), zaa (vinculumlaw02_RationalUndo.j0 kq t264 t265 t266 t267 = some r) ∧ zaa (kq ≤ k) ∧ zaa (wc.heap[gb262]? = some (.cells #[.int .i16 a0_0, .int .i16 a0_1, .int .i16 a0_2, .int .i16 a0_3, .int .i16 a0_4, .int .i16 a0_5] 40 (0, 0))) ∧ zaa (wc.heap[gb270]? = some (.cells #[.int .i64 t264, .int .i64 t265, .int .i64 t266, .int .i64 t267, .int .i64 t268, .int .i64 t269] 41 (0, 0))) ∧ zaa (wc.heap[gb271]? = some (.cells #[.int .i64 t264, .int .i64 t265] 24 (0, 0))) ∧ zaa (wc.heap[gb272]? = some (.cells #[.int .i64 t266, .int .i64 t267] 24 (0, 0))) ∧ zaa (wc.heap[gb276]? = some (.cells #[.int .i64 t273, .int .i64 t274] 24 (0, 0))) ∧ zaa (Below w.heap.size w wc))
  case first =>
   have H := HC6.out
   clear HC6
   by_cases c37 : t275 = 0
   ·rw [if_pos c37] at H
    have c37b0 : (t275 == 0) = true := beq_iff_eq.mpr c37
    have c37b1 : (t275 != 0) = false := bne_eq_false_iff_eq.mpr c37
    clear c37
    (first | rw [c37b0] | (simp only [i64_w, i32_w]; rw [c37b0]) | skip)
    replace H := Option.bind_eq_some_iff.mp H
    obtain ⟨⟨t277, t278, t279⟩, A380, H⟩ := H
    replace H : (if t279 = 0 then (if (!(t277 == t264) || (!(t278 == t265))) = true then (none) else (vinculumlaw02_RationalUndo.j0 k t264 t265 t266 t267)) else (none)) = some r := H
    have A38 := zaa.mk A380
    clear A380
    by_cases c39 : t279 = 0
    ·rw [if_pos c39] at H
     have c39b0 : (t279 == 0) = true := beq_iff_eq.mpr c39
     have c39b1 : (t279 != 0) = false := bne_eq_false_iff_eq.mpr c39
     clear c39
     by_cases c40 : (!(t277 == t264) || (!(t278 == t265))) = true
     ·rw [if_pos c40] at H
      exact absurd H (by simp)
     ·rw [if_neg c40] at H
      have c40b0 : (!(t277 == t264) || (!(t278 == t265))) = false := by simpa using c40
      clear c40
      have H' := zaa.mk H
      clear H
      have hnb41 := NB276_262.o
      have hnc41 := NB262_276.o
      have hnb42 := NB276_270.o
      have hnc42 := NB270_276.o
      have hnb43 := NB276_271.o
      have hnc43 := NB271_276.o
      have hnb44 := NB276_272.o
      have hnc44 := NB272_276.o
      have hcz45_0 : w31.cell? ⟨gb276, 0, none⟩ = some (.int .i64 0) := (zai BK276.o 0).trans rfl
      have hcz45_1 : w31.cell? ⟨gb276, 1, none⟩ = some (.int .i64 0) := (zai BK276.o 1).trans rfl
      have hfz45_0 := zak BK276.o 0
      have hfz45_1 := zak BK276.o 1
      have hnb46 := NB272_262.o
      have hnc46 := NB262_272.o
      have hnb47 := NB272_270.o
      have hnc47 := NB270_272.o
      have hnb48 := NB272_271.o
      have hnc48 := NB271_272.o
      have hcz49_0 : w31.cell? ⟨gb272, 0, none⟩ = some (.int .i64 t266) := (zai BK272.o 0).trans rfl
      have hcz49_1 : w31.cell? ⟨gb272, 1, none⟩ = some (.int .i64 t267) := (zai BK272.o 1).trans rfl
      have hfz49_0 := zak BK272.o 0
      have hfz49_1 := zak BK272.o 1
      go_wp2_with (first | ((with_reducible refine zas (f := 25) rfl ?_); refine zat (some 33) rfl rfl Tryd.func25 (by kernel_rfl) rfl #[.agg #[.int .i64 t273, .int .i64 t274], .agg #[.int .i64 t266, .int .i64 t267]] rfl (by (try simp only [List.map_toArray, List.map_cons, List.map_nil]); first | done | rfl | (simp only [List.length_drop, List.length_take]; rfl)) ?_; (with_reducible refine (rational_Sub.calls k t273 t274 t266 t267 t277 t278 t279 _ A38.o).mono ?_); rintro e w50 ⟨rfl, hb⟩; refine ⟨_, rfl, ?_⟩; have n0_ := zaa.mk (zaj (g := gb262) (o := .cells #[.int .i16 a0_0, .int .i16 a0_1, .int .i16 a0_2, .int .i16 a0_3, .int .i16 a0_4, .int .i16 a0_5] 40 (0, 0)) (by (with_reducible repeat (first | refine zad ?_ _ | refine zab ?_ | refine zac ?_ _)); refine zam ?_ NB262_276.o _; (with_reducible repeat (first | refine zad ?_ _ | refine zab ?_ | refine zac ?_ _)); refine zam ?_ NB262_276.o _; (with_reducible repeat (first | refine zad ?_ _ | refine zab ?_ | refine zac ?_ _)); exact BK262.o) hb); have n1_ := zaa.mk (zaj (g := gb270) (o := .cells #[.int .i64 t264, .int .i64 t265, .int .i64 t266, .int .i64 t267, .int .i64 t268, .int .i64 t269] 41 (0, 0)) (by (with_reducible repeat (first | refine zad ?_ _ | refine zab ?_ | refine zac ?_ _)); refine zam ?_ NB270_276.o _; (with_reducible repeat (first | refine zad ?_ _ | refine zab ?_ | refine zac ?_ _)); refine zam ?_ NB270_276.o _; (with_reducible repeat (first | refine zad ?_ _ | refine zab ?_ | refine zac ?_ _)); exact BK270.o) hb); have n2_ := zaa.mk (zaj (g := gb271) (o := .cells #[.int .i64 t264, .int .i64 t265] 24 (0, 0)) (by (with_reducible repeat (first | refine zad ?_ _ | refine zab ?_ | refine zac ?_ _)); refine zam ?_ NB271_276.o _; (with_reducible repeat (first | refine zad ?_ _ | refine zab ?_ | refine zac ?_ _)); refine zam ?_ NB271_276.o _; (with_reducible repeat (first | refine zad ?_ _ | refine zab ?_ | refine zac ?_ _)); exact BK271.o) hb); have n3_ := zaa.mk (zaj (g := gb272) (o := .cells #[.int .i64 t266, .int .i64 t267] 24 (0, 0)) (by (with_reducible repeat (first | refine zad ?_ _ | refine zab ?_ | refine zac ?_ _)); refine zam ?_ NB272_276.o _; (with_reducible repeat (first | refine zad ?_ _ | refine zab ?_ | refine zac ?_ _)); refine zam ?_ NB272_276.o _; (with_reducible repeat (first | refine zad ?_ _ | refine zab ?_ | refine zac ?_ _)); exact BK272.o) hb); have n4_ := zaa.mk (zaj (g := gb276) (o := .cells #[.int .i64 t273, .int .i64 t274] 24 (0, 0)) (by (with_reducible repeat (first | refine zad ?_ _ | refine zab ?_ | refine zac ?_ _)); refine zap (cs := #[.int .i64 t273, .int .i64 0]) ?_ 1 _ rfl; (with_reducible repeat (first | refine zad ?_ _ | refine zab ?_ | refine zac ?_ _)); refine zap (cs := #[.int .i64 0, .int .i64 0]) ?_ 0 _ rfl; (with_reducible repeat (first | refine zad ?_ _ | refine zab ?_ | refine zac ?_ _)); exact BK276.o) hb); have n5_ := zaa.mk (zao (by repeat (first | (with_reducible first | exact HB.o | apply zaf | apply zah | apply zag | refine zae ?_ GE262.o | refine zae ?_ GE270.o | refine zae ?_ GE271.o | refine zae ?_ GE272.o | refine zae ?_ GE276.o) | exact HB.o)) hb); clear BK262; clear BK270; clear BK271; clear BK272; clear BK276; clear HB; have BK262 := n0_; have BK270 := n1_; have BK271 := n2_; have BK272 := n3_; have BK276 := n4_; have HB := n5_; clear n0_ n1_ n2_ n3_ n4_ n5_; (try clear hb); (try clear hb2); (try clear hk); (try clear hi)) | ((with_reducible refine zaq (N := 8) rfl ?_); refine zar ?hg (N := 8) ?hd (cs := #[.int .i64 0, .int .i64 0]) (t := 24) ?hr ?_; (case hd => rfl); (case hg => rfl); (case hr => first | (go_simp; done) | (go_simp; rfl)); intro gb280 hg w51 hbox hb; have n0_ := zaa.mk (zaj (by (with_reducible repeat (first | refine zad ?_ _ | refine zab ?_ | refine zac ?_ _)); exact BK262.o) hb); have n1_ := zaa.mk (zaj (by (with_reducible repeat (first | refine zad ?_ _ | refine zab ?_ | refine zac ?_ _)); exact BK270.o) hb); have n2_ := zaa.mk (zaj (by (with_reducible repeat (first | refine zad ?_ _ | refine zab ?_ | refine zac ?_ _)); exact BK271.o) hb); have n3_ := zaa.mk (zaj (by (with_reducible repeat (first | refine zad ?_ _ | refine zab ?_ | refine zac ?_ _)); exact BK272.o) hb); have n4_ := zaa.mk (zaj (by (with_reducible repeat (first | refine zad ?_ _ | refine zab ?_ | refine zac ?_ _)); exact BK276.o) hb); have n5_ := zaa.mk (zao (by repeat (first | (with_reducible first | exact HB.o | apply zaf | apply zah | apply zag | refine zae ?_ GE262.o | refine zae ?_ GE270.o | refine zae ?_ GE271.o | refine zae ?_ GE272.o | refine zae ?_ GE276.o) | exact HB.o)) hb); have n6_ := zaa.mk (hbox); have n7_ := zaa.mk ((by rw [hg]; exact (zan (by repeat (first | (with_reducible first | exact HB.o | apply zaf | apply zah | apply zag | refine zae ?_ GE262.o | refine zae ?_ GE270.o | refine zae ?_ GE271.o | refine zae ?_ GE272.o | refine zae ?_ GE276.o) | exact HB.o))) : w.heap.size ≤ gb280)); have n8_ := zaa.mk ((by rw [hg]; exact (zan (by repeat (first | (with_reducible first | exact HB.o | apply zaf | apply zah | apply zag | refine zae ?_ GE262.o | refine zae ?_ GE270.o | refine zae ?_ GE271.o | refine zae ?_ GE272.o | refine zae ?_ GE276.o) | exact HB.o))) : w.heap.size ≤ gb280)); have n9_ := zaa.mk ((by rw [hg]; exact Nat.ne_of_lt (zal (g := gb262) (o := .cells #[.int .i16 a0_0, .int .i16 a0_1, .int .i16 a0_2, .int .i16 a0_3, .int .i16 a0_4, .int .i16 a0_5] 40 (0, 0)) (by (with_reducible repeat (first | refine zad ?_ _ | refine zab ?_ | refine zac ?_ _)); exact BK262.o)) : gb262 ≠ gb280)); have n10_ := zaa.mk ((by rw [hg]; exact Nat.ne_of_gt (zal (g := gb262) (o := .cells #[.int .i16 a0_0, .int .i16 a0_1, .int .i16 a0_2, .int .i16 a0_3, .int .i16 a0_4, .int .i16 a0_5] 40 (0, 0)) (by (with_reducible repeat (first | refine zad ?_ _ | refine zab ?_ | refine zac ?_ _)); exact BK262.o)) : gb280 ≠ gb262)); have n11_ := zaa.mk ((by rw [hg]; exact Nat.ne_of_lt (zal (g := gb270) (o := .cells #[.int .i64 t264, .int .i64 t265, .int .i64 t266, .int .i64 t267, .int .i64 t268, .int .i64 t269] 41 (0, 0)) (by (with_reducible repeat (first | refine zad ?_ _ | refine zab ?_ | refine zac ?_ _)); exact BK270.o)) : gb270 ≠ gb280)); have n12_ := zaa.mk ((by rw [hg]; exact Nat.ne_of_gt (zal (g := gb270) (o := .cells #[.int .i64 t264, .int .i64 t265, .int .i64 t266, .int .i64 t267, .int .i64 t268, .int .i64 t269] 41 (0, 0)) (by (with_reducible repeat (first | refine zad ?_ _ | refine zab ?_ | refine zac ?_ _)); exact BK270.o)) : gb280 ≠ gb270)); have n13_ := zaa.mk ((by rw [hg]; exact Nat.ne_of_lt (zal (g := gb271) (o := .cells #[.int .i64 t264, .int .i64 t265] 24 (0, 0)) (by (with_reducible repeat (first | refine zad ?_ _ | refine zab ?_ | refine zac ?_ _)); exact BK271.o)) : gb271 ≠ gb280)); have n14_ := zaa.mk ((by rw [hg]; exact Nat.ne_of_gt (zal (g := gb271) (o := .cells #[.int .i64 t264, .int .i64 t265] 24 (0, 0)) (by (with_reducible repeat (first | refine zad ?_ _ | refine zab ?_ | refine zac ?_ _)); exact BK271.o)) : gb280 ≠ gb271)); have n15_ := zaa.mk ((by rw [hg]; exact Nat.ne_of_lt (zal (g := gb272) (o := .cells #[.int .i64 t266, .int .i64 t267] 24 (0, 0)) (by (with_reducible repeat (first | refine zad ?_ _ | refine zab ?_ | refine zac ?_ _)); exact BK272.o)) : gb272 ≠ gb280)); have n16_ := zaa.mk ((by rw [hg]; exact Nat.ne_of_gt (zal (g := gb272) (o := .cells #[.int .i64 t266, .int .i64 t267] 24 (0, 0)) (by (with_reducible repeat (first | refine zad ?_ _ | refine zab ?_ | refine zac ?_ _)); exact BK272.o)) : gb280 ≠ gb272)); have n17_ := zaa.mk ((by rw [hg]; exact Nat.ne_of_lt (zal (g := gb276) (o := .cells #[.int .i64 t273, .int .i64 t274] 24 (0, 0)) (by (with_reducible repeat (first | refine zad ?_ _ | refine zab ?_ | refine zac ?_ _)); exact BK276.o)) : gb276 ≠ gb280)); have n18_ := zaa.mk ((by rw [hg]; exact Nat.ne_of_gt (zal (g := gb276) (o := .cells #[.int .i64 t273, .int .i64 t274] 24 (0, 0)) (by (with_reducible repeat (first | refine zad ?_ _ | refine zab ?_ | refine zac ?_ _)); exact BK276.o)) : gb280 ≠ gb276)); clear BK262; clear BK270; clear BK271; clear BK272; clear BK276; clear HB; have BK262 := n0_; have BK270 := n1_; have BK271 := n2_; have BK272 := n3_; have BK276 := n4_; have HB := n5_; have BK280 := n6_; have GW280 := n7_; have GE280 := n8_; have NB262_280 := n9_; have NB280_262 := n10_; have NB270_280 := n11_; have NB280_270 := n12_; have NB271_280 := n13_; have NB280_271 := n14_; have NB272_280 := n15_; have NB280_272 := n16_; have NB276_280 := n17_; have NB280_276 := n18_; clear n0_ n1_ n2_ n3_ n4_ n5_ n6_ n7_ n8_ n9_ n10_ n11_ n12_ n13_ n14_ n15_ n16_ n17_ n18_; clear hb hbox hg; have hnb52 := NB280_262.o; have hnc52 := NB262_280.o; have hnb53 := NB280_270.o; have hnc53 := NB270_280.o; have hnb54 := NB280_271.o; have hnc54 := NB271_280.o; have hnb55 := NB280_272.o; have hnc55 := NB272_280.o; have hnb56 := NB280_276.o; have hnc56 := NB276_280.o; obtain ⟨hcz57_0, hcz57_1⟩ := cz2 BK280.o; obtain ⟨hfz57_0, hfz57_1⟩ := fz2 BK280.o; have hnb58 := NB271_262.o; have hnc58 := NB262_271.o; have hnb59 := NB271_270.o; have hnc59 := NB270_271.o; obtain ⟨hcz60_0, hcz60_1⟩ := cz2 BK271.o; obtain ⟨hfz60_0, hfz60_1⟩ := fz2 BK271.o))
      go_meet
      case rel => exact ⟨_, H', ⟨by first | omega | exact Nat.le_refl _⟩, ⟨by (with_reducible repeat (first | refine zad ?_ _ | refine zab ?_ | refine zac ?_ _)); refine zam ?_ NB262_280.o _; (with_reducible repeat (first | refine zad ?_ _ | refine zab ?_ | refine zac ?_ _)); refine zam ?_ NB262_280.o _; (with_reducible repeat (first | refine zad ?_ _ | refine zab ?_ | refine zac ?_ _)); exact BK262.o⟩, ⟨by (with_reducible repeat (first | refine zad ?_ _ | refine zab ?_ | refine zac ?_ _)); refine zam ?_ NB270_280.o _; (with_reducible repeat (first | refine zad ?_ _ | refine zab ?_ | refine zac ?_ _)); refine zam ?_ NB270_280.o _; (with_reducible repeat (first | refine zad ?_ _ | refine zab ?_ | refine zac ?_ _)); exact BK270.o⟩, ⟨by (with_reducible repeat (first | refine zad ?_ _ | refine zab ?_ | refine zac ?_ _)); refine zam ?_ NB271_280.o _; (with_reducible repeat (first | refine zad ?_ _ | refine zab ?_ | refine zac ?_ _)); refine zam ?_ NB271_280.o _; (with_reducible repeat (first | refine zad ?_ _ | refine zab ?_ | refine zac ?_ _)); exact BK271.o⟩, ⟨by (with_reducible repeat (first | refine zad ?_ _ | refine zab ?_ | refine zac ?_ _)); refine zam ?_ NB272_280.o _; (with_reducible repeat (first | refine zad ?_ _ | refine zab ?_ | refine zac ?_ _)); refine zam ?_ NB272_280.o _; (with_reducible repeat (first | refine zad ?_ _ | refine zab ?_ | refine zac ?_ _)); exact BK272.o⟩, ⟨by (with_reducible repeat (first | refine zad ?_ _ | refine zab ?_ | refine zac ?_ _)); refine zam ?_ NB276_280.o _; (with_reducible repeat (first | refine zad ?_ _ | refine zab ?_ | refine zac ?_ _)); refine zam ?_ NB276_280.o _; (with_reducible repeat (first | refine zad ?_ _ | refine zab ?_ | refine zac ?_ _)); exact BK276.o⟩, ⟨by repeat (first | (with_reducible first | exact HB.o | apply zaf | apply zah | apply zag | refine zae ?_ GE262.o | refine zae ?_ GE270.o | refine zae ?_ GE271.o | refine zae ?_ GE272.o | refine zae ?_ GE276.o | refine zae ?_ GE280.o) | exact HB.o)⟩⟩
    ·rw [if_neg c39] at H
     exact absurd H (by simp)
   ·rw [if_neg c37] at H
    have c37b0 : (t275 == 0) = false := beq_eq_false_iff_ne.mpr c37
    have c37b1 : (t275 != 0) = true := bne_iff_ne.mpr c37
    (first | rw [c37b0] | (simp only [i64_w, i32_w]; rw [c37b0]) | skip)
    have H' := zaa.mk H
    clear H
    go_wp2
    go_meet
    case rel => exact ⟨_, H', ⟨by first | omega | exact Nat.le_refl _⟩, ⟨by (with_reducible repeat (first | refine zad ?_ _ | refine zab ?_ | refine zac ?_ _)); refine zam ?_ NB262_276.o _; (with_reducible repeat (first | refine zad ?_ _ | refine zab ?_ | refine zac ?_ _)); refine zam ?_ NB262_276.o _; (with_reducible repeat (first | refine zad ?_ _ | refine zab ?_ | refine zac ?_ _)); exact BK262.o⟩, ⟨by (with_reducible repeat (first | refine zad ?_ _ | refine zab ?_ | refine zac ?_ _)); refine zam ?_ NB270_276.o _; (with_reducible repeat (first | refine zad ?_ _ | refine zab ?_ | refine zac ?_ _)); refine zam ?_ NB270_276.o _; (with_reducible repeat (first | refine zad ?_ _ | refine zab ?_ | refine zac ?_ _)); exact BK270.o⟩, ⟨by (with_reducible repeat (first | refine zad ?_ _ | refine zab ?_ | refine zac ?_ _)); refine zam ?_ NB271_276.o _; (with_reducible repeat (first | refine zad ?_ _ | refine zab ?_ | refine zac ?_ _)); refine zam ?_ NB271_276.o _; (with_reducible repeat (first | refine zad ?_ _ | refine zab ?_ | refine zac ?_ _)); exact BK271.o⟩, ⟨by (with_reducible repeat (first | refine zad ?_ _ | refine zab ?_ | refine zac ?_ _)); refine zam ?_ NB272_276.o _; (with_reducible repeat (first | refine zad ?_ _ | refine zab ?_ | refine zac ?_ _)); refine zam ?_ NB272_276.o _; (with_reducible repeat (first | refine zad ?_ _ | refine zab ?_ | refine zac ?_ _)); exact BK272.o⟩, ⟨by (with_reducible repeat (first | refine zad ?_ _ | refine zab ?_ | refine zac ?_ _)); refine zap (cs := #[.int .i64 t273, .int .i64 0]) ?_ 1 _ rfl; (with_reducible repeat (first | refine zad ?_ _ | refine zab ?_ | refine zac ?_ _)); refine zap (cs := #[.int .i64 0, .int .i64 0]) ?_ 0 _ rfl; (with_reducible repeat (first | refine zad ?_ _ | refine zab ?_ | refine zac ?_ _)); exact BK276.o⟩, ⟨by repeat (first | (with_reducible first | exact HB.o | apply zaf | apply zah | apply zag | refine zae ?_ GE262.o | refine zae ?_ GE270.o | refine zae ?_ GE271.o | refine zae ?_ GE272.o | refine zae ?_ GE276.o) | exact HB.o)⟩⟩
  case rest =>
   clear HC6
   try clear c1
   try clear c2
   try clear p2
   try clear c3
   try clear c4
   try clear c5
   try clear c12
   try clear c20
   try clear c23
   try clear c24
   try clear c25
   try clear c27
   try clear c28
   try clear c32
   try clear c33
   try clear c34
   try clear c35
   try clear c37
   try clear c37b0
   try clear c37b1
   try clear c39
   try clear c39b0
   try clear c39b1
   try clear c40
   try clear c40b0
   try clear c41
   try clear c42
   try clear c43
   try clear c44
   try clear c46
   try clear c47
   try clear c48
   try clear c52
   try clear c53
   try clear c54
   try clear c55
   try clear c56
   try clear c58
   try clear c59
   try clear hcz13_0
   try clear hcz13_1
   try clear hcz13_2
   try clear hcz13_3
   try clear hcz13_4
   try clear hcz13_5
   try clear hcz26_0
   try clear hcz26_1
   try clear hcz29_0
   try clear hcz29_1
   try clear hcz36_0
   try clear hcz36_1
   try clear hcz45_0
   try clear hcz45_1
   try clear hcz49_0
   try clear hcz49_1
   try clear hcz57_0
   try clear hcz57_1
   try clear hcz60_0
   try clear hcz60_1
   try clear hcz9_0
   try clear hcz9_1
   try clear hcz9_2
   try clear hcz9_3
   try clear hcz9_4
   try clear hcz9_5
   try clear hfz13_0
   try clear hfz13_1
   try clear hfz13_2
   try clear hfz13_3
   try clear hfz13_4
   try clear hfz13_5
   try clear hfz26_0
   try clear hfz26_1
   try clear hfz29_0
   try clear hfz29_1
   try clear hfz36_0
   try clear hfz36_1
   try clear hfz45_0
   try clear hfz45_1
   try clear hfz49_0
   try clear hfz49_1
   try clear hfz57_0
   try clear hfz57_1
   try clear hfz60_0
   try clear hfz60_1
   try clear hfz9_0
   try clear hfz9_1
   try clear hfz9_2
   try clear hfz9_3
   try clear hfz9_4
   try clear hfz9_5
   obtain ⟨kq, HA, HJ5, BK262, BK270, BK271, BK272, BK276, HB⟩ := hcut
   cases kq with
   | zero => exact absurd HA.o (by simp [vinculumlaw02_RationalUndo.j0])
   | succ kj5 =>
    have H := HA.o
    clear HA
    simp only [vinculumlaw02_RationalUndo.j0] at H
    replace H := Option.bind_eq_some_iff.mp H
    obtain ⟨⟨t281, t282, t283⟩, A610, H⟩ := H
    replace H : (if t283 = 0 then (vinculumlaw02_RationalUndo.j1 kj5 (t266 != 0) t264 t265 t266 t267 t281 t282) else (vinculumlaw02_RationalUndo.j1 kj5 false t264 t265 t266 t267 t281 t282)) = some r := H
    have A61 := zaa.mk A610
    clear A610
    have HC62 := zaa.mk H
    clear H
    have hnb63 := NB271_262.o
    have hnc63 := NB262_271.o
    have hnb64 := NB271_270.o
    have hnc64 := NB270_271.o
    have hnb65 := NB271_272.o
    have hnc65 := NB272_271.o
    have hnb66 := NB271_276.o
    have hnc66 := NB276_271.o
    have hcz67_0 : wc.cell? ⟨gb271, 0, none⟩ = some (.int .i64 t264) := (zai BK271.o 0).trans rfl
    have hcz67_1 : wc.cell? ⟨gb271, 1, none⟩ = some (.int .i64 t265) := (zai BK271.o 1).trans rfl
    have hfz67_0 := zak BK271.o 0
    have hfz67_1 := zak BK271.o 1
    have hnb68 := NB272_262.o
    have hnc68 := NB262_272.o
    have hnb69 := NB272_270.o
    have hnc69 := NB270_272.o
    have hnb70 := NB272_276.o
    have hnc70 := NB276_272.o
    have hcz71_0 : wc.cell? ⟨gb272, 0, none⟩ = some (.int .i64 t266) := (zai BK272.o 0).trans rfl
    have hcz71_1 : wc.cell? ⟨gb272, 1, none⟩ = some (.int .i64 t267) := (zai BK272.o 1).trans rfl
    have hfz71_0 := zak BK272.o 0
    have hfz71_1 := zak BK272.o 1
    go_upto_region 11 with (first | ((with_reducible refine zas (f := 24) rfl ?_); refine zat (some 46) rfl rfl Tryd.func24 (by kernel_rfl) rfl #[.agg #[.int .i64 t264, .int .i64 t265], .agg #[.int .i64 t266, .int .i64 t267]] rfl (by (try simp only [List.map_toArray, List.map_cons, List.map_nil]); first | done | rfl | (simp only [List.length_drop, List.length_take]; rfl)) ?_; (with_reducible refine (rational_Mul.calls kj5 t264 t265 t266 t267 t281 t282 t283 _ A61.o).mono ?_); rintro e w72 ⟨rfl, hb⟩; refine ⟨_, rfl, ?_⟩; have n0_ := zaa.mk (zaj (by (with_reducible repeat (first | refine zad ?_ _ | refine zab ?_ | refine zac ?_ _)); exact BK262.o) hb); have n1_ := zaa.mk (zaj (by (with_reducible repeat (first | refine zad ?_ _ | refine zab ?_ | refine zac ?_ _)); exact BK270.o) hb); have n2_ := zaa.mk (zaj (by (with_reducible repeat (first | refine zad ?_ _ | refine zab ?_ | refine zac ?_ _)); exact BK271.o) hb); have n3_ := zaa.mk (zaj (by (with_reducible repeat (first | refine zad ?_ _ | refine zab ?_ | refine zac ?_ _)); exact BK272.o) hb); have n4_ := zaa.mk (zaj (by (with_reducible repeat (first | refine zad ?_ _ | refine zab ?_ | refine zac ?_ _)); exact BK276.o) hb); have n5_ := zaa.mk (zao (by repeat (first | (with_reducible first | exact HB.o | apply zaf | apply zah | apply zag | refine zae ?_ GE262.o | refine zae ?_ GE270.o | refine zae ?_ GE271.o | refine zae ?_ GE272.o | refine zae ?_ GE276.o) | exact HB.o)) hb); clear BK262; clear BK270; clear BK271; clear BK272; clear BK276; clear HB; have BK262 := n0_; have BK270 := n1_; have BK271 := n2_; have BK272 := n3_; have BK276 := n4_; have HB := n5_; clear n0_ n1_ n2_ n3_ n4_ n5_; (try clear hb); (try clear hb2); (try clear hk); (try clear hi)) | ((with_reducible refine zaq (N := 10) rfl ?_); refine zar ?hg (N := 10) ?hd (cs := #[.int .i64 0, .int .i64 0]) (t := 24) ?hr ?_; (case hd => rfl); (case hg => rfl); (case hr => first | (go_simp; done) | (go_simp; rfl)); intro gb284 hg w73 hbox hb; have n0_ := zaa.mk (zaj (by (with_reducible repeat (first | refine zad ?_ _ | refine zab ?_ | refine zac ?_ _)); exact BK262.o) hb); have n1_ := zaa.mk (zaj (by (with_reducible repeat (first | refine zad ?_ _ | refine zab ?_ | refine zac ?_ _)); exact BK270.o) hb); have n2_ := zaa.mk (zaj (by (with_reducible repeat (first | refine zad ?_ _ | refine zab ?_ | refine zac ?_ _)); exact BK271.o) hb); have n3_ := zaa.mk (zaj (by (with_reducible repeat (first | refine zad ?_ _ | refine zab ?_ | refine zac ?_ _)); exact BK272.o) hb); have n4_ := zaa.mk (zaj (by (with_reducible repeat (first | refine zad ?_ _ | refine zab ?_ | refine zac ?_ _)); exact BK276.o) hb); have n5_ := zaa.mk (zao (by repeat (first | (with_reducible first | exact HB.o | apply zaf | apply zah | apply zag | refine zae ?_ GE262.o | refine zae ?_ GE270.o | refine zae ?_ GE271.o | refine zae ?_ GE272.o | refine zae ?_ GE276.o) | exact HB.o)) hb); have n6_ := zaa.mk (hbox); have n7_ := zaa.mk ((by rw [hg]; exact (zan (by repeat (first | (with_reducible first | exact HB.o | apply zaf | apply zah | apply zag | refine zae ?_ GE262.o | refine zae ?_ GE270.o | refine zae ?_ GE271.o | refine zae ?_ GE272.o | refine zae ?_ GE276.o) | exact HB.o))) : w.heap.size ≤ gb284)); have n8_ := zaa.mk ((by rw [hg]; exact (zan (by repeat (first | (with_reducible first | exact HB.o | apply zaf | apply zah | apply zag | refine zae ?_ GE262.o | refine zae ?_ GE270.o | refine zae ?_ GE271.o | refine zae ?_ GE272.o | refine zae ?_ GE276.o) | exact HB.o))) : w.heap.size ≤ gb284)); have n9_ := zaa.mk ((by rw [hg]; exact Nat.ne_of_lt (zal (g := gb262) (o := .cells #[.int .i16 a0_0, .int .i16 a0_1, .int .i16 a0_2, .int .i16 a0_3, .int .i16 a0_4, .int .i16 a0_5] 40 (0, 0)) (by (with_reducible repeat (first | refine zad ?_ _ | refine zab ?_ | refine zac ?_ _)); exact BK262.o)) : gb262 ≠ gb284)); have n10_ := zaa.mk ((by rw [hg]; exact Nat.ne_of_gt (zal (g := gb262) (o := .cells #[.int .i16 a0_0, .int .i16 a0_1, .int .i16 a0_2, .int .i16 a0_3, .int .i16 a0_4, .int .i16 a0_5] 40 (0, 0)) (by (with_reducible repeat (first | refine zad ?_ _ | refine zab ?_ | refine zac ?_ _)); exact BK262.o)) : gb284 ≠ gb262)); have n11_ := zaa.mk ((by rw [hg]; exact Nat.ne_of_lt (zal (g := gb270) (o := .cells #[.int .i64 t264, .int .i64 t265, .int .i64 t266, .int .i64 t267, .int .i64 t268, .int .i64 t269] 41 (0, 0)) (by (with_reducible repeat (first | refine zad ?_ _ | refine zab ?_ | refine zac ?_ _)); exact BK270.o)) : gb270 ≠ gb284)); have n12_ := zaa.mk ((by rw [hg]; exact Nat.ne_of_gt (zal (g := gb270) (o := .cells #[.int .i64 t264, .int .i64 t265, .int .i64 t266, .int .i64 t267, .int .i64 t268, .int .i64 t269] 41 (0, 0)) (by (with_reducible repeat (first | refine zad ?_ _ | refine zab ?_ | refine zac ?_ _)); exact BK270.o)) : gb284 ≠ gb270)); have n13_ := zaa.mk ((by rw [hg]; exact Nat.ne_of_lt (zal (g := gb271) (o := .cells #[.int .i64 t264, .int .i64 t265] 24 (0, 0)) (by (with_reducible repeat (first | refine zad ?_ _ | refine zab ?_ | refine zac ?_ _)); exact BK271.o)) : gb271 ≠ gb284)); have n14_ := zaa.mk ((by rw [hg]; exact Nat.ne_of_gt (zal (g := gb271) (o := .cells #[.int .i64 t264, .int .i64 t265] 24 (0, 0)) (by (with_reducible repeat (first | refine zad ?_ _ | refine zab ?_ | refine zac ?_ _)); exact BK271.o)) : gb284 ≠ gb271)); have n15_ := zaa.mk ((by rw [hg]; exact Nat.ne_of_lt (zal (g := gb272) (o := .cells #[.int .i64 t266, .int .i64 t267] 24 (0, 0)) (by (with_reducible repeat (first | refine zad ?_ _ | refine zab ?_ | refine zac ?_ _)); exact BK272.o)) : gb272 ≠ gb284)); have n16_ := zaa.mk ((by rw [hg]; exact Nat.ne_of_gt (zal (g := gb272) (o := .cells #[.int .i64 t266, .int .i64 t267] 24 (0, 0)) (by (with_reducible repeat (first | refine zad ?_ _ | refine zab ?_ | refine zac ?_ _)); exact BK272.o)) : gb284 ≠ gb272)); have n17_ := zaa.mk ((by rw [hg]; exact Nat.ne_of_lt (zal (g := gb276) (o := .cells #[.int .i64 t273, .int .i64 t274] 24 (0, 0)) (by (with_reducible repeat (first | refine zad ?_ _ | refine zab ?_ | refine zac ?_ _)); exact BK276.o)) : gb276 ≠ gb284)); have n18_ := zaa.mk ((by rw [hg]; exact Nat.ne_of_gt (zal (g := gb276) (o := .cells #[.int .i64 t273, .int .i64 t274] 24 (0, 0)) (by (with_reducible repeat (first | refine zad ?_ _ | refine zab ?_ | refine zac ?_ _)); exact BK276.o)) : gb284 ≠ gb276)); clear BK262; clear BK270; clear BK271; clear BK272; clear BK276; clear HB; have BK262 := n0_; have BK270 := n1_; have BK271 := n2_; have BK272 := n3_; have BK276 := n4_; have HB := n5_; have BK284 := n6_; have GW284 := n7_; have GE284 := n8_; have NB262_284 := n9_; have NB284_262 := n10_; have NB270_284 := n11_; have NB284_270 := n12_; have NB271_284 := n13_; have NB284_271 := n14_; have NB272_284 := n15_; have NB284_272 := n16_; have NB276_284 := n17_; have NB284_276 := n18_; clear n0_ n1_ n2_ n3_ n4_ n5_ n6_ n7_ n8_ n9_ n10_ n11_ n12_ n13_ n14_ n15_ n16_ n17_ n18_; clear hb hbox hg; have hnb74 := NB284_262.o; have hnc74 := NB262_284.o; have hnb75 := NB284_270.o; have hnc75 := NB270_284.o; have hnb76 := NB284_271.o; have hnc76 := NB271_284.o; have hnb77 := NB284_272.o; have hnc77 := NB272_284.o; have hnb78 := NB284_276.o; have hnc78 := NB276_284.o; obtain ⟨hcz79_0, hcz79_1⟩ := cz2 BK284.o; obtain ⟨hfz79_0, hfz79_1⟩ := fz2 BK284.o))
    (try simp only [Act.put, List.setIfInBounds_toArray, List.set_cons_zero, List.set_cons_succ])
    go_cut [55] (fun v55 wc => ∃ (kq : Nat) (x55_61 : Bool), v55 = .bool x55_61 ∧ zaa (vinculumlaw02_RationalUndo.j1 kq x55_61 t264 t265 t266 t267 t281 t282 = some r) ∧ zaa (kq ≤ kj5) ∧ zaa (wc.heap[gb262]? = some (.cells #[.int .i16 a0_0, .int .i16 a0_1, .int .i16 a0_2, .int .i16 a0_3, .int .i16 a0_4, .int .i16 a0_5] 40 (0, 0))) ∧ zaa (wc.heap[gb270]? = some (.cells #[.int .i64 t264, .int .i64 t265, .int .i64 t266, .int .i64 t267, .int .i64 t268, .int .i64 t269] 41 (0, 0))) ∧ zaa (wc.heap[gb271]? = some (.cells #[.int .i64 t264, .int .i64 t265] 24 (0, 0))) ∧ zaa (wc.heap[gb272]? = some (.cells #[.int .i64 t266, .int .i64 t267] 24 (0, 0))) ∧ zaa (wc.heap[gb276]? = some (.cells #[.int .i64 t273, .int .i64 t274] 24 (0, 0))) ∧ zaa (wc.heap[gb284]? = some (.cells #[.int .i64 t281, .int .i64 t282] 24 (0, 0))) ∧ zaa (Below w.heap.size w wc))
    case first =>
     have H := HC62.out
     clear HC62
     by_cases c80 : t283 = 0
     ·rw [if_pos c80] at H
      have c80b0 : (t283 == 0) = true := beq_iff_eq.mpr c80
      have c80b1 : (t283 != 0) = false := bne_eq_false_iff_eq.mpr c80
      clear c80
      (first | rw [c80b0] | (simp only [i64_w, i32_w]; rw [c80b0]) | skip)
      have H' := zaa.mk H
      clear H
      have hnb81 := NB272_262.o
      have hnc81 := NB262_272.o
      have hnb82 := NB272_270.o
      have hnc82 := NB270_272.o
      have hnb83 := NB272_271.o
      have hnc83 := NB271_272.o
      have hnb84 := NB272_276.o
      have hnc84 := NB276_272.o
      have hnb85 := NB272_284.o
      have hnc85 := NB284_272.o
      have hcz86_0 : w73.cell? ⟨gb272, 0, none⟩ = some (.int .i64 t266) := (zai BK272.o 0).trans rfl
      have hcz86_1 : w73.cell? ⟨gb272, 1, none⟩ = some (.int .i64 t267) := (zai BK272.o 1).trans rfl
      have hfz86_0 := zak BK272.o 0
      have hfz86_1 := zak BK272.o 1
      go_wp2
      go_meet
      case rel => exact ⟨_, ((t266 != 0)), (by first | rfl | (simp; done) | (simp [*]; done)), H', ⟨by have := HJ5.out; first | omega | exact Nat.le_refl _⟩, ⟨by (with_reducible repeat (first | refine zad ?_ _ | refine zab ?_ | refine zac ?_ _)); refine zam ?_ NB262_284.o _; (with_reducible repeat (first | refine zad ?_ _ | refine zab ?_ | refine zac ?_ _)); refine zam ?_ NB262_284.o _; (with_reducible repeat (first | refine zad ?_ _ | refine zab ?_ | refine zac ?_ _)); exact BK262.o⟩, ⟨by (with_reducible repeat (first | refine zad ?_ _ | refine zab ?_ | refine zac ?_ _)); refine zam ?_ NB270_284.o _; (with_reducible repeat (first | refine zad ?_ _ | refine zab ?_ | refine zac ?_ _)); refine zam ?_ NB270_284.o _; (with_reducible repeat (first | refine zad ?_ _ | refine zab ?_ | refine zac ?_ _)); exact BK270.o⟩, ⟨by (with_reducible repeat (first | refine zad ?_ _ | refine zab ?_ | refine zac ?_ _)); refine zam ?_ NB271_284.o _; (with_reducible repeat (first | refine zad ?_ _ | refine zab ?_ | refine zac ?_ _)); refine zam ?_ NB271_284.o _; (with_reducible repeat (first | refine zad ?_ _ | refine zab ?_ | refine zac ?_ _)); exact BK271.o⟩, ⟨by (with_reducible repeat (first | refine zad ?_ _ | refine zab ?_ | refine zac ?_ _)); refine zam ?_ NB272_284.o _; (with_reducible repeat (first | refine zad ?_ _ | refine zab ?_ | refine zac ?_ _)); refine zam ?_ NB272_284.o _; (with_reducible repeat (first | refine zad ?_ _ | refine zab ?_ | refine zac ?_ _)); exact BK272.o⟩, ⟨by (with_reducible repeat (first | refine zad ?_ _ | refine zab ?_ | refine zac ?_ _)); refine zam ?_ NB276_284.o _; (with_reducible repeat (first | refine zad ?_ _ | refine zab ?_ | refine zac ?_ _)); refine zam ?_ NB276_284.o _; (with_reducible repeat (first | refine zad ?_ _ | refine zab ?_ | refine zac ?_ _)); exact BK276.o⟩, ⟨by (with_reducible repeat (first | refine zad ?_ _ | refine zab ?_ | refine zac ?_ _)); refine zap (cs := #[.int .i64 t281, .int .i64 0]) ?_ 1 _ rfl; (with_reducible repeat (first | refine zad ?_ _ | refine zab ?_ | refine zac ?_ _)); refine zap (cs := #[.int .i64 0, .int .i64 0]) ?_ 0 _ rfl; (with_reducible repeat (first | refine zad ?_ _ | refine zab ?_ | refine zac ?_ _)); exact BK284.o⟩, ⟨by repeat (first | (with_reducible first | exact HB.o | apply zaf | apply zah | apply zag | refine zae ?_ GE262.o | refine zae ?_ GE270.o | refine zae ?_ GE271.o | refine zae ?_ GE272.o | refine zae ?_ GE276.o | refine zae ?_ GE284.o) | exact HB.o)⟩⟩
     ·rw [if_neg c80] at H
      have c80b0 : (t283 == 0) = false := beq_eq_false_iff_ne.mpr c80
      have c80b1 : (t283 != 0) = true := bne_iff_ne.mpr c80
      (first | rw [c80b0] | (simp only [i64_w, i32_w]; rw [c80b0]) | skip)
      have H' := zaa.mk H
      clear H
      go_wp2
      go_meet
      case rel => exact ⟨_, (false), (by first | rfl | (simp; done) | (simp [*]; done)), H', ⟨by have := HJ5.out; first | omega | exact Nat.le_refl _⟩, ⟨by (with_reducible repeat (first | refine zad ?_ _ | refine zab ?_ | refine zac ?_ _)); refine zam ?_ NB262_284.o _; (with_reducible repeat (first | refine zad ?_ _ | refine zab ?_ | refine zac ?_ _)); refine zam ?_ NB262_284.o _; (with_reducible repeat (first | refine zad ?_ _ | refine zab ?_ | refine zac ?_ _)); exact BK262.o⟩, ⟨by (with_reducible repeat (first | refine zad ?_ _ | refine zab ?_ | refine zac ?_ _)); refine zam ?_ NB270_284.o _; (with_reducible repeat (first | refine zad ?_ _ | refine zab ?_ | refine zac ?_ _)); refine zam ?_ NB270_284.o _; (with_reducible repeat (first | refine zad ?_ _ | refine zab ?_ | refine zac ?_ _)); exact BK270.o⟩, ⟨by (with_reducible repeat (first | refine zad ?_ _ | refine zab ?_ | refine zac ?_ _)); refine zam ?_ NB271_284.o _; (with_reducible repeat (first | refine zad ?_ _ | refine zab ?_ | refine zac ?_ _)); refine zam ?_ NB271_284.o _; (with_reducible repeat (first | refine zad ?_ _ | refine zab ?_ | refine zac ?_ _)); exact BK271.o⟩, ⟨by (with_reducible repeat (first | refine zad ?_ _ | refine zab ?_ | refine zac ?_ _)); refine zam ?_ NB272_284.o _; (with_reducible repeat (first | refine zad ?_ _ | refine zab ?_ | refine zac ?_ _)); refine zam ?_ NB272_284.o _; (with_reducible repeat (first | refine zad ?_ _ | refine zab ?_ | refine zac ?_ _)); exact BK272.o⟩, ⟨by (with_reducible repeat (first | refine zad ?_ _ | refine zab ?_ | refine zac ?_ _)); refine zam ?_ NB276_284.o _; (with_reducible repeat (first | refine zad ?_ _ | refine zab ?_ | refine zac ?_ _)); refine zam ?_ NB276_284.o _; (with_reducible repeat (first | refine zad ?_ _ | refine zab ?_ | refine zac ?_ _)); exact BK276.o⟩, ⟨by (with_reducible repeat (first | refine zad ?_ _ | refine zab ?_ | refine zac ?_ _)); refine zap (cs := #[.int .i64 t281, .int .i64 0]) ?_ 1 _ rfl; (with_reducible repeat (first | refine zad ?_ _ | refine zab ?_ | refine zac ?_ _)); refine zap (cs := #[.int .i64 0, .int .i64 0]) ?_ 0 _ rfl; (with_reducible repeat (first | refine zad ?_ _ | refine zab ?_ | refine zac ?_ _)); exact BK284.o⟩, ⟨by repeat (first | (with_reducible first | exact HB.o | apply zaf | apply zah | apply zag | refine zae ?_ GE262.o | refine zae ?_ GE270.o | refine zae ?_ GE271.o | refine zae ?_ GE272.o | refine zae ?_ GE276.o | refine zae ?_ GE284.o) | exact HB.o)⟩⟩
    case rest =>
     clear HC62
     try clear c1
     try clear c2
     try clear p2
     try clear c3
     try clear c4
     try clear c5
     try clear c6
     try clear c7
     try clear c8
     try clear c12
     try clear c20
     try clear c23
     try clear c24
     try clear c25
     try clear c27
     try clear c28
     try clear c32
     try clear c33
     try clear c34
     try clear c35
     try clear c37
     try clear c37b0
     try clear c37b1
     try clear c39
     try clear c39b0
     try clear c39b1
     try clear c40
     try clear c40b0
     try clear c41
     try clear c42
     try clear c43
     try clear c44
     try clear c46
     try clear c47
     try clear c48
     try clear c52
     try clear c53
     try clear c54
     try clear c55
     try clear c56
     try clear c58
     try clear c59
     try clear c63
     try clear c64
     try clear c65
     try clear c66
     try clear c68
     try clear c69
     try clear c70
     try clear c74
     try clear c75
     try clear c76
     try clear c77
     try clear c78
     try clear c80
     try clear c80b0
     try clear c80b1
     try clear c81
     try clear c82
     try clear c83
     try clear c84
     try clear c85
     try clear hcz13_0
     try clear hcz13_1
     try clear hcz13_2
     try clear hcz13_3
     try clear hcz13_4
     try clear hcz13_5
     try clear hcz26_0
     try clear hcz26_1
     try clear hcz29_0
     try clear hcz29_1
     try clear hcz36_0
     try clear hcz36_1
     try clear hcz45_0
     try clear hcz45_1
     try clear hcz49_0
     try clear hcz49_1
     try clear hcz57_0
     try clear hcz57_1
     try clear hcz60_0
     try clear hcz60_1
     try clear hcz67_0
     try clear hcz67_1
     try clear hcz71_0
     try clear hcz71_1
     try clear hcz79_0
     try clear hcz79_1
     try clear hcz86_0
     try clear hcz86_1
     try clear hcz9_0
     try clear hcz9_1
     try clear hcz9_2
     try clear hcz9_3
     try clear hcz9_4
     try clear hcz9_5
     try clear hfz13_0
     try clear hfz13_1
     try clear hfz13_2
     try clear hfz13_3
     try clear hfz13_4
     try clear hfz13_5
     try clear hfz26_0
     try clear hfz26_1
     try clear hfz29_0
     try clear hfz29_1
     try clear hfz36_0
     try clear hfz36_1
     try clear hfz45_0
     try clear hfz45_1
     try clear hfz49_0
     try clear hfz49_1
     try clear hfz57_0
     try clear hfz57_1
     try clear hfz60_0
     try clear hfz60_1
     try clear hfz67_0
     try clear hfz67_1
     try clear hfz71_0
     try clear hfz71_1
     try clear hfz79_0
     try clear hfz79_1
     try clear hfz86_0
     try clear hfz86_1
     try clear hfz9_0
     try clear hfz9_1
     try clear hfz9_2
     try clear hfz9_3
     try clear hfz9_4
     try clear hfz9_5
     try clear p2
     obtain ⟨kq, x55_61, rfl, HA, HJ61, BK262, BK270, BK271, BK272, BK276, BK284, HB⟩ := hcut
     cases kq with
     | zero => exact absurd HA.o (by simp [vinculumlaw02_RationalUndo.j1])
     | succ kj61 =>
      have H := HA.o
      clear HA
      simp only [vinculumlaw02_RationalUndo.j1] at H
      by_cases c87 : x55_61 = true
      ·subst c87
       have H1 : ((rational_Div.f kj61 t281 t282 t266 t267).bind fun bt285 => (if bt285.2.2 = 0 then (if (!(bt285.1 == t264) || (!(bt285.2.1 == t265))) = true then (none) else (some true)) else (none))) = some r := by rw [if_pos rfl] at H; exact H
       clear H
       have H := H1
       clear H1
       replace H := Option.bind_eq_some_iff.mp H
       obtain ⟨⟨t285, t286, t287⟩, A880, H⟩ := H
       replace H : (if t287 = 0 then (if (!(t285 == t264) || (!(t286 == t265))) = true then (none) else (some true)) else (none)) = some r := H
       have A88 := zaa.mk A880
       clear A880
       by_cases c89 : t287 = 0
       ·rw [if_pos c89] at H
        have c89b0 : (t287 == 0) = true := beq_iff_eq.mpr c89
        have c89b1 : (t287 != 0) = false := bne_eq_false_iff_eq.mpr c89
        clear c89
        by_cases c90 : (!(t285 == t264) || (!(t286 == t265))) = true
        ·rw [if_pos c90] at H
         exact absurd H (by simp)
        ·rw [if_neg c90] at H
         have c90b0 : (!(t285 == t264) || (!(t286 == t265))) = false := by simpa using c90
         clear c90
         obtain rfl := Option.some.inj H
         have hnb91 := NB284_262.o
         have hnc91 := NB262_284.o
         have hnb92 := NB284_270.o
         have hnc92 := NB270_284.o
         have hnb93 := NB284_271.o
         have hnc93 := NB271_284.o
         have hnb94 := NB284_272.o
         have hnc94 := NB272_284.o
         have hnb95 := NB284_276.o
         have hnc95 := NB276_284.o
         have hcz96_0 : wc.cell? ⟨gb284, 0, none⟩ = some (.int .i64 t281) := (zai BK284.o 0).trans rfl
         have hcz96_1 : wc.cell? ⟨gb284, 1, none⟩ = some (.int .i64 t282) := (zai BK284.o 1).trans rfl
         have hfz96_0 := zak BK284.o 0
         have hfz96_1 := zak BK284.o 1
         have hnb97 := NB272_262.o
         have hnc97 := NB262_272.o
         have hnb98 := NB272_270.o
         have hnc98 := NB270_272.o
         have hnb99 := NB272_271.o
         have hnc99 := NB271_272.o
         have hnb100 := NB272_276.o
         have hnc100 := NB276_272.o
         have hcz101_0 : wc.cell? ⟨gb272, 0, none⟩ = some (.int .i64 t266) := (zai BK272.o 0).trans rfl
         have hcz101_1 : wc.cell? ⟨gb272, 1, none⟩ = some (.int .i64 t267) := (zai BK272.o 1).trans rfl
         have hfz101_0 := zak BK272.o 0
         have hfz101_1 := zak BK272.o 1
         go_wp2_with (first | ((with_reducible refine zas (f := 26) rfl ?_); refine zat (some 59) rfl rfl Tryd.func26 (by kernel_rfl) rfl #[.agg #[.int .i64 t281, .int .i64 t282], .agg #[.int .i64 t266, .int .i64 t267]] rfl (by (try simp only [List.map_toArray, List.map_cons, List.map_nil]); first | done | rfl | (simp only [List.length_drop, List.length_take]; rfl)) ?_; (with_reducible refine (rational_Div.calls kj61 t281 t282 t266 t267 t285 t286 t287 _ A88.o).mono ?_); rintro e w102 ⟨rfl, hb⟩; refine ⟨_, rfl, ?_⟩; have n0_ := zaa.mk (zaj (by (with_reducible repeat (first | refine zad ?_ _ | refine zab ?_ | refine zac ?_ _)); exact BK262.o) hb); have n1_ := zaa.mk (zaj (by (with_reducible repeat (first | refine zad ?_ _ | refine zab ?_ | refine zac ?_ _)); exact BK270.o) hb); have n2_ := zaa.mk (zaj (by (with_reducible repeat (first | refine zad ?_ _ | refine zab ?_ | refine zac ?_ _)); exact BK271.o) hb); have n3_ := zaa.mk (zaj (by (with_reducible repeat (first | refine zad ?_ _ | refine zab ?_ | refine zac ?_ _)); exact BK272.o) hb); have n4_ := zaa.mk (zaj (by (with_reducible repeat (first | refine zad ?_ _ | refine zab ?_ | refine zac ?_ _)); exact BK276.o) hb); have n5_ := zaa.mk (zaj (by (with_reducible repeat (first | refine zad ?_ _ | refine zab ?_ | refine zac ?_ _)); exact BK284.o) hb); have n6_ := zaa.mk (zao (by repeat (first | (with_reducible first | exact HB.o | apply zaf | apply zah | apply zag | refine zae ?_ GE262.o | refine zae ?_ GE270.o | refine zae ?_ GE271.o | refine zae ?_ GE272.o | refine zae ?_ GE276.o | refine zae ?_ GE284.o) | exact HB.o)) hb); clear BK262; clear BK270; clear BK271; clear BK272; clear BK276; clear BK284; clear HB; have BK262 := n0_; have BK270 := n1_; have BK271 := n2_; have BK272 := n3_; have BK276 := n4_; have BK284 := n5_; have HB := n6_; clear n0_ n1_ n2_ n3_ n4_ n5_ n6_; (try clear hb); (try clear hb2); (try clear hk); (try clear hi)) | ((with_reducible refine zaq (N := 12) rfl ?_); refine zar ?hg (N := 12) ?hd (cs := #[.int .i64 0, .int .i64 0]) (t := 24) ?hr ?_; (case hd => rfl); (case hg => rfl); (case hr => first | (go_simp; done) | (go_simp; rfl)); intro gb288 hg w103 hbox hb; have n0_ := zaa.mk (zaj (by (with_reducible repeat (first | refine zad ?_ _ | refine zab ?_ | refine zac ?_ _)); exact BK262.o) hb); have n1_ := zaa.mk (zaj (by (with_reducible repeat (first | refine zad ?_ _ | refine zab ?_ | refine zac ?_ _)); exact BK270.o) hb); have n2_ := zaa.mk (zaj (by (with_reducible repeat (first | refine zad ?_ _ | refine zab ?_ | refine zac ?_ _)); exact BK271.o) hb); have n3_ := zaa.mk (zaj (by (with_reducible repeat (first | refine zad ?_ _ | refine zab ?_ | refine zac ?_ _)); exact BK272.o) hb); have n4_ := zaa.mk (zaj (by (with_reducible repeat (first | refine zad ?_ _ | refine zab ?_ | refine zac ?_ _)); exact BK276.o) hb); have n5_ := zaa.mk (zaj (by (with_reducible repeat (first | refine zad ?_ _ | refine zab ?_ | refine zac ?_ _)); exact BK284.o) hb); have n6_ := zaa.mk (zao (by repeat (first | (with_reducible first | exact HB.o | apply zaf | apply zah | apply zag | refine zae ?_ GE262.o | refine zae ?_ GE270.o | refine zae ?_ GE271.o | refine zae ?_ GE272.o | refine zae ?_ GE276.o | refine zae ?_ GE284.o) | exact HB.o)) hb); have n7_ := zaa.mk (hbox); have n8_ := zaa.mk ((by rw [hg]; exact (zan (by repeat (first | (with_reducible first | exact HB.o | apply zaf | apply zah | apply zag | refine zae ?_ GE262.o | refine zae ?_ GE270.o | refine zae ?_ GE271.o | refine zae ?_ GE272.o | refine zae ?_ GE276.o | refine zae ?_ GE284.o) | exact HB.o))) : w.heap.size ≤ gb288)); have n9_ := zaa.mk ((by rw [hg]; exact (zan (by repeat (first | (with_reducible first | exact HB.o | apply zaf | apply zah | apply zag | refine zae ?_ GE262.o | refine zae ?_ GE270.o | refine zae ?_ GE271.o | refine zae ?_ GE272.o | refine zae ?_ GE276.o | refine zae ?_ GE284.o) | exact HB.o))) : w.heap.size ≤ gb288)); have n10_ := zaa.mk ((by rw [hg]; exact Nat.ne_of_lt (zal (g := gb262) (o := .cells #[.int .i16 a0_0, .int .i16 a0_1, .int .i16 a0_2, .int .i16 a0_3, .int .i16 a0_4, .int .i16 a0_5] 40 (0, 0)) (by (with_reducible repeat (first | refine zad ?_ _ | refine zab ?_ | refine zac ?_ _)); exact BK262.o)) : gb262 ≠ gb288)); have n11_ := zaa.mk ((by rw [hg]; exact Nat.ne_of_gt (zal (g := gb262) (o := .cells #[.int .i16 a0_0, .int .i16 a0_1, .int .i16 a0_2, .int .i16 a0_3, .int .i16 a0_4, .int .i16 a0_5] 40 (0, 0)) (by (with_reducible repeat (first | refine zad ?_ _ | refine zab ?_ | refine zac ?_ _)); exact BK262.o)) : gb288 ≠ gb262)); have n12_ := zaa.mk ((by rw [hg]; exact Nat.ne_of_lt (zal (g := gb270) (o := .cells #[.int .i64 t264, .int .i64 t265, .int .i64 t266, .int .i64 t267, .int .i64 t268, .int .i64 t269] 41 (0, 0)) (by (with_reducible repeat (first | refine zad ?_ _ | refine zab ?_ | refine zac ?_ _)); exact BK270.o)) : gb270 ≠ gb288)); have n13_ := zaa.mk ((by rw [hg]; exact Nat.ne_of_gt (zal (g := gb270) (o := .cells #[.int .i64 t264, .int .i64 t265, .int .i64 t266, .int .i64 t267, .int .i64 t268, .int .i64 t269] 41 (0, 0)) (by (with_reducible repeat (first | refine zad ?_ _ | refine zab ?_ | refine zac ?_ _)); exact BK270.o)) : gb288 ≠ gb270)); have n14_ := zaa.mk ((by rw [hg]; exact Nat.ne_of_lt (zal (g := gb271) (o := .cells #[.int .i64 t264, .int .i64 t265] 24 (0, 0)) (by (with_reducible repeat (first | refine zad ?_ _ | refine zab ?_ | refine zac ?_ _)); exact BK271.o)) : gb271 ≠ gb288)); have n15_ := zaa.mk ((by rw [hg]; exact Nat.ne_of_gt (zal (g := gb271) (o := .cells #[.int .i64 t264, .int .i64 t265] 24 (0, 0)) (by (with_reducible repeat (first | refine zad ?_ _ | refine zab ?_ | refine zac ?_ _)); exact BK271.o)) : gb288 ≠ gb271)); have n16_ := zaa.mk ((by rw [hg]; exact Nat.ne_of_lt (zal (g := gb272) (o := .cells #[.int .i64 t266, .int .i64 t267] 24 (0, 0)) (by (with_reducible repeat (first | refine zad ?_ _ | refine zab ?_ | refine zac ?_ _)); exact BK272.o)) : gb272 ≠ gb288)); have n17_ := zaa.mk ((by rw [hg]; exact Nat.ne_of_gt (zal (g := gb272) (o := .cells #[.int .i64 t266, .int .i64 t267] 24 (0, 0)) (by (with_reducible repeat (first | refine zad ?_ _ | refine zab ?_ | refine zac ?_ _)); exact BK272.o)) : gb288 ≠ gb272)); have n18_ := zaa.mk ((by rw [hg]; exact Nat.ne_of_lt (zal (g := gb276) (o := .cells #[.int .i64 t273, .int .i64 t274] 24 (0, 0)) (by (with_reducible repeat (first | refine zad ?_ _ | refine zab ?_ | refine zac ?_ _)); exact BK276.o)) : gb276 ≠ gb288)); have n19_ := zaa.mk ((by rw [hg]; exact Nat.ne_of_gt (zal (g := gb276) (o := .cells #[.int .i64 t273, .int .i64 t274] 24 (0, 0)) (by (with_reducible repeat (first | refine zad ?_ _ | refine zab ?_ | refine zac ?_ _)); exact BK276.o)) : gb288 ≠ gb276)); have n20_ := zaa.mk ((by rw [hg]; exact Nat.ne_of_lt (zal (g := gb284) (o := .cells #[.int .i64 t281, .int .i64 t282] 24 (0, 0)) (by (with_reducible repeat (first | refine zad ?_ _ | refine zab ?_ | refine zac ?_ _)); exact BK284.o)) : gb284 ≠ gb288)); have n21_ := zaa.mk ((by rw [hg]; exact Nat.ne_of_gt (zal (g := gb284) (o := .cells #[.int .i64 t281, .int .i64 t282] 24 (0, 0)) (by (with_reducible repeat (first | refine zad ?_ _ | refine zab ?_ | refine zac ?_ _)); exact BK284.o)) : gb288 ≠ gb284)); clear BK262; clear BK270; clear BK271; clear BK272; clear BK276; clear BK284; clear HB; have BK262 := n0_; have BK270 := n1_; have BK271 := n2_; have BK272 := n3_; have BK276 := n4_; have BK284 := n5_; have HB := n6_; have BK288 := n7_; have GW288 := n8_; have GE288 := n9_; have NB262_288 := n10_; have NB288_262 := n11_; have NB270_288 := n12_; have NB288_270 := n13_; have NB271_288 := n14_; have NB288_271 := n15_; have NB272_288 := n16_; have NB288_272 := n17_; have NB276_288 := n18_; have NB288_276 := n19_; have NB284_288 := n20_; have NB288_284 := n21_; clear n0_ n1_ n2_ n3_ n4_ n5_ n6_ n7_ n8_ n9_ n10_ n11_ n12_ n13_ n14_ n15_ n16_ n17_ n18_ n19_ n20_ n21_; clear hb hbox hg; have hnb104 := NB288_262.o; have hnc104 := NB262_288.o; have hnb105 := NB288_270.o; have hnc105 := NB270_288.o; have hnb106 := NB288_271.o; have hnc106 := NB271_288.o; have hnb107 := NB288_272.o; have hnc107 := NB272_288.o; have hnb108 := NB288_276.o; have hnc108 := NB276_288.o; have hnb109 := NB288_284.o; have hnc109 := NB284_288.o; obtain ⟨hcz110_0, hcz110_1⟩ := cz2 BK288.o; obtain ⟨hfz110_0, hfz110_1⟩ := fz2 BK288.o; have hnb111 := NB271_262.o; have hnc111 := NB262_271.o; have hnb112 := NB271_270.o; have hnc112 := NB270_271.o; have hnb113 := NB271_276.o; have hnc113 := NB276_271.o; obtain ⟨hcz114_0, hcz114_1⟩ := cz2 BK271.o; obtain ⟨hfz114_0, hfz114_1⟩ := fz2 BK271.o))
         go_ret
         exact ⟨by first | rfl | (simp [errW_none, errW_some] <;> rfl) | (simp [*, errW_none, errW_some] <;> rfl), by repeat (first | (with_reducible first | exact HB.o | apply zaf | apply zah | apply zag | refine zae ?_ GE262.o | refine zae ?_ GE270.o | refine zae ?_ GE271.o | refine zae ?_ GE272.o | refine zae ?_ GE276.o | refine zae ?_ GE284.o | refine zae ?_ GE288.o) | exact HB.o)⟩
       ·rw [if_neg c89] at H
        exact absurd H (by simp)
      ·replace c87 := Bool.eq_false_iff.mpr c87
       subst c87
       have H1 : (some true) = some r := by rw [if_neg (show ¬ (false = true) by decide)] at H; exact H
       clear H
       have H := H1
       clear H1
       obtain rfl := Option.some.inj H
       go_wp2
       go_ret
       exact ⟨by first | rfl | (simp [errW_none, errW_some] <;> rfl) | (simp [*, errW_none, errW_some] <;> rfl), by repeat (first | (with_reducible first | exact HB.o | apply zaf | apply zah | apply zag | refine zae ?_ GE262.o | refine zae ?_ GE270.o | refine zae ?_ GE271.o | refine zae ?_ GE272.o | refine zae ?_ GE276.o | refine zae ?_ GE284.o) | exact HB.o)⟩
 ·replace c3 := Bool.eq_false_iff.mpr c3
  subst c3
  have H1 : (none) = some r := by rw [if_neg (show ¬ (false = true) by decide)] at H; exact H
  clear H
  have H := H1
  clear H1
  exact absurd H (by simp)

end Go.Proofs.YtoieknocpphjoaaDoor.P
