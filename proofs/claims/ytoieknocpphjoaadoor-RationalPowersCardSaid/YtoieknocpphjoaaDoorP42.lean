--m
/- Written by wip/tool/hprint.py (the kit's print.py with hand-proved contracts set in): contracts of the functions that the statements of this seat reach, without conditions beyond those named in each theorem. -/
import Derived.Test.YtoieknocpphjoaaDoorP0
import Derived.Test.YtoieknocpphjoaaDoorP4
import Derived.Test.YtoieknocpphjoaaDoorP5
import Derived.Test.YtoieknocpphjoaaDoorP6
import Derived.Test.YtoieknocpphjoaaDoorP21
import Derived.Test.YtoieknocpphjoaaDoorP40
import Derived.Test.YtoieknocpphjoaaDoorP41
namespace Go.Proofs.YtoieknocpphjoaaDoor.P
open Go.RowKit Go.Proofs.YtoieknocpphjoaaDoorW.PrintWords Go.Proofs.YtoieknocpphjoaaDoorW.PrintLast Go.Proofs.YtoieknocpphjoaaDoorW.PrintMore
attribute [local go_sem] zax zay zaz zaA zaB zaC zaD zaE   -- for this text's walks alone
set_option linter.unusedVariables false
set_option linter.unusedSimpArgs false

/-! ### rational_Pow: function 37 -/
mutual
def rational_Pow.j0 : Nat → Int → Bool → Int → Int → Option (Int × Int × Int)
 | 0, _, _, _, _ => none
 | k + 1, x1, x22, x418000, x418001 => if x22 = true then (some (0, 0, 10)) else (if x418001 = 1 then (if x418000 ≥ (-1) then (rational_Pow.j1 k x1 (decide (x418000 ≤ 1)) x418000 x418001) else (rational_Pow.j1 k x1 false x418000 x418001)) else (rational_Pow.j1 k x1 false x418000 x418001))
def rational_Pow.j1 : Nat → Int → Bool → Int → Int → Option (Int × Int × Int)
 | 0, _, _, _, _ => none
 | k + 1, x1, x31, x418000, x418001 => if x31 = true then ((rational_unit.f x418000 x418001 x1).bind fun bt420 => (some (bt420.1, bt420.2, 0))) else (if x1 > 31 then (some (0, 0, 2)) else (if x1 < (-31) then (some (0, 0, 2)) else ((rational_size.f x1).bind fun t422 => ((bits_Len.f (IntKind.u64.wrap (wrap64 (t422)))).bind fun t424 => (rational_Pow.l0 k x1 (wrap64 (t422)) (wrap64 (t424 - 2)) x418000 x418001 x418000 x418001)))))
def rational_Pow.l0 : Nat → Int → Int → Int → Int → Int → Int → Int → Option (Int × Int × Int)
 | 0, _, _, _, _, _, _, _ => none
 | k + 1, x1, x6, x8, x418000, x418001, x424000, x424001 => if x8 ≥ 0 then (rational_Pow.l1 k x1 x6 x8 0 x424000 x424001 x418000 x418001 x418000 x418001 x424000 x424001) else (if x1 < 0 then ((rational_Make.f k x424001 x424000).bind fun bt425 => (some (bt425.1, bt425.2.1, bt425.2.2))) else (some (x424000, x424001, 0)))
def rational_Pow.l1 : Nat → Int → Int → Int → Int → Int → Int → Int → Int → Int → Int → Int → Int → Option (Int × Int × Int)
 | 0, _, _, _, _, _, _, _, _, _, _, _, _ => none
 | k + 1, x1, x6, x8, x71, x800, x801, x802, x803, x418000, x418001, x424000, x424001 => if x71 < 2 then (if x71 = 0 then ((rational_Mul.f k x424000 x424001 x800 x801).bind fun bt429 => (if bt429.2.2 = 0 then (if 0 ≤ x8 then (if (Go.bits .and .i64 (shr .i64 x6 x8) 1) = 0 then (rational_Pow.l0 k x1 x6 (wrap64 (x8 - 1)) x418000 x418001 bt429.1 bt429.2.1) else (rational_Pow.l1 k x1 x6 x8 (0 + 1) x800 x801 x802 x803 x418000 x418001 bt429.1 bt429.2.1)) else (none)) else (some (0, 0, bt429.2.2)))) else (if x71 = 1 then ((rational_Mul.f k x424000 x424001 x802 x803).bind fun bt434 => (if bt434.2.2 = 0 then (if 0 ≤ x8 then (if (Go.bits .and .i64 (shr .i64 x6 x8) 1) = 0 then (rational_Pow.l0 k x1 x6 (wrap64 (x8 - 1)) x418000 x418001 bt434.1 bt434.2.1) else (rational_Pow.l1 k x1 x6 x8 (1 + 1) x800 x801 x802 x803 x418000 x418001 bt434.1 bt434.2.1)) else (none)) else (some (0, 0, bt434.2.2)))) else (none))) else (rational_Pow.l0 k x1 x6 (wrap64 (x8 - 1)) x418000 x418001 x424000 x424001)
end
def rational_Pow.f (k : Nat) (a0_0 : Int) (a0_1 : Int) (a1 : Int) : Option (Int × Int × Int) := (rational_Valid.f k a0_0 a0_1).bind fun t419 => (if t419 = true then (if a1 = 0 then (some (1, 1, 0)) else (if a0_0 = 0 then (rational_Pow.j0 k a1 (decide (a1 < 0)) a0_0 a0_1) else (rational_Pow.j0 k a1 false a0_0 a0_1))) else (some (0, 0, 1)))
theorem rational_Pow.mono_l : ∀ k, (∀ y0 y1 y2 y3, LeO (rational_Pow.j0 k y0 y1 y2 y3) (rational_Pow.j0 (k + 1) y0 y1 y2 y3)) ∧ (∀ y0 y1 y2 y3, LeO (rational_Pow.j1 k y0 y1 y2 y3) (rational_Pow.j1 (k + 1) y0 y1 y2 y3)) ∧ (∀ y0 y1 y2 y3 y4 y5 y6, LeO (rational_Pow.l0 k y0 y1 y2 y3 y4 y5 y6) (rational_Pow.l0 (k + 1) y0 y1 y2 y3 y4 y5 y6)) ∧ (∀ y0 y1 y2 y3 y4 y5 y6 y7 y8 y9 y10 y11, LeO (rational_Pow.l1 k y0 y1 y2 y3 y4 y5 y6 y7 y8 y9 y10 y11) (rational_Pow.l1 (k + 1) y0 y1 y2 y3 y4 y5 y6 y7 y8 y9 y10 y11))
 | 0 => ⟨fun _ _ _ _ r h => by simp [rational_Pow.j0] at h, fun _ _ _ _ r h => by simp [rational_Pow.j1] at h, fun _ _ _ _ _ _ _ r h => by simp [rational_Pow.l0] at h, fun _ _ _ _ _ _ _ _ _ _ _ _ r h => by simp [rational_Pow.l1] at h⟩
 | k + 1 => by
  obtain ⟨ih0, ih1, ih2, ih3⟩ := rational_Pow.mono_l k
  refine ⟨?_, ?_, ?_, ?_⟩
  ·intro y0 y1 y2 y3
   unfold rational_Pow.j0
   repeat' first
   | (with_reducible exact ih0 _ _ _ _)
   | (with_reducible exact ih1 _ _ _ _)
   | (with_reducible exact ih2 _ _ _ _ _ _ _)
   | (with_reducible exact ih3 _ _ _ _ _ _ _ _ _ _ _ _)
   | (with_reducible exact rational_Make.mono _ _ _)
   | (with_reducible exact rational_Mul.mono _ _ _ _ _)
   | (with_reducible exact rational_Valid.mono _ _ _)
   | (with_reducible exact LeO.refl _)
   | (with_reducible exact LeO.none _)
   | (with_reducible refine LeO.ite ?_ ?_)
   | (with_reducible refine LeO.bind ?_ (fun _ => ?_))
   | exact ih0 _ _ _ _
   | exact ih1 _ _ _ _
   | exact ih2 _ _ _ _ _ _ _
   | exact ih3 _ _ _ _ _ _ _ _ _ _ _ _
   | exact rational_Make.mono _ _ _
   | exact rational_Mul.mono _ _ _ _ _
   | exact rational_Valid.mono _ _ _
   | exact LeO.none _
   | refine LeO.ite ?_ ?_
   | refine LeO.bind ?_ (fun _ => ?_)
  ·intro y0 y1 y2 y3
   unfold rational_Pow.j1
   repeat' first
   | (with_reducible exact ih0 _ _ _ _)
   | (with_reducible exact ih1 _ _ _ _)
   | (with_reducible exact ih2 _ _ _ _ _ _ _)
   | (with_reducible exact ih3 _ _ _ _ _ _ _ _ _ _ _ _)
   | (with_reducible exact rational_Make.mono _ _ _)
   | (with_reducible exact rational_Mul.mono _ _ _ _ _)
   | (with_reducible exact rational_Valid.mono _ _ _)
   | (with_reducible exact LeO.refl _)
   | (with_reducible exact LeO.none _)
   | (with_reducible refine LeO.ite ?_ ?_)
   | (with_reducible refine LeO.bind ?_ (fun _ => ?_))
   | exact ih0 _ _ _ _
   | exact ih1 _ _ _ _
   | exact ih2 _ _ _ _ _ _ _
   | exact ih3 _ _ _ _ _ _ _ _ _ _ _ _
   | exact rational_Make.mono _ _ _
   | exact rational_Mul.mono _ _ _ _ _
   | exact rational_Valid.mono _ _ _
   | exact LeO.none _
   | refine LeO.ite ?_ ?_
   | refine LeO.bind ?_ (fun _ => ?_)
  ·intro y0 y1 y2 y3 y4 y5 y6
   unfold rational_Pow.l0
   repeat' first
   | (with_reducible exact ih0 _ _ _ _)
   | (with_reducible exact ih1 _ _ _ _)
   | (with_reducible exact ih2 _ _ _ _ _ _ _)
   | (with_reducible exact ih3 _ _ _ _ _ _ _ _ _ _ _ _)
   | (with_reducible exact rational_Make.mono _ _ _)
   | (with_reducible exact rational_Mul.mono _ _ _ _ _)
   | (with_reducible exact rational_Valid.mono _ _ _)
   | (with_reducible exact LeO.refl _)
   | (with_reducible exact LeO.none _)
   | (with_reducible refine LeO.ite ?_ ?_)
   | (with_reducible refine LeO.bind ?_ (fun _ => ?_))
   | exact ih0 _ _ _ _
   | exact ih1 _ _ _ _
   | exact ih2 _ _ _ _ _ _ _
   | exact ih3 _ _ _ _ _ _ _ _ _ _ _ _
   | exact rational_Make.mono _ _ _
   | exact rational_Mul.mono _ _ _ _ _
   | exact rational_Valid.mono _ _ _
   | exact LeO.none _
   | refine LeO.ite ?_ ?_
   | refine LeO.bind ?_ (fun _ => ?_)
  ·intro y0 y1 y2 y3 y4 y5 y6 y7 y8 y9 y10 y11
   unfold rational_Pow.l1
   repeat' first
   | (with_reducible exact ih0 _ _ _ _)
   | (with_reducible exact ih1 _ _ _ _)
   | (with_reducible exact ih2 _ _ _ _ _ _ _)
   | (with_reducible exact ih3 _ _ _ _ _ _ _ _ _ _ _ _)
   | (with_reducible exact rational_Make.mono _ _ _)
   | (with_reducible exact rational_Mul.mono _ _ _ _ _)
   | (with_reducible exact rational_Valid.mono _ _ _)
   | (with_reducible exact LeO.refl _)
   | (with_reducible exact LeO.none _)
   | (with_reducible refine LeO.ite ?_ ?_)
   | (with_reducible refine LeO.bind ?_ (fun _ => ?_))
   | exact ih0 _ _ _ _
   | exact ih1 _ _ _ _
   | exact ih2 _ _ _ _ _ _ _
   | exact ih3 _ _ _ _ _ _ _ _ _ _ _ _
   | exact rational_Make.mono _ _ _
   | exact rational_Mul.mono _ _ _ _ _
   | exact rational_Valid.mono _ _ _
   | exact LeO.none _
   | refine LeO.ite ?_ ?_
   | refine LeO.bind ?_ (fun _ => ?_)
theorem rational_Pow.mono : ∀ a0 a1 a2 k, LeO (rational_Pow.f k a0 a1 a2) (rational_Pow.f (k + 1) a0 a1 a2) := by
 intro a0 a1 a2 k
 obtain ⟨ih0, ih1, ih2, ih3⟩ := rational_Pow.mono_l k
 unfold rational_Pow.f
 repeat' first
   | (with_reducible exact ih0 _ _ _ _)
   | (with_reducible exact ih1 _ _ _ _)
   | (with_reducible exact ih2 _ _ _ _ _ _ _)
   | (with_reducible exact ih3 _ _ _ _ _ _ _ _ _ _ _ _)
   | (with_reducible exact rational_Make.mono _ _ _)
   | (with_reducible exact rational_Mul.mono _ _ _ _ _)
   | (with_reducible exact rational_Valid.mono _ _ _)
   | (with_reducible exact LeO.refl _)
   | (with_reducible exact LeO.none _)
   | (with_reducible refine LeO.ite ?_ ?_)
   | (with_reducible refine LeO.bind ?_ (fun _ => ?_))
   | exact ih0 _ _ _ _
   | exact ih1 _ _ _ _
   | exact ih2 _ _ _ _ _ _ _
   | exact ih3 _ _ _ _ _ _ _ _ _ _ _ _
   | exact rational_Make.mono _ _ _
   | exact rational_Mul.mono _ _ _ _ _
   | exact rational_Valid.mono _ _ _
   | exact LeO.none _
   | refine LeO.ite ?_ ?_
   | refine LeO.bind ?_ (fun _ => ?_)
set_option maxHeartbeats 8000000 in
set_option maxRecDepth 100000 in
theorem rational_Pow.calls (k : Nat) (a0_0 : Int) (a0_1 : Int) (a1 : Int) (r1 : Int) (r2 : Int) (r3 : Int) (w : World) (h : rational_Pow.f k a0_0 a0_1 a1 = some (r1, r2, r3)) :
  Calls Tryd.prog 37 #[.agg #[.int .i64 a0_0, .int .i64 a0_1], .int .i64 a1] w fun e w' => e = .returned (.tuple #[.agg #[.int .i64 r1, .int .i64 r2], .int .i64 r3]) ∧ Below w.heap.size w w' := by
 have hu24 := Tryd.underlying24
 have hu75 := Tryd.underlying75
 have HB := zaa.mk (Below.refl w.heap.size w)
 have H : ((rational_Valid.f k a0_0 a0_1).bind fun t419 => (if t419 = true then (if a1 = 0 then (some (1, 1, 0)) else (if a0_0 = 0 then (rational_Pow.j0 k a1 (decide (a1 < 0)) a0_0 a0_1) else (rational_Pow.j0 k a1 false a0_0 a0_1))) else (some (0, 0, 1)))) = some (r1, r2, r3) := h
 clear h
 replace H := Option.bind_eq_some_iff.mp H
 obtain ⟨t419, A30, H⟩ := H
 replace H : (if t419 = true then (if a1 = 0 then (some (1, 1, 0)) else (if a0_0 = 0 then (rational_Pow.j0 k a1 (decide (a1 < 0)) a0_0 a0_1) else (rational_Pow.j0 k a1 false a0_0 a0_1))) else (some (0, 0, 1))) = some (r1, r2, r3) := H
 have A3 := zaa.mk A30
 clear A30
 by_cases c4 : t419 = true
 ·subst c4
  have H1 : (if a1 = 0 then (some (1, 1, 0)) else (if a0_0 = 0 then (rational_Pow.j0 k a1 (decide (a1 < 0)) a0_0 a0_1) else (rational_Pow.j0 k a1 false a0_0 a0_1))) = some (r1, r2, r3) := by rw [if_pos rfl] at H; exact H
  clear H
  have H := H1
  clear H1
  by_cases c5 : a1 = 0
  ·rw [if_pos c5] at H
   have c5b0 : (a1 == 0) = true := beq_iff_eq.mpr c5
   have c5b1 : (a1 != 0) = false := bne_eq_false_iff_eq.mpr c5
   clear c5
   simp only [Option.some.injEq, Prod.mk.injEq] at H
   obtain ⟨rfl, rfl, rfl⟩ := H
   have ix75_0 : ∀ (W_ : World) (p0_ p1_ p2_ p3_ : Value), (Instr.index 75 (.agg #[p0_, p1_, p2_, p3_]) (.int .i64 0)).run Tryd.prog W_ = .ok (.agg #[p0_, p1_]) W_ := fun _ _ _ _ _ => by kernel_rfl
   have ix75_1 : ∀ (W_ : World) (p0_ p1_ p2_ p3_ : Value), (Instr.index 75 (.agg #[p0_, p1_, p2_, p3_]) (.int .i64 1)).run Tryd.prog W_ = .ok (.agg #[p2_, p3_]) W_ := fun _ _ _ _ _ => by kernel_rfl
   go_enter Tryd.func37, Tryd.ntmps37
   go_wp2_with (first | ((with_reducible refine zaq (N := 2) rfl ?_); refine zar ?hg (N := 2) ?hd (cs := #[.int .i64 a0_0, .int .i64 a0_1]) (t := 24) ?hr ?_; (case hd => rfl); (case hg => rfl); (case hr => first | (go_simp; done) | (go_simp; rfl)); intro gb417 hg w6 hbox hb; have n0_ := zaa.mk (zao (by repeat (first | (with_reducible first | exact HB.o | apply zaf | apply zah | apply zag) | exact HB.o)) hb); have n1_ := zaa.mk (hbox); have n2_ := zaa.mk ((by rw [hg]; exact (zan (by repeat (first | (with_reducible first | exact HB.o | apply zaf | apply zah | apply zag) | exact HB.o))) : w.heap.size ≤ gb417)); have n3_ := zaa.mk ((by rw [hg]; exact (zan (by repeat (first | (with_reducible first | exact HB.o | apply zaf | apply zah | apply zag) | exact HB.o))) : w.heap.size ≤ gb417)); clear HB; have HB := n0_; have BK417 := n1_; have GW417 := n2_; have GE417 := n3_; clear n0_ n1_ n2_ n3_; clear hb hbox hg) | ((with_reducible refine zaq (N := 4) rfl ?_); refine zar ?hg (N := 4) ?hd (cs := #[.int .i64 0, .int .i64 0]) (t := 24) ?hr ?_; (case hd => rfl); (case hg => rfl); (case hr => first | (go_simp; done) | (go_simp; rfl)); intro gb418 hg w7 hbox hb; have n0_ := zaa.mk (zai (by (with_reducible repeat (first | refine zad ?_ _ | refine zab ?_ | refine zac ?_ _)); exact BK417.o) hb); have n1_ := zaa.mk (zao (by repeat (first | (with_reducible first | exact HB.o | apply zaf | apply zah | apply zag | refine zae ?_ GE417.o) | exact HB.o)) hb); have n2_ := zaa.mk (hbox); have n3_ := zaa.mk ((by rw [hg]; exact (zan (by repeat (first | (with_reducible first | exact HB.o | apply zaf | apply zah | apply zag | refine zae ?_ GE417.o) | exact HB.o))) : w.heap.size ≤ gb418)); have n4_ := zaa.mk ((by rw [hg]; exact (zan (by repeat (first | (with_reducible first | exact HB.o | apply zaf | apply zah | apply zag | refine zae ?_ GE417.o) | exact HB.o))) : w.heap.size ≤ gb418)); have n5_ := zaa.mk ((by rw [hg]; exact Nat.ne_of_lt (zak (g := gb417) (o := .cells #[.int .i64 a0_0, .int .i64 a0_1] 24 (0, 0)) (by (with_reducible repeat (first | refine zad ?_ _ | refine zab ?_ | refine zac ?_ _)); exact BK417.o)) : gb417 ≠ gb418)); have n6_ := zaa.mk ((by rw [hg]; exact Nat.ne_of_gt (zak (g := gb417) (o := .cells #[.int .i64 a0_0, .int .i64 a0_1] 24 (0, 0)) (by (with_reducible repeat (first | refine zad ?_ _ | refine zab ?_ | refine zac ?_ _)); exact BK417.o)) : gb418 ≠ gb417)); clear BK417; clear HB; have BK417 := n0_; have HB := n1_; have BK418 := n2_; have GW418 := n3_; have GE418 := n4_; have NB417_418 := n5_; have NB418_417 := n6_; clear n0_ n1_ n2_ n3_ n4_ n5_ n6_; clear hb hbox hg; have hnb8 := NB417_418.o; have hnc8 := NB418_417.o; obtain ⟨hcz9_0, hcz9_1⟩ := cz2 BK417.o; obtain ⟨hfz9_0, hfz9_1⟩ := fz2 BK417.o) | ((with_reducible refine zas (f := 18) rfl ?_); refine zat (some 15) rfl rfl Tryd.func18 (by kernel_rfl) rfl #[.agg #[.int .i64 a0_0, .int .i64 a0_1]] rfl (by (try simp only [List.map_toArray, List.map_cons, List.map_nil]); first | done | rfl | (simp only [List.length_drop, List.length_take]; rfl)) ?_; (with_reducible refine (rational_Valid.calls k a0_0 a0_1 true _ A3.o).mono ?_); rintro e w10 ⟨rfl, hb⟩; refine ⟨_, rfl, ?_⟩; have n0_ := zaa.mk (zai (by (with_reducible repeat (first | refine zad ?_ _ | refine zab ?_ | refine zac ?_ _)); exact BK417.o) hb); have n1_ := zaa.mk (zai (by (with_reducible repeat (first | refine zad ?_ _ | refine zab ?_ | refine zac ?_ _)); exact BK418.o) hb); have n2_ := zaa.mk (zao (by repeat (first | (with_reducible first | exact HB.o | apply zaf | apply zah | apply zag | refine zae ?_ GE417.o | refine zae ?_ GE418.o) | exact HB.o)) hb); clear BK417; clear BK418; clear HB; have BK417 := n0_; have BK418 := n1_; have HB := n2_; clear n0_ n1_ n2_; (try clear hb); (try clear hb2); (try clear hk); (try clear hi); obtain ⟨hcz11_0, hcz11_1⟩ := cz2 BK418.o; obtain ⟨hfz11_0, hfz11_1⟩ := fz2 BK418.o))
   refine bodyPost_ret (zaw rfl _ _ gb418 24 #[.int .i64 1, .int .i64 1] (0, 0) _ rfl (by (with_reducible repeat (first | refine zad ?_ _ | refine zab ?_ | refine zac ?_ _)); refine zap (cs := #[.int .i64 1, .int .i64 0]) ?_ 1 _ rfl; (with_reducible repeat (first | refine zad ?_ _ | refine zab ?_ | refine zac ?_ _)); refine zap (cs := #[.int .i64 0, .int .i64 0]) ?_ 0 _ rfl; (with_reducible repeat (first | refine zad ?_ _ | refine zab ?_ | refine zac ?_ _)); exact BK418.o) Tryd.underlying24 rfl (by kernel_rfl)) rfl ?_
   exact ⟨by first | rfl | (simp [errW_none, errW_some] <;> rfl) | (simp [*, errW_none, errW_some] <;> rfl), by repeat (first | (with_reducible first | exact HB.o | apply zaf | apply zah | apply zag | refine zae ?_ GE417.o | refine zae ?_ GE418.o) | exact HB.o)⟩
  ·rw [if_neg c5] at H
   have c5b0 : (a1 == 0) = false := beq_eq_false_iff_ne.mpr c5
   have c5b1 : (a1 != 0) = true := bne_iff_ne.mpr c5
   have HC12 := zaa.mk H
   clear H
   have ix75_0 : ∀ (W_ : World) (p0_ p1_ p2_ p3_ : Value), (Instr.index 75 (.agg #[p0_, p1_, p2_, p3_]) (.int .i64 0)).run Tryd.prog W_ = .ok (.agg #[p0_, p1_]) W_ := fun _ _ _ _ _ => by kernel_rfl
   have ix75_1 : ∀ (W_ : World) (p0_ p1_ p2_ p3_ : Value), (Instr.index 75 (.agg #[p0_, p1_, p2_, p3_]) (.int .i64 1)).run Tryd.prog W_ = .ok (.agg #[p2_, p3_]) W_ := fun _ _ _ _ _ => by kernel_rfl
   go_enter Tryd.func37, Tryd.ntmps37
   go_upto_region 5 with (first | ((with_reducible refine zaq (N := 2) rfl ?_); refine zar ?hg (N := 2) ?hd (cs := #[.int .i64 a0_0, .int .i64 a0_1]) (t := 24) ?hr ?_; (case hd => rfl); (case hg => rfl); (case hr => first | (go_simp; done) | (go_simp; rfl)); intro gb417 hg w13 hbox hb; have n0_ := zaa.mk (zao (by repeat (first | (with_reducible first | exact HB.o | apply zaf | apply zah | apply zag) | exact HB.o)) hb); have n1_ := zaa.mk (hbox); have n2_ := zaa.mk ((by rw [hg]; exact (zan (by repeat (first | (with_reducible first | exact HB.o | apply zaf | apply zah | apply zag) | exact HB.o))) : w.heap.size ≤ gb417)); have n3_ := zaa.mk ((by rw [hg]; exact (zan (by repeat (first | (with_reducible first | exact HB.o | apply zaf | apply zah | apply zag) | exact HB.o))) : w.heap.size ≤ gb417)); clear HB; have HB := n0_; have BK417 := n1_; have GW417 := n2_; have GE417 := n3_; clear n0_ n1_ n2_ n3_; clear hb hbox hg) | ((with_reducible refine zaq (N := 4) rfl ?_); refine zar ?hg (N := 4) ?hd (cs := #[.int .i64 0, .int .i64 0]) (t := 24) ?hr ?_; (case hd => rfl); (case hg => rfl); (case hr => first | (go_simp; done) | (go_simp; rfl)); intro gb418 hg w14 hbox hb; have n0_ := zaa.mk (zai (by (with_reducible repeat (first | refine zad ?_ _ | refine zab ?_ | refine zac ?_ _)); exact BK417.o) hb); have n1_ := zaa.mk (zao (by repeat (first | (with_reducible first | exact HB.o | apply zaf | apply zah | apply zag | refine zae ?_ GE417.o) | exact HB.o)) hb); have n2_ := zaa.mk (hbox); have n3_ := zaa.mk ((by rw [hg]; exact (zan (by repeat (first | (with_reducible first | exact HB.o | apply zaf | apply zah | apply zag | refine zae ?_ GE417.o) | exact HB.o))) : w.heap.size ≤ gb418)); have n4_ := zaa.mk ((by rw [hg]; exact (zan (by repeat (first | (with_reducible first | exact HB.o | apply zaf | apply zah | apply zag | refine zae ?_ GE417.o) | exact HB.o))) : w.heap.size ≤ gb418)); have n5_ := zaa.mk ((by rw [hg]; exact Nat.ne_of_lt (zak (g := gb417) (o := .cells #[.int .i64 a0_0, .int .i64 a0_1] 24 (0, 0)) (by (with_reducible repeat (first | refine zad ?_ _ | refine zab ?_ | refine zac ?_ _)); exact BK417.o)) : gb417 ≠ gb418)); have n6_ := zaa.mk ((by rw [hg]; exact Nat.ne_of_gt (zak (g := gb417) (o := .cells #[.int .i64 a0_0, .int .i64 a0_1] 24 (0, 0)) (by (with_reducible repeat (first | refine zad ?_ _ | refine zab ?_ | refine zac ?_ _)); exact BK417.o)) : gb418 ≠ gb417)); clear BK417; clear HB; have BK417 := n0_; have HB := n1_; have BK418 := n2_; have GW418 := n3_; have GE418 := n4_; have NB417_418 := n5_; have NB418_417 := n6_; clear n0_ n1_ n2_ n3_ n4_ n5_ n6_; clear hb hbox hg; have hnb15 := NB417_418.o; have hnc15 := NB418_417.o; obtain ⟨hcz16_0, hcz16_1⟩ := cz2 BK417.o; obtain ⟨hfz16_0, hfz16_1⟩ := fz2 BK417.o) | ((with_reducible refine zas (f := 18) rfl ?_); refine zat (some 15) rfl rfl Tryd.func18 (by kernel_rfl) rfl #[.agg #[.int .i64 a0_0, .int .i64 a0_1]] rfl (by (try simp only [List.map_toArray, List.map_cons, List.map_nil]); first | done | rfl | (simp only [List.length_drop, List.length_take]; rfl)) ?_; (with_reducible refine (rational_Valid.calls k a0_0 a0_1 true _ A3.o).mono ?_); rintro e w17 ⟨rfl, hb⟩; refine ⟨_, rfl, ?_⟩; have n0_ := zaa.mk (zai (by (with_reducible repeat (first | refine zad ?_ _ | refine zab ?_ | refine zac ?_ _)); exact BK417.o) hb); have n1_ := zaa.mk (zai (by (with_reducible repeat (first | refine zad ?_ _ | refine zab ?_ | refine zac ?_ _)); exact BK418.o) hb); have n2_ := zaa.mk (zao (by repeat (first | (with_reducible first | exact HB.o | apply zaf | apply zah | apply zag | refine zae ?_ GE417.o | refine zae ?_ GE418.o) | exact HB.o)) hb); clear BK417; clear BK418; clear HB; have BK417 := n0_; have BK418 := n1_; have HB := n2_; clear n0_ n1_ n2_; (try clear hb); (try clear hb2); (try clear hk); (try clear hi)))
   (try simp only [Act.put, List.setIfInBounds_toArray, List.set_cons_zero, List.set_cons_succ])
   go_cut [22] (fun v22 wc => ∃ (kq : Nat) (x22_11 : Bool), v22 = .bool x22_11 ∧ zaa (rational_Pow.j0 kq a1 x22_11 a0_0 a0_1 = some (r1, r2, r3)) ∧ zaa (kq ≤ k) ∧ zaa (wc.heap[gb417]? = some (.cells #[.int .i64 a0_0, .int .i64 a0_1] 24 (0, 0))) ∧ zaa (wc.heap[gb418]? = some (.cells #[.int .i64 0, .int .i64 0] 24 (0, 0))) ∧ zaa (Below w.heap.size w wc))
   case first =>
    have H := HC12.out
    clear HC12
    by_cases c18 : a0_0 = 0
    ·rw [if_pos c18] at H
     have c18b0 : (a0_0 == 0) = true := beq_iff_eq.mpr c18
     have c18b1 : (a0_0 != 0) = false := bne_eq_false_iff_eq.mpr c18
     clear c18
     (first | rw [c18b0] | (simp only [i64_w, i32_w]; rw [c18b0]) | skip)
     have H' := zaa.mk H
     clear H
     have hnb19 := NB417_418.o
     have hnc19 := NB418_417.o
     have hcz20_0 : w17.cell? ⟨gb417, 0, none⟩ = some (.int .i64 a0_0) := (zaj BK417.o 0).trans rfl
     have hcz20_1 : w17.cell? ⟨gb417, 1, none⟩ = some (.int .i64 a0_1) := (zaj BK417.o 1).trans rfl
     have hfz20_0 := zal BK417.o 0
     have hfz20_1 := zal BK417.o 1
     go_wp2
     go_meet
     case rel => exact ⟨_, (decide (a1 < 0)), (by first | rfl | (simp; done) | (simp [*]; done)), H', ⟨by first | omega | exact Nat.le_refl _⟩, ⟨by (with_reducible repeat (first | refine zad ?_ _ | refine zab ?_ | refine zac ?_ _)); exact BK417.o⟩, ⟨by (with_reducible repeat (first | refine zad ?_ _ | refine zab ?_ | refine zac ?_ _)); exact BK418.o⟩, ⟨by repeat (first | (with_reducible first | exact HB.o | apply zaf | apply zah | apply zag | refine zae ?_ GE417.o | refine zae ?_ GE418.o) | exact HB.o)⟩⟩
    ·rw [if_neg c18] at H
     have c18b0 : (a0_0 == 0) = false := beq_eq_false_iff_ne.mpr c18
     have c18b1 : (a0_0 != 0) = true := bne_iff_ne.mpr c18
     (first | rw [c18b0] | (simp only [i64_w, i32_w]; rw [c18b0]) | skip)
     have H' := zaa.mk H
     clear H
     have hnb21 := NB417_418.o
     have hnc21 := NB418_417.o
     have hcz22_0 : w17.cell? ⟨gb417, 0, none⟩ = some (.int .i64 a0_0) := (zaj BK417.o 0).trans rfl
     have hcz22_1 : w17.cell? ⟨gb417, 1, none⟩ = some (.int .i64 a0_1) := (zaj BK417.o 1).trans rfl
     have hfz22_0 := zal BK417.o 0
     have hfz22_1 := zal BK417.o 1
     go_wp2
     go_meet
     case rel => exact ⟨_, (false), (by first | rfl | (simp; done) | (simp [*]; done)), H', ⟨by first | omega | exact Nat.le_refl _⟩, ⟨by (with_reducible repeat (first | refine zad ?_ _ | refine zab ?_ | refine zac ?_ _)); exact BK417.o⟩, ⟨by (with_reducible repeat (first | refine zad ?_ _ | refine zab ?_ | refine zac ?_ _)); exact BK418.o⟩, ⟨by repeat (first | (with_reducible first | exact HB.o | apply zaf | apply zah | apply zag | refine zae ?_ GE417.o | refine zae ?_ GE418.o) | exact HB.o)⟩⟩
   case rest =>
    clear HC12
    try clear c1
    try clear c2
    try clear p2
    try clear c3
    try clear c4
    try clear c5
    try clear c5b0
    try clear c5b1
    try clear c8
    try clear c15
    try clear c18
    try clear c18b0
    try clear c18b1
    try clear c19
    try clear c21
    try clear hcz11_0
    try clear hcz11_1
    try clear hcz16_0
    try clear hcz16_1
    try clear hcz20_0
    try clear hcz20_1
    try clear hcz22_0
    try clear hcz22_1
    try clear hcz9_0
    try clear hcz9_1
    try clear hfz11_0
    try clear hfz11_1
    try clear hfz16_0
    try clear hfz16_1
    try clear hfz20_0
    try clear hfz20_1
    try clear hfz22_0
    try clear hfz22_1
    try clear hfz9_0
    try clear hfz9_1
    obtain ⟨kq, x22_11, rfl, HA, HJ11, BK417, BK418, HB⟩ := hcut
    cases kq with
    | zero => exact absurd HA.o (by simp [rational_Pow.j0])
    | succ kj11 =>
     have H := HA.o
     clear HA
     simp only [rational_Pow.j0] at H
     by_cases c23 : x22_11 = true
     ·subst c23
      have H1 : (some (0, 0, 10)) = some (r1, r2, r3) := by rw [if_pos rfl] at H; exact H
      clear H
      have H := H1
      clear H1
      simp only [Option.some.injEq, Prod.mk.injEq] at H
      obtain ⟨rfl, rfl, rfl⟩ := H
      have hnb24 := NB418_417.o
      have hnc24 := NB417_418.o
      have hcz25_0 : wc.cell? ⟨gb418, 0, none⟩ = some (.int .i64 0) := (zaj BK418.o 0).trans rfl
      have hcz25_1 : wc.cell? ⟨gb418, 1, none⟩ = some (.int .i64 0) := (zaj BK418.o 1).trans rfl
      have hfz25_0 := zal BK418.o 0
      have hfz25_1 := zal BK418.o 1
      go_wp2
      refine bodyPost_ret (zaw rfl _ _ gb418 24 #[.int .i64 0, .int .i64 0] (0, 0) _ rfl (by (with_reducible repeat (first | refine zad ?_ _ | refine zab ?_ | refine zac ?_ _)); refine zap (cs := #[.int .i64 0, .int .i64 0]) ?_ 1 _ rfl; (with_reducible repeat (first | refine zad ?_ _ | refine zab ?_ | refine zac ?_ _)); refine zap (cs := #[.int .i64 0, .int .i64 0]) ?_ 0 _ rfl; (with_reducible repeat (first | refine zad ?_ _ | refine zab ?_ | refine zac ?_ _)); exact BK418.o) Tryd.underlying24 rfl (by kernel_rfl)) rfl ?_
      exact ⟨by first | rfl | (simp [errW_none, errW_some] <;> rfl) | (simp [*, errW_none, errW_some] <;> rfl), by repeat (first | (with_reducible first | exact HB.o | apply zaf | apply zah | apply zag | refine zae ?_ GE417.o | refine zae ?_ GE418.o) | exact HB.o)⟩
     ·replace c23 := Bool.eq_false_iff.mpr c23
      subst c23
      have H1 : (if a0_1 = 1 then (if a0_0 ≥ (-1) then (rational_Pow.j1 kj11 a1 (decide (a0_0 ≤ 1)) a0_0 a0_1) else (rational_Pow.j1 kj11 a1 false a0_0 a0_1)) else (rational_Pow.j1 kj11 a1 false a0_0 a0_1)) = some (r1, r2, r3) := by rw [if_neg (show ¬ (false = true) by decide)] at H; exact H
      clear H
      have H := H1
      clear H1
      have HC26 := zaa.mk H
      clear H
      go_upto_region 7 with (fail)
      go_cut [31] (fun v31 wc => ∃ (kq : Nat) (x31_25 : Bool), v31 = .bool x31_25 ∧ zaa (rational_Pow.j1 kq a1 x31_25 a0_0 a0_1 = some (r1, r2, r3)) ∧ zaa (kq ≤ kj11) ∧ zaa (wc.heap[gb417]? = some (.cells #[.int .i64 a0_0, .int .i64 a0_1] 24 (0, 0))) ∧ zaa (wc.heap[gb418]? = some (.cells #[.int .i64 0, .int .i64 0] 24 (0, 0))) ∧ zaa (Below w.heap.size w wc))
      case first =>
       have H := HC26.out
       clear HC26
       by_cases c27 : a0_1 = 1
       ·rw [if_pos c27] at H
        have c27b0 : (a0_1 == 1) = true := beq_iff_eq.mpr c27
        have c27b1 : (a0_1 != 1) = false := bne_eq_false_iff_eq.mpr c27
        clear c27
        (first | rw [c27b0] | (simp only [i64_w, i32_w]; rw [c27b0]) | skip)
        by_cases c28 : a0_0 ≥ (-1)
        ·rw [if_pos c28] at H
         have c28b0 : decide ((-1) ≤ a0_0) = true := decide_eq_true c28
         clear c28
         have H' := zaa.mk H
         clear H
         have hnb29 := NB417_418.o
         have hnc29 := NB418_417.o
         have hcz30_0 : wc.cell? ⟨gb417, 0, none⟩ = some (.int .i64 a0_0) := (zaj BK417.o 0).trans rfl
         have hcz30_1 : wc.cell? ⟨gb417, 1, none⟩ = some (.int .i64 a0_1) := (zaj BK417.o 1).trans rfl
         have hfz30_0 := zal BK417.o 0
         have hfz30_1 := zal BK417.o 1
         go_wp2
         go_meet
         case rel => exact ⟨_, (decide (a0_0 ≤ 1)), (by first | rfl | (simp; done) | (simp [*]; done)), H', ⟨by have := HJ11.out; first | omega | exact Nat.le_refl _⟩, ⟨by (with_reducible repeat (first | refine zad ?_ _ | refine zab ?_ | refine zac ?_ _)); exact BK417.o⟩, ⟨by (with_reducible repeat (first | refine zad ?_ _ | refine zab ?_ | refine zac ?_ _)); exact BK418.o⟩, ⟨by repeat (first | (with_reducible first | exact HB.o | apply zaf | apply zah | apply zag | refine zae ?_ GE417.o | refine zae ?_ GE418.o) | exact HB.o)⟩⟩
        ·rw [if_neg c28] at H
         have c28b0 : decide ((-1) ≤ a0_0) = false := decide_eq_false c28
         clear c28
         have H' := zaa.mk H
         clear H
         have hnb31 := NB417_418.o
         have hnc31 := NB418_417.o
         have hcz32_0 : wc.cell? ⟨gb417, 0, none⟩ = some (.int .i64 a0_0) := (zaj BK417.o 0).trans rfl
         have hcz32_1 : wc.cell? ⟨gb417, 1, none⟩ = some (.int .i64 a0_1) := (zaj BK417.o 1).trans rfl
         have hfz32_0 := zal BK417.o 0
         have hfz32_1 := zal BK417.o 1
         go_wp2
         go_meet
         case rel => exact ⟨_, (false), (by first | rfl | (simp; done) | (simp [*]; done)), H', ⟨by have := HJ11.out; first | omega | exact Nat.le_refl _⟩, ⟨by (with_reducible repeat (first | refine zad ?_ _ | refine zab ?_ | refine zac ?_ _)); exact BK417.o⟩, ⟨by (with_reducible repeat (first | refine zad ?_ _ | refine zab ?_ | refine zac ?_ _)); exact BK418.o⟩, ⟨by repeat (first | (with_reducible first | exact HB.o | apply zaf | apply zah | apply zag | refine zae ?_ GE417.o | refine zae ?_ GE418.o) | exact HB.o)⟩⟩
       ·rw [if_neg c27] at H
        have c27b0 : (a0_1 == 1) = false := beq_eq_false_iff_ne.mpr c27
        have c27b1 : (a0_1 != 1) = true := bne_iff_ne.mpr c27
        (first | rw [c27b0] | (simp only [i64_w, i32_w]; rw [c27b0]) | skip)
        have H' := zaa.mk H
        clear H
        have hnb33 := NB417_418.o
        have hnc33 := NB418_417.o
        have hcz34_0 : wc.cell? ⟨gb417, 0, none⟩ = some (.int .i64 a0_0) := (zaj BK417.o 0).trans rfl
        have hcz34_1 : wc.cell? ⟨gb417, 1, none⟩ = some (.int .i64 a0_1) := (zaj BK417.o 1).trans rfl
        have hfz34_0 := zal BK417.o 0
        have hfz34_1 := zal BK417.o 1
        go_wp2
        go_meet
        case rel => exact ⟨_, (false), (by first | rfl | (simp; done) | (simp [*]; done)), H', ⟨by have := HJ11.out; first | omega | exact Nat.le_refl _⟩, ⟨by (with_reducible repeat (first | refine zad ?_ _ | refine zab ?_ | refine zac ?_ _)); exact BK417.o⟩, ⟨by (with_reducible repeat (first | refine zad ?_ _ | refine zab ?_ | refine zac ?_ _)); exact BK418.o⟩, ⟨by repeat (first | (with_reducible first | exact HB.o | apply zaf | apply zah | apply zag | refine zae ?_ GE417.o | refine zae ?_ GE418.o) | exact HB.o)⟩⟩
      case rest =>
       clear HC26
       try clear c1
       try clear c2
       try clear p2
       try clear c3
       try clear c4
       try clear c5
       try clear c5b0
       try clear c5b1
       try clear c8
       try clear c15
       try clear c18
       try clear c18b0
       try clear c18b1
       try clear c19
       try clear c21
       try clear c23
       try clear c24
       try clear c27
       try clear c27b0
       try clear c27b1
       try clear c28
       try clear c28b0
       try clear c29
       try clear c31
       try clear c33
       try clear hcz11_0
       try clear hcz11_1
       try clear hcz16_0
       try clear hcz16_1
       try clear hcz20_0
       try clear hcz20_1
       try clear hcz22_0
       try clear hcz22_1
       try clear hcz25_0
       try clear hcz25_1
       try clear hcz30_0
       try clear hcz30_1
       try clear hcz32_0
       try clear hcz32_1
       try clear hcz34_0
       try clear hcz34_1
       try clear hcz9_0
       try clear hcz9_1
       try clear hfz11_0
       try clear hfz11_1
       try clear hfz16_0
       try clear hfz16_1
       try clear hfz20_0
       try clear hfz20_1
       try clear hfz22_0
       try clear hfz22_1
       try clear hfz25_0
       try clear hfz25_1
       try clear hfz30_0
       try clear hfz30_1
       try clear hfz32_0
       try clear hfz32_1
       try clear hfz34_0
       try clear hfz34_1
       try clear hfz9_0
       try clear hfz9_1
       try clear p2
       obtain ⟨kq, x31_25, rfl, HA, HJ25, BK417, BK418, HB⟩ := hcut
       cases kq with
       | zero => exact absurd HA.o (by simp [rational_Pow.j1])
       | succ kj25 =>
        have H := HA.o
        clear HA
        simp only [rational_Pow.j1] at H
        by_cases c35 : x31_25 = true
        ·subst c35
         have H1 : ((rational_unit.f a0_0 a0_1 a1).bind fun bt420 => (some (bt420.1, bt420.2, 0))) = some (r1, r2, r3) := by rw [if_pos rfl] at H; exact H
         clear H
         have H := H1
         clear H1
         replace H := Option.bind_eq_some_iff.mp H
         obtain ⟨⟨t420, t421⟩, A360, H⟩ := H
         replace H : (some (t420, t421, 0)) = some (r1, r2, r3) := H
         have A36 := zaa.mk A360
         clear A360
         simp only [Option.some.injEq, Prod.mk.injEq] at H
         obtain ⟨rfl, rfl, rfl⟩ := H
         have hnb37 := NB417_418.o
         have hnc37 := NB418_417.o
         have hcz38_0 : wc.cell? ⟨gb417, 0, none⟩ = some (.int .i64 a0_0) := (zaj BK417.o 0).trans rfl
         have hcz38_1 : wc.cell? ⟨gb417, 1, none⟩ = some (.int .i64 a0_1) := (zaj BK417.o 1).trans rfl
         have hfz38_0 := zal BK417.o 0
         have hfz38_1 := zal BK417.o 1
         go_wp2_with (first | ((with_reducible refine zas (f := 50) rfl ?_); refine zat (some 47) rfl rfl Tryd.func50 (by kernel_rfl) rfl #[.agg #[.int .i64 a0_0, .int .i64 a0_1], .int .i64 a1] rfl (by (try simp only [List.map_toArray, List.map_cons, List.map_nil]); first | done | rfl | (simp only [List.length_drop, List.length_take]; rfl)) ?_; (with_reducible refine (rational_unit.calls a0_0 a0_1 a1 t420 t421 _ A36.o).mono ?_); rintro e w39 ⟨rfl, hb⟩; refine ⟨_, rfl, ?_⟩; have n0_ := zaa.mk (zai (by (with_reducible repeat (first | refine zad ?_ _ | refine zab ?_ | refine zac ?_ _)); exact BK417.o) hb); have n1_ := zaa.mk (zai (by (with_reducible repeat (first | refine zad ?_ _ | refine zab ?_ | refine zac ?_ _)); exact BK418.o) hb); have n2_ := zaa.mk (zao (by repeat (first | (with_reducible first | exact HB.o | apply zaf | apply zah | apply zag | refine zae ?_ GE417.o | refine zae ?_ GE418.o) | exact HB.o)) hb); clear BK417; clear BK418; clear HB; have BK417 := n0_; have BK418 := n1_; have HB := n2_; clear n0_ n1_ n2_; (try clear hb); (try clear hb2); (try clear hk); (try clear hi); obtain ⟨hcz40_0, hcz40_1⟩ := cz2 BK418.o; obtain ⟨hfz40_0, hfz40_1⟩ := fz2 BK418.o))
         refine bodyPost_ret (zaw rfl _ _ gb418 24 #[.int .i64 t420, .int .i64 t421] (0, 0) _ rfl (by (with_reducible repeat (first | refine zad ?_ _ | refine zab ?_ | refine zac ?_ _)); refine zap (cs := #[.int .i64 t420, .int .i64 0]) ?_ 1 _ rfl; (with_reducible repeat (first | refine zad ?_ _ | refine zab ?_ | refine zac ?_ _)); refine zap (cs := #[.int .i64 0, .int .i64 0]) ?_ 0 _ rfl; (with_reducible repeat (first | refine zad ?_ _ | refine zab ?_ | refine zac ?_ _)); exact BK418.o) Tryd.underlying24 rfl (by kernel_rfl)) rfl ?_
         exact ⟨by first | rfl | (simp [errW_none, errW_some] <;> rfl) | (simp [*, errW_none, errW_some] <;> rfl), by repeat (first | (with_reducible first | exact HB.o | apply zaf | apply zah | apply zag | refine zae ?_ GE417.o | refine zae ?_ GE418.o) | exact HB.o)⟩
        ·replace c35 := Bool.eq_false_iff.mpr c35
         subst c35
         have H1 : (if a1 > 31 then (some (0, 0, 2)) else (if a1 < (-31) then (some (0, 0, 2)) else ((rational_size.f a1).bind fun t422 => ((bits_Len.f (IntKind.u64.wrap (wrap64 (t422)))).bind fun t424 => (rational_Pow.l0 kj25 a1 (wrap64 (t422)) (wrap64 (t424 - 2)) a0_0 a0_1 a0_0 a0_1))))) = some (r1, r2, r3) := by rw [if_neg (show ¬ (false = true) by decide)] at H; exact H
         clear H
         have H := H1
         clear H1
         by_cases c41 : a1 > 31
         ·rw [if_pos c41] at H
          have c41b0 : decide (31 < a1) = true := decide_eq_true c41
          clear c41
          simp only [Option.some.injEq, Prod.mk.injEq] at H
          obtain ⟨rfl, rfl, rfl⟩ := H
          have hnb42 := NB418_417.o
          have hnc42 := NB417_418.o
          have hcz43_0 : wc.cell? ⟨gb418, 0, none⟩ = some (.int .i64 0) := (zaj BK418.o 0).trans rfl
          have hcz43_1 : wc.cell? ⟨gb418, 1, none⟩ = some (.int .i64 0) := (zaj BK418.o 1).trans rfl
          have hfz43_0 := zal BK418.o 0
          have hfz43_1 := zal BK418.o 1
          go_wp2
          refine bodyPost_ret (zaw rfl _ _ gb418 24 #[.int .i64 0, .int .i64 0] (0, 0) _ rfl (by (with_reducible repeat (first | refine zad ?_ _ | refine zab ?_ | refine zac ?_ _)); refine zap (cs := #[.int .i64 0, .int .i64 0]) ?_ 1 _ rfl; (with_reducible repeat (first | refine zad ?_ _ | refine zab ?_ | refine zac ?_ _)); refine zap (cs := #[.int .i64 0, .int .i64 0]) ?_ 0 _ rfl; (with_reducible repeat (first | refine zad ?_ _ | refine zab ?_ | refine zac ?_ _)); exact BK418.o) Tryd.underlying24 rfl (by kernel_rfl)) rfl ?_
          exact ⟨by first | rfl | (simp [errW_none, errW_some] <;> rfl) | (simp [*, errW_none, errW_some] <;> rfl), by repeat (first | (with_reducible first | exact HB.o | apply zaf | apply zah | apply zag | refine zae ?_ GE417.o | refine zae ?_ GE418.o) | exact HB.o)⟩
         ·rw [if_neg c41] at H
          have c41b0 : decide (31 < a1) = false := decide_eq_false c41
          clear c41
          by_cases c44 : a1 < (-31)
          ·rw [if_pos c44] at H
           have c44b0 : decide (a1 < (-31)) = true := decide_eq_true c44
           clear c44
           simp only [Option.some.injEq, Prod.mk.injEq] at H
           obtain ⟨rfl, rfl, rfl⟩ := H
           have hnb45 := NB418_417.o
           have hnc45 := NB417_418.o
           have hcz46_0 : wc.cell? ⟨gb418, 0, none⟩ = some (.int .i64 0) := (zaj BK418.o 0).trans rfl
           have hcz46_1 : wc.cell? ⟨gb418, 1, none⟩ = some (.int .i64 0) := (zaj BK418.o 1).trans rfl
           have hfz46_0 := zal BK418.o 0
           have hfz46_1 := zal BK418.o 1
           go_wp2
           refine bodyPost_ret (zaw rfl _ _ gb418 24 #[.int .i64 0, .int .i64 0] (0, 0) _ rfl (by (with_reducible repeat (first | refine zad ?_ _ | refine zab ?_ | refine zac ?_ _)); refine zap (cs := #[.int .i64 0, .int .i64 0]) ?_ 1 _ rfl; (with_reducible repeat (first | refine zad ?_ _ | refine zab ?_ | refine zac ?_ _)); refine zap (cs := #[.int .i64 0, .int .i64 0]) ?_ 0 _ rfl; (with_reducible repeat (first | refine zad ?_ _ | refine zab ?_ | refine zac ?_ _)); exact BK418.o) Tryd.underlying24 rfl (by kernel_rfl)) rfl ?_
           exact ⟨by first | rfl | (simp [errW_none, errW_some] <;> rfl) | (simp [*, errW_none, errW_some] <;> rfl), by repeat (first | (with_reducible first | exact HB.o | apply zaf | apply zah | apply zag | refine zae ?_ GE417.o | refine zae ?_ GE418.o) | exact HB.o)⟩
          ·rw [if_neg c44] at H
           have c44b0 : decide (a1 < (-31)) = false := decide_eq_false c44
           clear c44
           replace H := Option.bind_eq_some_iff.mp H
           obtain ⟨t422, A470, H⟩ := H
           replace H : ((bits_Len.f (IntKind.u64.wrap (wrap64 (t422)))).bind fun t424 => (rational_Pow.l0 kj25 a1 (wrap64 (t422)) (wrap64 (t424 - 2)) a0_0 a0_1 a0_0 a0_1)) = some (r1, r2, r3) := H
           have A47 := zaa.mk A470
           clear A470
           replace H := Option.bind_eq_some_iff.mp H
           obtain ⟨t424, A480, H⟩ := H
           replace H : (rational_Pow.l0 kj25 a1 (wrap64 (t422)) (wrap64 (t424 - 2)) a0_0 a0_1 a0_0 a0_1) = some (r1, r2, r3) := H
           have A48 := zaa.mk A480
           clear A480
           have H' := zaa.mk H
           clear H
           go_wp2_with (first | ((with_reducible refine zas (f := 41) rfl ?_); refine zat (some 57) rfl rfl Tryd.func41 (by kernel_rfl) rfl #[.int .i64 a1] rfl (by (try simp only [List.map_toArray, List.map_cons, List.map_nil]); first | done | rfl | (simp only [List.length_drop, List.length_take]; rfl)) ?_; (with_reducible refine (rational_size.calls a1 t422 _ A47.o).mono ?_); rintro e w' ⟨rfl, ⟨nd, rfl⟩⟩; refine ⟨_, rfl, ?_⟩; (try (rw [drewN_self wc]; generalize hq_ : World.drewN wc _ = wc; have n0_ : zaa (wc.heap[gb417]? = some (.cells #[.int .i64 a0_0, .int .i64 a0_1] 24 (0, 0))) := ⟨by rw [← hq_]; exact (by (with_reducible repeat (first | refine zad ?_ _ | refine zab ?_ | refine zac ?_ _)); exact BK417.o)⟩; have n1_ : zaa (wc.heap[gb418]? = some (.cells #[.int .i64 0, .int .i64 0] 24 (0, 0))) := ⟨by rw [← hq_]; exact (by (with_reducible repeat (first | refine zad ?_ _ | refine zab ?_ | refine zac ?_ _)); exact BK418.o)⟩; have n2_ : zaa (Below w.heap.size w wc) := ⟨by rw [← hq_]; exact (by repeat (first | (with_reducible first | exact HB.o | apply zaf | apply zah | apply zag | refine zae ?_ GE417.o | refine zae ?_ GE418.o) | exact HB.o))⟩; clear BK417 BK418 HB hq_; have BK417 := n0_; have BK418 := n1_; have HB := n2_; clear n0_ n1_ n2_)); have hnb49 := NB417_418.o; have hnc49 := NB418_417.o; obtain ⟨hcz50_0, hcz50_1⟩ := cz2 BK417.o; obtain ⟨hfz50_0, hfz50_1⟩ := fz2 BK417.o) | ((with_reducible refine zaq (N := 7) rfl ?_); refine zar ?hg (N := 7) ?hd (cs := #[.int .i64 0, .int .i64 0]) (t := 24) ?hr ?_; (case hd => rfl); (case hg => rfl); (case hr => first | (go_simp; done) | (go_simp; rfl)); intro gb423 hg w51 hbox hb; have n0_ := zaa.mk (zai (by (with_reducible repeat (first | refine zad ?_ _ | refine zab ?_ | refine zac ?_ _)); exact BK417.o) hb); have n1_ := zaa.mk (zai (by (with_reducible repeat (first | refine zad ?_ _ | refine zab ?_ | refine zac ?_ _)); exact BK418.o) hb); have n2_ := zaa.mk (zao (by repeat (first | (with_reducible first | exact HB.o | apply zaf | apply zah | apply zag | refine zae ?_ GE417.o | refine zae ?_ GE418.o) | exact HB.o)) hb); have n3_ := zaa.mk (hbox); have n4_ := zaa.mk ((by rw [hg]; exact (zan (by repeat (first | (with_reducible first | exact HB.o | apply zaf | apply zah | apply zag | refine zae ?_ GE417.o | refine zae ?_ GE418.o) | exact HB.o))) : w.heap.size ≤ gb423)); have n5_ := zaa.mk ((by rw [hg]; exact (zan (by repeat (first | (with_reducible first | exact HB.o | apply zaf | apply zah | apply zag | refine zae ?_ GE417.o | refine zae ?_ GE418.o) | exact HB.o))) : w.heap.size ≤ gb423)); have n6_ := zaa.mk ((by rw [hg]; exact Nat.ne_of_lt (zak (g := gb417) (o := .cells #[.int .i64 a0_0, .int .i64 a0_1] 24 (0, 0)) (by (with_reducible repeat (first | refine zad ?_ _ | refine zab ?_ | refine zac ?_ _)); exact BK417.o)) : gb417 ≠ gb423)); have n7_ := zaa.mk ((by rw [hg]; exact Nat.ne_of_gt (zak (g := gb417) (o := .cells #[.int .i64 a0_0, .int .i64 a0_1] 24 (0, 0)) (by (with_reducible repeat (first | refine zad ?_ _ | refine zab ?_ | refine zac ?_ _)); exact BK417.o)) : gb423 ≠ gb417)); have n8_ := zaa.mk ((by rw [hg]; exact Nat.ne_of_lt (zak (g := gb418) (o := .cells #[.int .i64 0, .int .i64 0] 24 (0, 0)) (by (with_reducible repeat (first | refine zad ?_ _ | refine zab ?_ | refine zac ?_ _)); exact BK418.o)) : gb418 ≠ gb423)); have n9_ := zaa.mk ((by rw [hg]; exact Nat.ne_of_gt (zak (g := gb418) (o := .cells #[.int .i64 0, .int .i64 0] 24 (0, 0)) (by (with_reducible repeat (first | refine zad ?_ _ | refine zab ?_ | refine zac ?_ _)); exact BK418.o)) : gb423 ≠ gb418)); clear BK417; clear BK418; clear HB; have BK417 := n0_; have BK418 := n1_; have HB := n2_; have BK423 := n3_; have GW423 := n4_; have GE423 := n5_; have NB417_423 := n6_; have NB423_417 := n7_; have NB418_423 := n8_; have NB423_418 := n9_; clear n0_ n1_ n2_ n3_ n4_ n5_ n6_ n7_ n8_ n9_; clear hb hbox hg; have hnb52 := NB423_417.o; have hnc52 := NB417_423.o; have hnb53 := NB423_418.o; have hnc53 := NB418_423.o; obtain ⟨hcz54_0, hcz54_1⟩ := cz2 BK423.o; obtain ⟨hfz54_0, hfz54_1⟩ := fz2 BK423.o) | ((with_reducible refine zas (f := 51) rfl ?_); refine zat (some 62) rfl rfl Tryd.func51 (by kernel_rfl) rfl #[.int .u64 (IntKind.u64.wrap (wrap64 (t422)))] rfl (by (try simp only [List.map_toArray, List.map_cons, List.map_nil]); first | done | rfl | (simp only [List.length_drop, List.length_take]; rfl)) ?_; (with_reducible refine (bits_Len.calls (IntKind.u64.wrap (wrap64 (t422))) t424 _ A48.o).mono ?_); rintro e w55 ⟨rfl, hb⟩; refine ⟨_, rfl, ?_⟩; have n0_ := zaa.mk (zai (g := gb417) (o := .cells #[.int .i64 a0_0, .int .i64 a0_1] 24 (0, 0)) (by (with_reducible repeat (first | refine zad ?_ _ | refine zab ?_ | refine zac ?_ _)); refine zam ?_ NB417_423.o _; (with_reducible repeat (first | refine zad ?_ _ | refine zab ?_ | refine zac ?_ _)); refine zam ?_ NB417_423.o _; (with_reducible repeat (first | refine zad ?_ _ | refine zab ?_ | refine zac ?_ _)); exact BK417.o) hb); have n1_ := zaa.mk (zai (g := gb418) (o := .cells #[.int .i64 0, .int .i64 0] 24 (0, 0)) (by (with_reducible repeat (first | refine zad ?_ _ | refine zab ?_ | refine zac ?_ _)); refine zam ?_ NB418_423.o _; (with_reducible repeat (first | refine zad ?_ _ | refine zab ?_ | refine zac ?_ _)); refine zam ?_ NB418_423.o _; (with_reducible repeat (first | refine zad ?_ _ | refine zab ?_ | refine zac ?_ _)); exact BK418.o) hb); have n2_ := zaa.mk (zai (g := gb423) (o := .cells #[.int .i64 a0_0, .int .i64 a0_1] 24 (0, 0)) (by (with_reducible repeat (first | refine zad ?_ _ | refine zab ?_ | refine zac ?_ _)); refine zap (cs := #[.int .i64 a0_0, .int .i64 0]) ?_ 1 _ rfl; (with_reducible repeat (first | refine zad ?_ _ | refine zab ?_ | refine zac ?_ _)); refine zap (cs := #[.int .i64 0, .int .i64 0]) ?_ 0 _ rfl; (with_reducible repeat (first | refine zad ?_ _ | refine zab ?_ | refine zac ?_ _)); exact BK423.o) hb); have n3_ := zaa.mk (zao (by repeat (first | (with_reducible first | exact HB.o | apply zaf | apply zah | apply zag | refine zae ?_ GE417.o | refine zae ?_ GE418.o | refine zae ?_ GE423.o) | exact HB.o)) hb); clear BK417; clear BK418; clear BK423; clear HB; have BK417 := n0_; have BK418 := n1_; have BK423 := n2_; have HB := n3_; clear n0_ n1_ n2_ n3_; (try clear hb); (try clear hb2); (try clear hk); (try clear hi)))
           go_loopg [8] kj25 (fun kq v8 w' => ∃ (x8_3 : Int) (x419000_3 : Int) (x419001_3 : Int) (x424000_3 : Int) (x424001_3 : Int), v8 = .int .i64 x8_3 ∧ zaa (rational_Pow.l0 kq a1 (wrap64 (t422)) x8_3 a0_0 a0_1 x424000_3 x424001_3 = some (r1, r2, r3)) ∧ zaa (kq ≤ kj25) ∧ zaa (w'.heap[gb417]? = some (.cells #[.int .i64 a0_0, .int .i64 a0_1] 24 (0, 0))) ∧ zaa (w'.heap[gb418]? = some (.cells #[.int .i64 x419000_3, .int .i64 x419001_3] 24 (0, 0))) ∧ zaa (w'.heap[gb423]? = some (.cells #[.int .i64 x424000_3, .int .i64 x424001_3] 24 (0, 0))) ∧ zaa (Below w.heap.size w w'))
           case atStart => exact ⟨(wrap64 (t424 - 2)), (0), (0), (a0_0), (a0_1), (by first | rfl | (simp; done) | (simp [*]; done)), H', ⟨Nat.le_refl _⟩, ⟨by (with_reducible repeat (first | refine zad ?_ _ | refine zab ?_ | refine zac ?_ _)); exact BK417.o⟩, ⟨by (with_reducible repeat (first | refine zad ?_ _ | refine zab ?_ | refine zac ?_ _)); exact BK418.o⟩, ⟨by (with_reducible repeat (first | refine zad ?_ _ | refine zab ?_ | refine zac ?_ _)); exact BK423.o⟩, ⟨by repeat (first | (with_reducible first | exact HB.o | apply zaf | apply zah | apply zag | refine zae ?_ GE417.o | refine zae ?_ GE418.o | refine zae ?_ GE423.o) | exact HB.o)⟩⟩
           case round =>
            clear H'
            try clear c1
            try clear c2
            try clear p2
            try clear c3
            try clear c4
            try clear c5
            try clear c5b0
            try clear c5b1
            try clear p6
            try clear c8
            try clear c15
            try clear c18
            try clear c18b0
            try clear c18b1
            try clear c19
            try clear c21
            try clear c23
            try clear c24
            try clear c27
            try clear c27b0
            try clear c27b1
            try clear c28
            try clear c28b0
            try clear c29
            try clear c31
            try clear c33
            try clear c35
            try clear c37
            try clear c41
            try clear c41b0
            try clear c42
            try clear c44
            try clear c44b0
            try clear c45
            try clear c49
            try clear c50
            try clear c51
            try clear c52
            try clear c53
            try clear hcz11_0
            try clear hcz11_1
            try clear hcz16_0
            try clear hcz16_1
            try clear hcz20_0
            try clear hcz20_1
            try clear hcz22_0
            try clear hcz22_1
            try clear hcz25_0
            try clear hcz25_1
            try clear hcz30_0
            try clear hcz30_1
            try clear hcz32_0
            try clear hcz32_1
            try clear hcz34_0
            try clear hcz34_1
            try clear hcz38_0
            try clear hcz38_1
            try clear hcz40_0
            try clear hcz40_1
            try clear hcz43_0
            try clear hcz43_1
            try clear hcz46_0
            try clear hcz46_1
            try clear hcz50_0
            try clear hcz50_1
            try clear hcz54_0
            try clear hcz54_1
            try clear hcz9_0
            try clear hcz9_1
            try clear hfz11_0
            try clear hfz11_1
            try clear hfz16_0
            try clear hfz16_1
            try clear hfz20_0
            try clear hfz20_1
            try clear hfz22_0
            try clear hfz22_1
            try clear hfz25_0
            try clear hfz25_1
            try clear hfz30_0
            try clear hfz30_1
            try clear hfz32_0
            try clear hfz32_1
            try clear hfz34_0
            try clear hfz34_1
            try clear hfz38_0
            try clear hfz38_1
            try clear hfz40_0
            try clear hfz40_1
            try clear hfz43_0
            try clear hfz43_1
            try clear hfz46_0
            try clear hfz46_1
            try clear hfz50_0
            try clear hfz50_1
            try clear hfz54_0
            try clear hfz54_1
            try clear hfz9_0
            try clear hfz9_1
            try clear p2
            obtain ⟨x8_3, x419000_3, x419001_3, x424000_3, x424001_3, rfl, HA, HK3, BK417, BK418, BK423, HB⟩ := hrel
            cases gk with
            | zero => exact absurd HA.o (by simp [rational_Pow.l0])
            | succ k3 =>
             have H := HA.o
             clear HA
             simp only [rational_Pow.l0] at H
             by_cases c56 : x8_3 ≥ 0
             ·rw [if_pos c56] at H
              have c56b0 : decide (0 ≤ x8_3) = true := decide_eq_true c56
              clear c56
              have H' := zaa.mk H
              clear H
              have hnb57 := NB423_417.o
              have hnc57 := NB417_423.o
              have hnb58 := NB423_418.o
              have hnc58 := NB418_423.o
              have hcz59_0 : wr.cell? ⟨gb423, 0, none⟩ = some (.int .i64 x424000_3) := (zaj BK423.o 0).trans rfl
              have hcz59_1 : wr.cell? ⟨gb423, 1, none⟩ = some (.int .i64 x424001_3) := (zaj BK423.o 1).trans rfl
              have hfz59_0 := zal BK423.o 0
              have hfz59_1 := zal BK423.o 1
              have hnb60 := NB417_418.o
              have hnc60 := NB418_417.o
              have hcz61_0 : wr.cell? ⟨gb417, 0, none⟩ = some (.int .i64 a0_0) := (zaj BK417.o 0).trans rfl
              have hcz61_1 : wr.cell? ⟨gb417, 1, none⟩ = some (.int .i64 a0_1) := (zaj BK417.o 1).trans rfl
              have hfz61_0 := zal BK417.o 0
              have hfz61_1 := zal BK417.o 1
              go_wp2
              go_loopg [71] k3 (fun kq v71 w' => ∃ (x71_4 : Int) (x419000_4 : Int) (x419001_4 : Int) (x424000_4 : Int) (x424001_4 : Int), v71 = .int .i64 x71_4 ∧ zaa (rational_Pow.l1 kq a1 (wrap64 (t422)) x8_3 x71_4 x424000_3 x424001_3 a0_0 a0_1 a0_0 a0_1 x424000_4 x424001_4 = some (r1, r2, r3)) ∧ zaa (kq ≤ k3) ∧ zaa (w'.heap[gb417]? = some (.cells #[.int .i64 a0_0, .int .i64 a0_1] 24 (0, 0))) ∧ zaa (w'.heap[gb418]? = some (.cells #[.int .i64 x419000_4, .int .i64 x419001_4] 24 (0, 0))) ∧ zaa (w'.heap[gb423]? = some (.cells #[.int .i64 x424000_4, .int .i64 x424001_4] 24 (0, 0))) ∧ zaa (Below w.heap.size w w'))
              case atStart => exact ⟨(0), (x419000_3), (x419001_3), (x424000_3), (x424001_3), (by first | rfl | (simp; done) | (simp [*]; done)), H', ⟨Nat.le_refl _⟩, ⟨by (with_reducible repeat (first | refine zad ?_ _ | refine zab ?_ | refine zac ?_ _)); exact BK417.o⟩, ⟨by (with_reducible repeat (first | refine zad ?_ _ | refine zab ?_ | refine zac ?_ _)); exact BK418.o⟩, ⟨by (with_reducible repeat (first | refine zad ?_ _ | refine zab ?_ | refine zac ?_ _)); exact BK423.o⟩, ⟨by repeat (first | (with_reducible first | exact HB.o | apply zaf | apply zah | apply zag | refine zae ?_ GE417.o | refine zae ?_ GE418.o | refine zae ?_ GE423.o) | exact HB.o)⟩⟩
              case round =>
               clear H'
               try clear c1
               try clear c2
               try clear p2
               try clear c3
               try clear c4
               try clear c5
               try clear c5b0
               try clear c5b1
               try clear c6
               try clear p6
               try clear c8
               try clear c15
               try clear c18
               try clear c18b0
               try clear c18b1
               try clear c19
               try clear c21
               try clear c23
               try clear c24
               try clear c27
               try clear c27b0
               try clear c27b1
               try clear c28
               try clear c28b0
               try clear c29
               try clear c31
               try clear c33
               try clear c35
               try clear c37
               try clear c41
               try clear c41b0
               try clear c42
               try clear c44
               try clear c44b0
               try clear c45
               try clear c49
               try clear c50
               try clear c51
               try clear c52
               try clear c53
               try clear c56
               try clear c56b0
               try clear c57
               try clear c58
               try clear c60
               try clear hcz11_0
               try clear hcz11_1
               try clear hcz16_0
               try clear hcz16_1
               try clear hcz20_0
               try clear hcz20_1
               try clear hcz22_0
               try clear hcz22_1
               try clear hcz25_0
               try clear hcz25_1
               try clear hcz30_0
               try clear hcz30_1
               try clear hcz32_0
               try clear hcz32_1
               try clear hcz34_0
               try clear hcz34_1
               try clear hcz38_0
               try clear hcz38_1
               try clear hcz40_0
               try clear hcz40_1
               try clear hcz43_0
               try clear hcz43_1
               try clear hcz46_0
               try clear hcz46_1
               try clear hcz50_0
               try clear hcz50_1
               try clear hcz54_0
               try clear hcz54_1
               try clear hcz59_0
               try clear hcz59_1
               try clear hcz61_0
               try clear hcz61_1
               try clear hcz9_0
               try clear hcz9_1
               try clear hfz11_0
               try clear hfz11_1
               try clear hfz16_0
               try clear hfz16_1
               try clear hfz20_0
               try clear hfz20_1
               try clear hfz22_0
               try clear hfz22_1
               try clear hfz25_0
               try clear hfz25_1
               try clear hfz30_0
               try clear hfz30_1
               try clear hfz32_0
               try clear hfz32_1
               try clear hfz34_0
               try clear hfz34_1
               try clear hfz38_0
               try clear hfz38_1
               try clear hfz40_0
               try clear hfz40_1
               try clear hfz43_0
               try clear hfz43_1
               try clear hfz46_0
               try clear hfz46_1
               try clear hfz50_0
               try clear hfz50_1
               try clear hfz54_0
               try clear hfz54_1
               try clear hfz59_0
               try clear hfz59_1
               try clear hfz61_0
               try clear hfz61_1
               try clear hfz9_0
               try clear hfz9_1
               try clear p2
               try clear p6
               obtain ⟨x71_4, x419000_4, x419001_4, x424000_4, x424001_4, rfl, HA, HK4, BK417, BK418, BK423, HB⟩ := hrel
               cases gk with
               | zero => exact absurd HA.o (by simp [rational_Pow.l1])
               | succ k4 =>
                have H := HA.o
                clear HA
                simp only [rational_Pow.l1] at H
                by_cases c62 : x71_4 < 2
                ·rw [if_pos c62] at H
                 have c62b0 : decide (x71_4 < 2) = true := decide_eq_true c62
                 clear c62
                 by_cases c63 : x71_4 = 0
                 ·subst c63
                  have H1 : ((rational_Mul.f k4 x424000_4 x424001_4 x424000_3 x424001_3).bind fun bt429 => (if bt429.2.2 = 0 then (if 0 ≤ x8_3 then (if (Go.bits .and .i64 (shr .i64 (wrap64 (t422)) x8_3) 1) = 0 then (rational_Pow.l0 k4 a1 (wrap64 (t422)) (wrap64 (x8_3 - 1)) a0_0 a0_1 bt429.1 bt429.2.1) else (rational_Pow.l1 k4 a1 (wrap64 (t422)) x8_3 (0 + 1) x424000_3 x424001_3 a0_0 a0_1 a0_0 a0_1 bt429.1 bt429.2.1)) else (none)) else (some (0, 0, bt429.2.2)))) = some (r1, r2, r3) := by rw [if_pos rfl] at H; exact H
                  clear H
                  have H := H1
                  clear H1
                  replace H := Option.bind_eq_some_iff.mp H
                  obtain ⟨⟨t429, t430, t431⟩, A640, H⟩ := H
                  replace H : (if t431 = 0 then (if 0 ≤ x8_3 then (if (Go.bits .and .i64 (shr .i64 (wrap64 (t422)) x8_3) 1) = 0 then (rational_Pow.l0 k4 a1 (wrap64 (t422)) (wrap64 (x8_3 - 1)) a0_0 a0_1 t429 t430) else (rational_Pow.l1 k4 a1 (wrap64 (t422)) x8_3 (0 + 1) x424000_3 x424001_3 a0_0 a0_1 a0_0 a0_1 t429 t430)) else (none)) else (some (0, 0, t431))) = some (r1, r2, r3) := H
                  have A64 := zaa.mk A640
                  clear A640
                  by_cases c65 : t431 = 0
                  ·rw [if_pos c65] at H
                   have c65b0 : (t431 == 0) = true := beq_iff_eq.mpr c65
                   have c65b1 : (t431 != 0) = false := bne_eq_false_iff_eq.mpr c65
                   clear c65
                   by_cases c66 : 0 ≤ x8_3
                   ·rw [if_pos c66] at H
                    have c66b0 := eq_true c66
                    have c66b1 : decide (0 ≤ x8_3) = true := decide_eq_true c66
                    clear c66
                    obtain ⟨ji67, hji67⟩ : ∃ j_ : Int, (shr .i64 (wrap64 (t422)) x8_3) = j_ := ⟨_, rfl⟩
                    replace H : (if (Go.bits .and .i64 (ji67) 1) = 0 then (rational_Pow.l0 k4 a1 (wrap64 (t422)) (wrap64 (x8_3 - 1)) a0_0 a0_1 t429 t430) else (rational_Pow.l1 k4 a1 (wrap64 (t422)) x8_3 (0 + 1) x424000_3 x424001_3 a0_0 a0_1 a0_0 a0_1 t429 t430)) = some (r1, r2, r3) := by first | (rw [hji67] at H; exact H) | (simp only [hji67] at H ⊢; exact H)
                    (try rw [hji67] at A64)
                    have hji67_ : ((wrap64 (t422)) / 2 ^ min x8_3.toNat 64) = ji67 := hji67
                    have hji67z : x8_3 ≤ 64 → ((wrap64 (t422)) / 2 ^ x8_3.toNat) = ji67 := shr_small hji67
                    by_cases c68 : (Go.bits .and .i64 (ji67) 1) = 0
                    ·rw [if_pos c68] at H
                     have c68b0 : ((Go.bits .and .i64 (ji67) 1) == 0) = true := beq_iff_eq.mpr c68
                     have c68b1 : ((Go.bits .and .i64 (ji67) 1) != 0) = false := bne_eq_false_iff_eq.mpr c68
                     clear c68
                     have H' := zaa.mk H
                     clear H
                     go_wp2_with (first | ((with_reducible refine zaq (N := 10) rfl ?_); refine zar ?hg (N := 10) ?hd (cs := #[.int .i64 0, .int .i64 0]) (t := 24) ?hr ?_; (case hd => rfl); (case hg => rfl); (case hr => first | (go_simp; done) | (go_simp; rfl)); intro gb428 hg w69 hbox hb; have n0_ := zaa.mk (zai (by (with_reducible repeat (first | refine zad ?_ _ | refine zab ?_ | refine zac ?_ _)); exact BK417.o) hb); have n1_ := zaa.mk (zai (by (with_reducible repeat (first | refine zad ?_ _ | refine zab ?_ | refine zac ?_ _)); exact BK418.o) hb); have n2_ := zaa.mk (zai (by (with_reducible repeat (first | refine zad ?_ _ | refine zab ?_ | refine zac ?_ _)); exact BK423.o) hb); have n3_ := zaa.mk (zao (by repeat (first | (with_reducible first | exact HB.o | apply zaf | apply zah | apply zag | refine zae ?_ GE417.o | refine zae ?_ GE418.o | refine zae ?_ GE423.o) | exact HB.o)) hb); have n4_ := zaa.mk (hbox); have n5_ := zaa.mk ((by rw [hg]; exact (zan (by repeat (first | (with_reducible first | exact HB.o | apply zaf | apply zah | apply zag | refine zae ?_ GE417.o | refine zae ?_ GE418.o | refine zae ?_ GE423.o) | exact HB.o))) : w.heap.size ≤ gb428)); have n6_ := zaa.mk ((by rw [hg]; exact (zan (by repeat (first | (with_reducible first | exact HB.o | apply zaf | apply zah | apply zag | refine zae ?_ GE417.o | refine zae ?_ GE418.o | refine zae ?_ GE423.o) | exact HB.o))) : w.heap.size ≤ gb428)); have n7_ := zaa.mk ((by rw [hg]; exact Nat.ne_of_lt (zak (g := gb417) (o := .cells #[.int .i64 a0_0, .int .i64 a0_1] 24 (0, 0)) (by (with_reducible repeat (first | refine zad ?_ _ | refine zab ?_ | refine zac ?_ _)); exact BK417.o)) : gb417 ≠ gb428)); have n8_ := zaa.mk ((by rw [hg]; exact Nat.ne_of_gt (zak (g := gb417) (o := .cells #[.int .i64 a0_0, .int .i64 a0_1] 24 (0, 0)) (by (with_reducible repeat (first | refine zad ?_ _ | refine zab ?_ | refine zac ?_ _)); exact BK417.o)) : gb428 ≠ gb417)); have n9_ := zaa.mk ((by rw [hg]; exact Nat.ne_of_lt (zak (g := gb418) (o := .cells #[.int .i64 x419000_4, .int .i64 x419001_4] 24 (0, 0)) (by (with_reducible repeat (first | refine zad ?_ _ | refine zab ?_ | refine zac ?_ _)); exact BK418.o)) : gb418 ≠ gb428)); have n10_ := zaa.mk ((by rw [hg]; exact Nat.ne_of_gt (zak (g := gb418) (o := .cells #[.int .i64 x419000_4, .int .i64 x419001_4] 24 (0, 0)) (by (with_reducible repeat (first | refine zad ?_ _ | refine zab ?_ | refine zac ?_ _)); exact BK418.o)) : gb428 ≠ gb418)); have n11_ := zaa.mk ((by rw [hg]; exact Nat.ne_of_lt (zak (g := gb423) (o := .cells #[.int .i64 x424000_4, .int .i64 x424001_4] 24 (0, 0)) (by (with_reducible repeat (first | refine zad ?_ _ | refine zab ?_ | refine zac ?_ _)); exact BK423.o)) : gb423 ≠ gb428)); have n12_ := zaa.mk ((by rw [hg]; exact Nat.ne_of_gt (zak (g := gb423) (o := .cells #[.int .i64 x424000_4, .int .i64 x424001_4] 24 (0, 0)) (by (with_reducible repeat (first | refine zad ?_ _ | refine zab ?_ | refine zac ?_ _)); exact BK423.o)) : gb428 ≠ gb423)); clear BK417; clear BK418; clear BK423; clear HB; have BK417 := n0_; have BK418 := n1_; have BK423 := n2_; have HB := n3_; have BK428 := n4_; have GW428 := n5_; have GE428 := n6_; have NB417_428 := n7_; have NB428_417 := n8_; have NB418_428 := n9_; have NB428_418 := n10_; have NB423_428 := n11_; have NB428_423 := n12_; clear n0_ n1_ n2_ n3_ n4_ n5_ n6_ n7_ n8_ n9_ n10_ n11_ n12_; clear hb hbox hg; have hnb70 := NB428_417.o; have hnc70 := NB417_428.o; have hnb71 := NB428_418.o; have hnc71 := NB418_428.o; have hnb72 := NB428_423.o; have hnc72 := NB423_428.o; obtain ⟨hcz73_0, hcz73_1⟩ := cz2 BK428.o; obtain ⟨hfz73_0, hfz73_1⟩ := fz2 BK428.o; have hnb74 := NB423_417.o; have hnc74 := NB417_423.o; have hnb75 := NB423_418.o; have hnc75 := NB418_423.o; obtain ⟨hcz76_0, hcz76_1⟩ := cz2 BK423.o; obtain ⟨hfz76_0, hfz76_1⟩ := fz2 BK423.o) | ((with_reducible refine zas (f := 24) rfl ?_); refine zat (some 77) rfl rfl Tryd.func24 (by kernel_rfl) rfl #[.agg #[.int .i64 x424000_4, .int .i64 x424001_4], .agg #[.int .i64 x424000_3, .int .i64 x424001_3]] rfl (by (try simp only [List.map_toArray, List.map_cons, List.map_nil]); first | done | rfl | (simp only [List.length_drop, List.length_take]; rfl)) ?_; (with_reducible refine (rational_Mul.calls k4 x424000_4 x424001_4 x424000_3 x424001_3 t429 t430 t431 _ A64.o).mono ?_); rintro e w77 ⟨rfl, hb⟩; refine ⟨_, rfl, ?_⟩; have n0_ := zaa.mk (zai (g := gb417) (o := .cells #[.int .i64 a0_0, .int .i64 a0_1] 24 (0, 0)) (by (with_reducible repeat (first | refine zad ?_ _ | refine zab ?_ | refine zac ?_ _)); refine zam ?_ NB417_428.o _; (with_reducible repeat (first | refine zad ?_ _ | refine zab ?_ | refine zac ?_ _)); refine zam ?_ NB417_428.o _; (with_reducible repeat (first | refine zad ?_ _ | refine zab ?_ | refine zac ?_ _)); exact BK417.o) hb); have n1_ := zaa.mk (zai (g := gb418) (o := .cells #[.int .i64 x419000_4, .int .i64 x419001_4] 24 (0, 0)) (by (with_reducible repeat (first | refine zad ?_ _ | refine zab ?_ | refine zac ?_ _)); refine zam ?_ NB418_428.o _; (with_reducible repeat (first | refine zad ?_ _ | refine zab ?_ | refine zac ?_ _)); refine zam ?_ NB418_428.o _; (with_reducible repeat (first | refine zad ?_ _ | refine zab ?_ | refine zac ?_ _)); exact BK418.o) hb); have n2_ := zaa.mk (zai (g := gb423) (o := .cells #[.int .i64 x424000_4, .int .i64 x424001_4] 24 (0, 0)) (by (with_reducible repeat (first | refine zad ?_ _ | refine zab ?_ | refine zac ?_ _)); refine zam ?_ NB423_428.o _; (with_reducible repeat (first | refine zad ?_ _ | refine zab ?_ | refine zac ?_ _)); refine zam ?_ NB423_428.o _; (with_reducible repeat (first | refine zad ?_ _ | refine zab ?_ | refine zac ?_ _)); exact BK423.o) hb); have n3_ := zaa.mk (zai (g := gb428) (o := .cells #[.int .i64 x424000_3, .int .i64 x424001_3] 24 (0, 0)) (by (with_reducible repeat (first | refine zad ?_ _ | refine zab ?_ | refine zac ?_ _)); refine zap (cs := #[.int .i64 x424000_3, .int .i64 0]) ?_ 1 _ rfl; (with_reducible repeat (first | refine zad ?_ _ | refine zab ?_ | refine zac ?_ _)); refine zap (cs := #[.int .i64 0, .int .i64 0]) ?_ 0 _ rfl; (with_reducible repeat (first | refine zad ?_ _ | refine zab ?_ | refine zac ?_ _)); exact BK428.o) hb); have n4_ := zaa.mk (zao (by repeat (first | (with_reducible first | exact HB.o | apply zaf | apply zah | apply zag | refine zae ?_ GE417.o | refine zae ?_ GE418.o | refine zae ?_ GE423.o | refine zae ?_ GE428.o) | exact HB.o)) hb); clear BK417; clear BK418; clear BK423; clear BK428; clear HB; have BK417 := n0_; have BK418 := n1_; have BK423 := n2_; have BK428 := n3_; have HB := n4_; clear n0_ n1_ n2_ n3_ n4_; (try clear hb); (try clear hb2); (try clear hk); (try clear hi)) | ((with_reducible refine zaq (N := 11) rfl ?_); refine zar ?hg (N := 11) ?hd (cs := #[.int .i64 0, .int .i64 0]) (t := 24) ?hr ?_; (case hd => rfl); (case hg => rfl); (case hr => first | (go_simp; done) | (go_simp; rfl)); intro gb432 hg w78 hbox hb; have n0_ := zaa.mk (zai (by (with_reducible repeat (first | refine zad ?_ _ | refine zab ?_ | refine zac ?_ _)); exact BK417.o) hb); have n1_ := zaa.mk (zai (by (with_reducible repeat (first | refine zad ?_ _ | refine zab ?_ | refine zac ?_ _)); exact BK418.o) hb); have n2_ := zaa.mk (zai (by (with_reducible repeat (first | refine zad ?_ _ | refine zab ?_ | refine zac ?_ _)); exact BK423.o) hb); have n3_ := zaa.mk (zai (by (with_reducible repeat (first | refine zad ?_ _ | refine zab ?_ | refine zac ?_ _)); exact BK428.o) hb); have n4_ := zaa.mk (zao (by repeat (first | (with_reducible first | exact HB.o | apply zaf | apply zah | apply zag | refine zae ?_ GE417.o | refine zae ?_ GE418.o | refine zae ?_ GE423.o | refine zae ?_ GE428.o) | exact HB.o)) hb); have n5_ := zaa.mk (hbox); have n6_ := zaa.mk ((by rw [hg]; exact (zan (by repeat (first | (with_reducible first | exact HB.o | apply zaf | apply zah | apply zag | refine zae ?_ GE417.o | refine zae ?_ GE418.o | refine zae ?_ GE423.o | refine zae ?_ GE428.o) | exact HB.o))) : w.heap.size ≤ gb432)); have n7_ := zaa.mk ((by rw [hg]; exact (zan (by repeat (first | (with_reducible first | exact HB.o | apply zaf | apply zah | apply zag | refine zae ?_ GE417.o | refine zae ?_ GE418.o | refine zae ?_ GE423.o | refine zae ?_ GE428.o) | exact HB.o))) : w.heap.size ≤ gb432)); have n8_ := zaa.mk ((by rw [hg]; exact Nat.ne_of_lt (zak (g := gb417) (o := .cells #[.int .i64 a0_0, .int .i64 a0_1] 24 (0, 0)) (by (with_reducible repeat (first | refine zad ?_ _ | refine zab ?_ | refine zac ?_ _)); exact BK417.o)) : gb417 ≠ gb432)); have n9_ := zaa.mk ((by rw [hg]; exact Nat.ne_of_gt (zak (g := gb417) (o := .cells #[.int .i64 a0_0, .int .i64 a0_1] 24 (0, 0)) (by (with_reducible repeat (first | refine zad ?_ _ | refine zab ?_ | refine zac ?_ _)); exact BK417.o)) : gb432 ≠ gb417)); have n10_ := zaa.mk ((by rw [hg]; exact Nat.ne_of_lt (zak (g := gb418) (o := .cells #[.int .i64 x419000_4, .int .i64 x419001_4] 24 (0, 0)) (by (with_reducible repeat (first | refine zad ?_ _ | refine zab ?_ | refine zac ?_ _)); exact BK418.o)) : gb418 ≠ gb432)); have n11_ := zaa.mk ((by rw [hg]; exact Nat.ne_of_gt (zak (g := gb418) (o := .cells #[.int .i64 x419000_4, .int .i64 x419001_4] 24 (0, 0)) (by (with_reducible repeat (first | refine zad ?_ _ | refine zab ?_ | refine zac ?_ _)); exact BK418.o)) : gb432 ≠ gb418)); have n12_ := zaa.mk ((by rw [hg]; exact Nat.ne_of_lt (zak (g := gb423) (o := .cells #[.int .i64 x424000_4, .int .i64 x424001_4] 24 (0, 0)) (by (with_reducible repeat (first | refine zad ?_ _ | refine zab ?_ | refine zac ?_ _)); exact BK423.o)) : gb423 ≠ gb432)); have n13_ := zaa.mk ((by rw [hg]; exact Nat.ne_of_gt (zak (g := gb423) (o := .cells #[.int .i64 x424000_4, .int .i64 x424001_4] 24 (0, 0)) (by (with_reducible repeat (first | refine zad ?_ _ | refine zab ?_ | refine zac ?_ _)); exact BK423.o)) : gb432 ≠ gb423)); have n14_ := zaa.mk ((by rw [hg]; exact Nat.ne_of_lt (zak (g := gb428) (o := .cells #[.int .i64 x424000_3, .int .i64 x424001_3] 24 (0, 0)) (by (with_reducible repeat (first | refine zad ?_ _ | refine zab ?_ | refine zac ?_ _)); exact BK428.o)) : gb428 ≠ gb432)); have n15_ := zaa.mk ((by rw [hg]; exact Nat.ne_of_gt (zak (g := gb428) (o := .cells #[.int .i64 x424000_3, .int .i64 x424001_3] 24 (0, 0)) (by (with_reducible repeat (first | refine zad ?_ _ | refine zab ?_ | refine zac ?_ _)); exact BK428.o)) : gb432 ≠ gb428)); clear BK417; clear BK418; clear BK423; clear BK428; clear HB; have BK417 := n0_; have BK418 := n1_; have BK423 := n2_; have BK428 := n3_; have HB := n4_; have BK432 := n5_; have GW432 := n6_; have GE432 := n7_; have NB417_432 := n8_; have NB432_417 := n9_; have NB418_432 := n10_; have NB432_418 := n11_; have NB423_432 := n12_; have NB432_423 := n13_; have NB428_432 := n14_; have NB432_428 := n15_; clear n0_ n1_ n2_ n3_ n4_ n5_ n6_ n7_ n8_ n9_ n10_ n11_ n12_ n13_ n14_ n15_; clear hb hbox hg; have hnb79 := NB432_417.o; have hnc79 := NB417_432.o; have hnb80 := NB432_418.o; have hnc80 := NB418_432.o; have hnb81 := NB432_423.o; have hnc81 := NB423_432.o; have hnb82 := NB432_428.o; have hnc82 := NB428_432.o; obtain ⟨hcz83_0, hcz83_1⟩ := cz2 BK432.o; obtain ⟨hfz83_0, hfz83_1⟩ := fz2 BK432.o; obtain ⟨hcz84_0, hcz84_1⟩ := cz2 BK423.o; obtain ⟨hfz84_0, hfz84_1⟩ := fz2 BK423.o))
                     go_roundg k4
                     case measure => have := HJ11.out; have := HJ25.out; have := HK3.o; have := HK4.o; omega
                     case rel => exact ⟨(wrap64 (x8_3 - 1)), (x419000_4), (x419001_4), (t429), (t430), (by first | rfl | (simp; done) | (simp [*]; done)), H', ⟨by have := HJ11.out; have := HJ25.out; have := HK3.o; have := HK4.o; omega⟩, ⟨by (with_reducible repeat (first | refine zad ?_ _ | refine zab ?_ | refine zac ?_ _)); refine zam ?_ NB417_423.o _; (with_reducible repeat (first | refine zad ?_ _ | refine zab ?_ | refine zac ?_ _)); refine zam ?_ NB417_423.o _; (with_reducible repeat (first | refine zad ?_ _ | refine zab ?_ | refine zac ?_ _)); refine zam ?_ NB417_432.o _; (with_reducible repeat (first | refine zad ?_ _ | refine zab ?_ | refine zac ?_ _)); refine zam ?_ NB417_432.o _; (with_reducible repeat (first | refine zad ?_ _ | refine zab ?_ | refine zac ?_ _)); exact BK417.o⟩, ⟨by (with_reducible repeat (first | refine zad ?_ _ | refine zab ?_ | refine zac ?_ _)); refine zam ?_ NB418_423.o _; (with_reducible repeat (first | refine zad ?_ _ | refine zab ?_ | refine zac ?_ _)); refine zam ?_ NB418_423.o _; (with_reducible repeat (first | refine zad ?_ _ | refine zab ?_ | refine zac ?_ _)); refine zam ?_ NB418_432.o _; (with_reducible repeat (first | refine zad ?_ _ | refine zab ?_ | refine zac ?_ _)); refine zam ?_ NB418_432.o _; (with_reducible repeat (first | refine zad ?_ _ | refine zab ?_ | refine zac ?_ _)); exact BK418.o⟩, ⟨by (with_reducible repeat (first | refine zad ?_ _ | refine zab ?_ | refine zac ?_ _)); refine zap (cs := #[.int .i64 t429, .int .i64 x424001_4]) ?_ 1 _ rfl; (with_reducible repeat (first | refine zad ?_ _ | refine zab ?_ | refine zac ?_ _)); refine zap (cs := #[.int .i64 x424000_4, .int .i64 x424001_4]) ?_ 0 _ rfl; (with_reducible repeat (first | refine zad ?_ _ | refine zab ?_ | refine zac ?_ _)); refine zam ?_ NB423_432.o _; (with_reducible repeat (first | refine zad ?_ _ | refine zab ?_ | refine zac ?_ _)); refine zam ?_ NB423_432.o _; (with_reducible repeat (first | refine zad ?_ _ | refine zab ?_ | refine zac ?_ _)); exact BK423.o⟩, ⟨by repeat (first | (with_reducible first | exact HB.o | apply zaf | apply zah | apply zag | refine zae ?_ GE417.o | refine zae ?_ GE418.o | refine zae ?_ GE423.o | refine zae ?_ GE428.o | refine zae ?_ GE432.o) | exact HB.o)⟩⟩
                    ·rw [if_neg c68] at H
                     have c68b0 : ((Go.bits .and .i64 (ji67) 1) == 0) = false := beq_eq_false_iff_ne.mpr c68
                     have c68b1 : ((Go.bits .and .i64 (ji67) 1) != 0) = true := bne_iff_ne.mpr c68
                     have H' := zaa.mk H
                     clear H
                     go_wp2_with (first | ((with_reducible refine zaq (N := 10) rfl ?_); refine zar ?hg (N := 10) ?hd (cs := #[.int .i64 0, .int .i64 0]) (t := 24) ?hr ?_; (case hd => rfl); (case hg => rfl); (case hr => first | (go_simp; done) | (go_simp; rfl)); intro gb428 hg w85 hbox hb; have n0_ := zaa.mk (zai (by (with_reducible repeat (first | refine zad ?_ _ | refine zab ?_ | refine zac ?_ _)); exact BK417.o) hb); have n1_ := zaa.mk (zai (by (with_reducible repeat (first | refine zad ?_ _ | refine zab ?_ | refine zac ?_ _)); exact BK418.o) hb); have n2_ := zaa.mk (zai (by (with_reducible repeat (first | refine zad ?_ _ | refine zab ?_ | refine zac ?_ _)); exact BK423.o) hb); have n3_ := zaa.mk (zao (by repeat (first | (with_reducible first | exact HB.o | apply zaf | apply zah | apply zag | refine zae ?_ GE417.o | refine zae ?_ GE418.o | refine zae ?_ GE423.o) | exact HB.o)) hb); have n4_ := zaa.mk (hbox); have n5_ := zaa.mk ((by rw [hg]; exact (zan (by repeat (first | (with_reducible first | exact HB.o | apply zaf | apply zah | apply zag | refine zae ?_ GE417.o | refine zae ?_ GE418.o | refine zae ?_ GE423.o) | exact HB.o))) : w.heap.size ≤ gb428)); have n6_ := zaa.mk ((by rw [hg]; exact (zan (by repeat (first | (with_reducible first | exact HB.o | apply zaf | apply zah | apply zag | refine zae ?_ GE417.o | refine zae ?_ GE418.o | refine zae ?_ GE423.o) | exact HB.o))) : w.heap.size ≤ gb428)); have n7_ := zaa.mk ((by rw [hg]; exact Nat.ne_of_lt (zak (g := gb417) (o := .cells #[.int .i64 a0_0, .int .i64 a0_1] 24 (0, 0)) (by (with_reducible repeat (first | refine zad ?_ _ | refine zab ?_ | refine zac ?_ _)); exact BK417.o)) : gb417 ≠ gb428)); have n8_ := zaa.mk ((by rw [hg]; exact Nat.ne_of_gt (zak (g := gb417) (o := .cells #[.int .i64 a0_0, .int .i64 a0_1] 24 (0, 0)) (by (with_reducible repeat (first | refine zad ?_ _ | refine zab ?_ | refine zac ?_ _)); exact BK417.o)) : gb428 ≠ gb417)); have n9_ := zaa.mk ((by rw [hg]; exact Nat.ne_of_lt (zak (g := gb418) (o := .cells #[.int .i64 x419000_4, .int .i64 x419001_4] 24 (0, 0)) (by (with_reducible repeat (first | refine zad ?_ _ | refine zab ?_ | refine zac ?_ _)); exact BK418.o)) : gb418 ≠ gb428)); have n10_ := zaa.mk ((by rw [hg]; exact Nat.ne_of_gt (zak (g := gb418) (o := .cells #[.int .i64 x419000_4, .int .i64 x419001_4] 24 (0, 0)) (by (with_reducible repeat (first | refine zad ?_ _ | refine zab ?_ | refine zac ?_ _)); exact BK418.o)) : gb428 ≠ gb418)); have n11_ := zaa.mk ((by rw [hg]; exact Nat.ne_of_lt (zak (g := gb423) (o := .cells #[.int .i64 x424000_4, .int .i64 x424001_4] 24 (0, 0)) (by (with_reducible repeat (first | refine zad ?_ _ | refine zab ?_ | refine zac ?_ _)); exact BK423.o)) : gb423 ≠ gb428)); have n12_ := zaa.mk ((by rw [hg]; exact Nat.ne_of_gt (zak (g := gb423) (o := .cells #[.int .i64 x424000_4, .int .i64 x424001_4] 24 (0, 0)) (by (with_reducible repeat (first | refine zad ?_ _ | refine zab ?_ | refine zac ?_ _)); exact BK423.o)) : gb428 ≠ gb423)); clear BK417; clear BK418; clear BK423; clear HB; have BK417 := n0_; have BK418 := n1_; have BK423 := n2_; have HB := n3_; have BK428 := n4_; have GW428 := n5_; have GE428 := n6_; have NB417_428 := n7_; have NB428_417 := n8_; have NB418_428 := n9_; have NB428_418 := n10_; have NB423_428 := n11_; have NB428_423 := n12_; clear n0_ n1_ n2_ n3_ n4_ n5_ n6_ n7_ n8_ n9_ n10_ n11_ n12_; clear hb hbox hg; have hnb86 := NB428_417.o; have hnc86 := NB417_428.o; have hnb87 := NB428_418.o; have hnc87 := NB418_428.o; have hnb88 := NB428_423.o; have hnc88 := NB423_428.o; obtain ⟨hcz89_0, hcz89_1⟩ := cz2 BK428.o; obtain ⟨hfz89_0, hfz89_1⟩ := fz2 BK428.o; have hnb90 := NB423_417.o; have hnc90 := NB417_423.o; have hnb91 := NB423_418.o; have hnc91 := NB418_423.o; obtain ⟨hcz92_0, hcz92_1⟩ := cz2 BK423.o; obtain ⟨hfz92_0, hfz92_1⟩ := fz2 BK423.o) | ((with_reducible refine zas (f := 24) rfl ?_); refine zat (some 77) rfl rfl Tryd.func24 (by kernel_rfl) rfl #[.agg #[.int .i64 x424000_4, .int .i64 x424001_4], .agg #[.int .i64 x424000_3, .int .i64 x424001_3]] rfl (by (try simp only [List.map_toArray, List.map_cons, List.map_nil]); first | done | rfl | (simp only [List.length_drop, List.length_take]; rfl)) ?_; (with_reducible refine (rational_Mul.calls k4 x424000_4 x424001_4 x424000_3 x424001_3 t429 t430 t431 _ A64.o).mono ?_); rintro e w93 ⟨rfl, hb⟩; refine ⟨_, rfl, ?_⟩; have n0_ := zaa.mk (zai (g := gb417) (o := .cells #[.int .i64 a0_0, .int .i64 a0_1] 24 (0, 0)) (by (with_reducible repeat (first | refine zad ?_ _ | refine zab ?_ | refine zac ?_ _)); refine zam ?_ NB417_428.o _; (with_reducible repeat (first | refine zad ?_ _ | refine zab ?_ | refine zac ?_ _)); refine zam ?_ NB417_428.o _; (with_reducible repeat (first | refine zad ?_ _ | refine zab ?_ | refine zac ?_ _)); exact BK417.o) hb); have n1_ := zaa.mk (zai (g := gb418) (o := .cells #[.int .i64 x419000_4, .int .i64 x419001_4] 24 (0, 0)) (by (with_reducible repeat (first | refine zad ?_ _ | refine zab ?_ | refine zac ?_ _)); refine zam ?_ NB418_428.o _; (with_reducible repeat (first | refine zad ?_ _ | refine zab ?_ | refine zac ?_ _)); refine zam ?_ NB418_428.o _; (with_reducible repeat (first | refine zad ?_ _ | refine zab ?_ | refine zac ?_ _)); exact BK418.o) hb); have n2_ := zaa.mk (zai (g := gb423) (o := .cells #[.int .i64 x424000_4, .int .i64 x424001_4] 24 (0, 0)) (by (with_reducible repeat (first | refine zad ?_ _ | refine zab ?_ | refine zac ?_ _)); refine zam ?_ NB423_428.o _; (with_reducible repeat (first | refine zad ?_ _ | refine zab ?_ | refine zac ?_ _)); refine zam ?_ NB423_428.o _; (with_reducible repeat (first | refine zad ?_ _ | refine zab ?_ | refine zac ?_ _)); exact BK423.o) hb); have n3_ := zaa.mk (zai (g := gb428) (o := .cells #[.int .i64 x424000_3, .int .i64 x424001_3] 24 (0, 0)) (by (with_reducible repeat (first | refine zad ?_ _ | refine zab ?_ | refine zac ?_ _)); refine zap (cs := #[.int .i64 x424000_3, .int .i64 0]) ?_ 1 _ rfl; (with_reducible repeat (first | refine zad ?_ _ | refine zab ?_ | refine zac ?_ _)); refine zap (cs := #[.int .i64 0, .int .i64 0]) ?_ 0 _ rfl; (with_reducible repeat (first | refine zad ?_ _ | refine zab ?_ | refine zac ?_ _)); exact BK428.o) hb); have n4_ := zaa.mk (zao (by repeat (first | (with_reducible first | exact HB.o | apply zaf | apply zah | apply zag | refine zae ?_ GE417.o | refine zae ?_ GE418.o | refine zae ?_ GE423.o | refine zae ?_ GE428.o) | exact HB.o)) hb); clear BK417; clear BK418; clear BK423; clear BK428; clear HB; have BK417 := n0_; have BK418 := n1_; have BK423 := n2_; have BK428 := n3_; have HB := n4_; clear n0_ n1_ n2_ n3_ n4_; (try clear hb); (try clear hb2); (try clear hk); (try clear hi)) | ((with_reducible refine zaq (N := 11) rfl ?_); refine zar ?hg (N := 11) ?hd (cs := #[.int .i64 0, .int .i64 0]) (t := 24) ?hr ?_; (case hd => rfl); (case hg => rfl); (case hr => first | (go_simp; done) | (go_simp; rfl)); intro gb432 hg w94 hbox hb; have n0_ := zaa.mk (zai (by (with_reducible repeat (first | refine zad ?_ _ | refine zab ?_ | refine zac ?_ _)); exact BK417.o) hb); have n1_ := zaa.mk (zai (by (with_reducible repeat (first | refine zad ?_ _ | refine zab ?_ | refine zac ?_ _)); exact BK418.o) hb); have n2_ := zaa.mk (zai (by (with_reducible repeat (first | refine zad ?_ _ | refine zab ?_ | refine zac ?_ _)); exact BK423.o) hb); have n3_ := zaa.mk (zai (by (with_reducible repeat (first | refine zad ?_ _ | refine zab ?_ | refine zac ?_ _)); exact BK428.o) hb); have n4_ := zaa.mk (zao (by repeat (first | (with_reducible first | exact HB.o | apply zaf | apply zah | apply zag | refine zae ?_ GE417.o | refine zae ?_ GE418.o | refine zae ?_ GE423.o | refine zae ?_ GE428.o) | exact HB.o)) hb); have n5_ := zaa.mk (hbox); have n6_ := zaa.mk ((by rw [hg]; exact (zan (by repeat (first | (with_reducible first | exact HB.o | apply zaf | apply zah | apply zag | refine zae ?_ GE417.o | refine zae ?_ GE418.o | refine zae ?_ GE423.o | refine zae ?_ GE428.o) | exact HB.o))) : w.heap.size ≤ gb432)); have n7_ := zaa.mk ((by rw [hg]; exact (zan (by repeat (first | (with_reducible first | exact HB.o | apply zaf | apply zah | apply zag | refine zae ?_ GE417.o | refine zae ?_ GE418.o | refine zae ?_ GE423.o | refine zae ?_ GE428.o) | exact HB.o))) : w.heap.size ≤ gb432)); have n8_ := zaa.mk ((by rw [hg]; exact Nat.ne_of_lt (zak (g := gb417) (o := .cells #[.int .i64 a0_0, .int .i64 a0_1] 24 (0, 0)) (by (with_reducible repeat (first | refine zad ?_ _ | refine zab ?_ | refine zac ?_ _)); exact BK417.o)) : gb417 ≠ gb432)); have n9_ := zaa.mk ((by rw [hg]; exact Nat.ne_of_gt (zak (g := gb417) (o := .cells #[.int .i64 a0_0, .int .i64 a0_1] 24 (0, 0)) (by (with_reducible repeat (first | refine zad ?_ _ | refine zab ?_ | refine zac ?_ _)); exact BK417.o)) : gb432 ≠ gb417)); have n10_ := zaa.mk ((by rw [hg]; exact Nat.ne_of_lt (zak (g := gb418) (o := .cells #[.int .i64 x419000_4, .int .i64 x419001_4] 24 (0, 0)) (by (with_reducible repeat (first | refine zad ?_ _ | refine zab ?_ | refine zac ?_ _)); exact BK418.o)) : gb418 ≠ gb432)); have n11_ := zaa.mk ((by rw [hg]; exact Nat.ne_of_gt (zak (g := gb418) (o := .cells #[.int .i64 x419000_4, .int .i64 x419001_4] 24 (0, 0)) (by (with_reducible repeat (first | refine zad ?_ _ | refine zab ?_ | refine zac ?_ _)); exact BK418.o)) : gb432 ≠ gb418)); have n12_ := zaa.mk ((by rw [hg]; exact Nat.ne_of_lt (zak (g := gb423) (o := .cells #[.int .i64 x424000_4, .int .i64 x424001_4] 24 (0, 0)) (by (with_reducible repeat (first | refine zad ?_ _ | refine zab ?_ | refine zac ?_ _)); exact BK423.o)) : gb423 ≠ gb432)); have n13_ := zaa.mk ((by rw [hg]; exact Nat.ne_of_gt (zak (g := gb423) (o := .cells #[.int .i64 x424000_4, .int .i64 x424001_4] 24 (0, 0)) (by (with_reducible repeat (first | refine zad ?_ _ | refine zab ?_ | refine zac ?_ _)); exact BK423.o)) : gb432 ≠ gb423)); have n14_ := zaa.mk ((by rw [hg]; exact Nat.ne_of_lt (zak (g := gb428) (o := .cells #[.int .i64 x424000_3, .int .i64 x424001_3] 24 (0, 0)) (by (with_reducible repeat (first | refine zad ?_ _ | refine zab ?_ | refine zac ?_ _)); exact BK428.o)) : gb428 ≠ gb432)); have n15_ := zaa.mk ((by rw [hg]; exact Nat.ne_of_gt (zak (g := gb428) (o := .cells #[.int .i64 x424000_3, .int .i64 x424001_3] 24 (0, 0)) (by (with_reducible repeat (first | refine zad ?_ _ | refine zab ?_ | refine zac ?_ _)); exact BK428.o)) : gb432 ≠ gb428)); clear BK417; clear BK418; clear BK423; clear BK428; clear HB; have BK417 := n0_; have BK418 := n1_; have BK423 := n2_; have BK428 := n3_; have HB := n4_; have BK432 := n5_; have GW432 := n6_; have GE432 := n7_; have NB417_432 := n8_; have NB432_417 := n9_; have NB418_432 := n10_; have NB432_418 := n11_; have NB423_432 := n12_; have NB432_423 := n13_; have NB428_432 := n14_; have NB432_428 := n15_; clear n0_ n1_ n2_ n3_ n4_ n5_ n6_ n7_ n8_ n9_ n10_ n11_ n12_ n13_ n14_ n15_; clear hb hbox hg; have hnb95 := NB432_417.o; have hnc95 := NB417_432.o; have hnb96 := NB432_418.o; have hnc96 := NB418_432.o; have hnb97 := NB432_423.o; have hnc97 := NB423_432.o; have hnb98 := NB432_428.o; have hnc98 := NB428_432.o; obtain ⟨hcz99_0, hcz99_1⟩ := cz2 BK432.o; obtain ⟨hfz99_0, hfz99_1⟩ := fz2 BK432.o; obtain ⟨hcz100_0, hcz100_1⟩ := cz2 BK423.o; obtain ⟨hfz100_0, hfz100_1⟩ := fz2 BK423.o))
                     go_roundg k4
                     case measure => have := HJ11.out; have := HJ25.out; have := HK3.o; have := HK4.o; omega
                     case rel => exact ⟨(0 + 1), (x419000_4), (x419001_4), (t429), (t430), (by first | rfl | (simp; done) | (simp [*]; done)), H', ⟨by have := HJ11.out; have := HJ25.out; have := HK3.o; have := HK4.o; omega⟩, ⟨by (with_reducible repeat (first | refine zad ?_ _ | refine zab ?_ | refine zac ?_ _)); refine zam ?_ NB417_423.o _; (with_reducible repeat (first | refine zad ?_ _ | refine zab ?_ | refine zac ?_ _)); refine zam ?_ NB417_423.o _; (with_reducible repeat (first | refine zad ?_ _ | refine zab ?_ | refine zac ?_ _)); refine zam ?_ NB417_432.o _; (with_reducible repeat (first | refine zad ?_ _ | refine zab ?_ | refine zac ?_ _)); refine zam ?_ NB417_432.o _; (with_reducible repeat (first | refine zad ?_ _ | refine zab ?_ | refine zac ?_ _)); exact BK417.o⟩, ⟨by (with_reducible repeat (first | refine zad ?_ _ | refine zab ?_ | refine zac ?_ _)); refine zam ?_ NB418_423.o _; (with_reducible repeat (first | refine zad ?_ _ | refine zab ?_ | refine zac ?_ _)); refine zam ?_ NB418_423.o _; (with_reducible repeat (first | refine zad ?_ _ | refine zab ?_ | refine zac ?_ _)); refine zam ?_ NB418_432.o _; (with_reducible repeat (first | refine zad ?_ _ | refine zab ?_ | refine zac ?_ _)); refine zam ?_ NB418_432.o _; (with_reducible repeat (first | refine zad ?_ _ | refine zab ?_ | refine zac ?_ _)); exact BK418.o⟩, ⟨by (with_reducible repeat (first | refine zad ?_ _ | refine zab ?_ | refine zac ?_ _)); refine zap (cs := #[.int .i64 t429, .int .i64 x424001_4]) ?_ 1 _ rfl; (with_reducible repeat (first | refine zad ?_ _ | refine zab ?_ | refine zac ?_ _)); refine zap (cs := #[.int .i64 x424000_4, .int .i64 x424001_4]) ?_ 0 _ rfl; (with_reducible repeat (first | refine zad ?_ _ | refine zab ?_ | refine zac ?_ _)); refine zam ?_ NB423_432.o _; (with_reducible repeat (first | refine zad ?_ _ | refine zab ?_ | refine zac ?_ _)); refine zam ?_ NB423_432.o _; (with_reducible repeat (first | refine zad ?_ _ | refine zab ?_ | refine zac ?_ _)); exact BK423.o⟩, ⟨by repeat (first | (with_reducible first | exact HB.o | apply zaf | apply zah | apply zag | refine zae ?_ GE417.o | refine zae ?_ GE418.o | refine zae ?_ GE423.o | refine zae ?_ GE428.o | refine zae ?_ GE432.o) | exact HB.o)⟩⟩
                   ·rw [if_neg c66] at H
                    exact absurd H (by simp)
                  ·rw [if_neg c65] at H
                   have c65b0 : (t431 == 0) = false := beq_eq_false_iff_ne.mpr c65
                   have c65b1 : (t431 != 0) = true := bne_iff_ne.mpr c65
                   simp only [Option.some.injEq, Prod.mk.injEq] at H
                   obtain ⟨rfl, rfl, rfl⟩ := H
                   go_wp2_with (first | ((with_reducible refine zaq (N := 10) rfl ?_); refine zar ?hg (N := 10) ?hd (cs := #[.int .i64 0, .int .i64 0]) (t := 24) ?hr ?_; (case hd => rfl); (case hg => rfl); (case hr => first | (go_simp; done) | (go_simp; rfl)); intro gb428 hg w101 hbox hb; have n0_ := zaa.mk (zai (by (with_reducible repeat (first | refine zad ?_ _ | refine zab ?_ | refine zac ?_ _)); exact BK417.o) hb); have n1_ := zaa.mk (zai (by (with_reducible repeat (first | refine zad ?_ _ | refine zab ?_ | refine zac ?_ _)); exact BK418.o) hb); have n2_ := zaa.mk (zai (by (with_reducible repeat (first | refine zad ?_ _ | refine zab ?_ | refine zac ?_ _)); exact BK423.o) hb); have n3_ := zaa.mk (zao (by repeat (first | (with_reducible first | exact HB.o | apply zaf | apply zah | apply zag | refine zae ?_ GE417.o | refine zae ?_ GE418.o | refine zae ?_ GE423.o) | exact HB.o)) hb); have n4_ := zaa.mk (hbox); have n5_ := zaa.mk ((by rw [hg]; exact (zan (by repeat (first | (with_reducible first | exact HB.o | apply zaf | apply zah | apply zag | refine zae ?_ GE417.o | refine zae ?_ GE418.o | refine zae ?_ GE423.o) | exact HB.o))) : w.heap.size ≤ gb428)); have n6_ := zaa.mk ((by rw [hg]; exact (zan (by repeat (first | (with_reducible first | exact HB.o | apply zaf | apply zah | apply zag | refine zae ?_ GE417.o | refine zae ?_ GE418.o | refine zae ?_ GE423.o) | exact HB.o))) : w.heap.size ≤ gb428)); have n7_ := zaa.mk ((by rw [hg]; exact Nat.ne_of_lt (zak (g := gb417) (o := .cells #[.int .i64 a0_0, .int .i64 a0_1] 24 (0, 0)) (by (with_reducible repeat (first | refine zad ?_ _ | refine zab ?_ | refine zac ?_ _)); exact BK417.o)) : gb417 ≠ gb428)); have n8_ := zaa.mk ((by rw [hg]; exact Nat.ne_of_gt (zak (g := gb417) (o := .cells #[.int .i64 a0_0, .int .i64 a0_1] 24 (0, 0)) (by (with_reducible repeat (first | refine zad ?_ _ | refine zab ?_ | refine zac ?_ _)); exact BK417.o)) : gb428 ≠ gb417)); have n9_ := zaa.mk ((by rw [hg]; exact Nat.ne_of_lt (zak (g := gb418) (o := .cells #[.int .i64 x419000_4, .int .i64 x419001_4] 24 (0, 0)) (by (with_reducible repeat (first | refine zad ?_ _ | refine zab ?_ | refine zac ?_ _)); exact BK418.o)) : gb418 ≠ gb428)); have n10_ := zaa.mk ((by rw [hg]; exact Nat.ne_of_gt (zak (g := gb418) (o := .cells #[.int .i64 x419000_4, .int .i64 x419001_4] 24 (0, 0)) (by (with_reducible repeat (first | refine zad ?_ _ | refine zab ?_ | refine zac ?_ _)); exact BK418.o)) : gb428 ≠ gb418)); have n11_ := zaa.mk ((by rw [hg]; exact Nat.ne_of_lt (zak (g := gb423) (o := .cells #[.int .i64 x424000_4, .int .i64 x424001_4] 24 (0, 0)) (by (with_reducible repeat (first | refine zad ?_ _ | refine zab ?_ | refine zac ?_ _)); exact BK423.o)) : gb423 ≠ gb428)); have n12_ := zaa.mk ((by rw [hg]; exact Nat.ne_of_gt (zak (g := gb423) (o := .cells #[.int .i64 x424000_4, .int .i64 x424001_4] 24 (0, 0)) (by (with_reducible repeat (first | refine zad ?_ _ | refine zab ?_ | refine zac ?_ _)); exact BK423.o)) : gb428 ≠ gb423)); clear BK417; clear BK418; clear BK423; clear HB; have BK417 := n0_; have BK418 := n1_; have BK423 := n2_; have HB := n3_; have BK428 := n4_; have GW428 := n5_; have GE428 := n6_; have NB417_428 := n7_; have NB428_417 := n8_; have NB418_428 := n9_; have NB428_418 := n10_; have NB423_428 := n11_; have NB428_423 := n12_; clear n0_ n1_ n2_ n3_ n4_ n5_ n6_ n7_ n8_ n9_ n10_ n11_ n12_; clear hb hbox hg; have hnb102 := NB428_417.o; have hnc102 := NB417_428.o; have hnb103 := NB428_418.o; have hnc103 := NB418_428.o; have hnb104 := NB428_423.o; have hnc104 := NB423_428.o; obtain ⟨hcz105_0, hcz105_1⟩ := cz2 BK428.o; obtain ⟨hfz105_0, hfz105_1⟩ := fz2 BK428.o; have hnb106 := NB423_417.o; have hnc106 := NB417_423.o; have hnb107 := NB423_418.o; have hnc107 := NB418_423.o; obtain ⟨hcz108_0, hcz108_1⟩ := cz2 BK423.o; obtain ⟨hfz108_0, hfz108_1⟩ := fz2 BK423.o) | ((with_reducible refine zas (f := 24) rfl ?_); refine zat (some 77) rfl rfl Tryd.func24 (by kernel_rfl) rfl #[.agg #[.int .i64 x424000_4, .int .i64 x424001_4], .agg #[.int .i64 x424000_3, .int .i64 x424001_3]] rfl (by (try simp only [List.map_toArray, List.map_cons, List.map_nil]); first | done | rfl | (simp only [List.length_drop, List.length_take]; rfl)) ?_; (with_reducible refine (rational_Mul.calls k4 x424000_4 x424001_4 x424000_3 x424001_3 t429 t430 t431 _ A64.o).mono ?_); rintro e w109 ⟨rfl, hb⟩; refine ⟨_, rfl, ?_⟩; have n0_ := zaa.mk (zai (g := gb417) (o := .cells #[.int .i64 a0_0, .int .i64 a0_1] 24 (0, 0)) (by (with_reducible repeat (first | refine zad ?_ _ | refine zab ?_ | refine zac ?_ _)); refine zam ?_ NB417_428.o _; (with_reducible repeat (first | refine zad ?_ _ | refine zab ?_ | refine zac ?_ _)); refine zam ?_ NB417_428.o _; (with_reducible repeat (first | refine zad ?_ _ | refine zab ?_ | refine zac ?_ _)); exact BK417.o) hb); have n1_ := zaa.mk (zai (g := gb418) (o := .cells #[.int .i64 x419000_4, .int .i64 x419001_4] 24 (0, 0)) (by (with_reducible repeat (first | refine zad ?_ _ | refine zab ?_ | refine zac ?_ _)); refine zam ?_ NB418_428.o _; (with_reducible repeat (first | refine zad ?_ _ | refine zab ?_ | refine zac ?_ _)); refine zam ?_ NB418_428.o _; (with_reducible repeat (first | refine zad ?_ _ | refine zab ?_ | refine zac ?_ _)); exact BK418.o) hb); have n2_ := zaa.mk (zai (g := gb423) (o := .cells #[.int .i64 x424000_4, .int .i64 x424001_4] 24 (0, 0)) (by (with_reducible repeat (first | refine zad ?_ _ | refine zab ?_ | refine zac ?_ _)); refine zam ?_ NB423_428.o _; (with_reducible repeat (first | refine zad ?_ _ | refine zab ?_ | refine zac ?_ _)); refine zam ?_ NB423_428.o _; (with_reducible repeat (first | refine zad ?_ _ | refine zab ?_ | refine zac ?_ _)); exact BK423.o) hb); have n3_ := zaa.mk (zai (g := gb428) (o := .cells #[.int .i64 x424000_3, .int .i64 x424001_3] 24 (0, 0)) (by (with_reducible repeat (first | refine zad ?_ _ | refine zab ?_ | refine zac ?_ _)); refine zap (cs := #[.int .i64 x424000_3, .int .i64 0]) ?_ 1 _ rfl; (with_reducible repeat (first | refine zad ?_ _ | refine zab ?_ | refine zac ?_ _)); refine zap (cs := #[.int .i64 0, .int .i64 0]) ?_ 0 _ rfl; (with_reducible repeat (first | refine zad ?_ _ | refine zab ?_ | refine zac ?_ _)); exact BK428.o) hb); have n4_ := zaa.mk (zao (by repeat (first | (with_reducible first | exact HB.o | apply zaf | apply zah | apply zag | refine zae ?_ GE417.o | refine zae ?_ GE418.o | refine zae ?_ GE423.o | refine zae ?_ GE428.o) | exact HB.o)) hb); clear BK417; clear BK418; clear BK423; clear BK428; clear HB; have BK417 := n0_; have BK418 := n1_; have BK423 := n2_; have BK428 := n3_; have HB := n4_; clear n0_ n1_ n2_ n3_ n4_; (try clear hb); (try clear hb2); (try clear hk); (try clear hi)) | ((with_reducible refine zaq (N := 11) rfl ?_); refine zar ?hg (N := 11) ?hd (cs := #[.int .i64 0, .int .i64 0]) (t := 24) ?hr ?_; (case hd => rfl); (case hg => rfl); (case hr => first | (go_simp; done) | (go_simp; rfl)); intro gb432 hg w110 hbox hb; have n0_ := zaa.mk (zai (by (with_reducible repeat (first | refine zad ?_ _ | refine zab ?_ | refine zac ?_ _)); exact BK417.o) hb); have n1_ := zaa.mk (zai (by (with_reducible repeat (first | refine zad ?_ _ | refine zab ?_ | refine zac ?_ _)); exact BK418.o) hb); have n2_ := zaa.mk (zai (by (with_reducible repeat (first | refine zad ?_ _ | refine zab ?_ | refine zac ?_ _)); exact BK423.o) hb); have n3_ := zaa.mk (zai (by (with_reducible repeat (first | refine zad ?_ _ | refine zab ?_ | refine zac ?_ _)); exact BK428.o) hb); have n4_ := zaa.mk (zao (by repeat (first | (with_reducible first | exact HB.o | apply zaf | apply zah | apply zag | refine zae ?_ GE417.o | refine zae ?_ GE418.o | refine zae ?_ GE423.o | refine zae ?_ GE428.o) | exact HB.o)) hb); have n5_ := zaa.mk (hbox); have n6_ := zaa.mk ((by rw [hg]; exact (zan (by repeat (first | (with_reducible first | exact HB.o | apply zaf | apply zah | apply zag | refine zae ?_ GE417.o | refine zae ?_ GE418.o | refine zae ?_ GE423.o | refine zae ?_ GE428.o) | exact HB.o))) : w.heap.size ≤ gb432)); have n7_ := zaa.mk ((by rw [hg]; exact (zan (by repeat (first | (with_reducible first | exact HB.o | apply zaf | apply zah | apply zag | refine zae ?_ GE417.o | refine zae ?_ GE418.o | refine zae ?_ GE423.o | refine zae ?_ GE428.o) | exact HB.o))) : w.heap.size ≤ gb432)); have n8_ := zaa.mk ((by rw [hg]; exact Nat.ne_of_lt (zak (g := gb417) (o := .cells #[.int .i64 a0_0, .int .i64 a0_1] 24 (0, 0)) (by (with_reducible repeat (first | refine zad ?_ _ | refine zab ?_ | refine zac ?_ _)); exact BK417.o)) : gb417 ≠ gb432)); have n9_ := zaa.mk ((by rw [hg]; exact Nat.ne_of_gt (zak (g := gb417) (o := .cells #[.int .i64 a0_0, .int .i64 a0_1] 24 (0, 0)) (by (with_reducible repeat (first | refine zad ?_ _ | refine zab ?_ | refine zac ?_ _)); exact BK417.o)) : gb432 ≠ gb417)); have n10_ := zaa.mk ((by rw [hg]; exact Nat.ne_of_lt (zak (g := gb418) (o := .cells #[.int .i64 x419000_4, .int .i64 x419001_4] 24 (0, 0)) (by (with_reducible repeat (first | refine zad ?_ _ | refine zab ?_ | refine zac ?_ _)); exact BK418.o)) : gb418 ≠ gb432)); have n11_ := zaa.mk ((by rw [hg]; exact Nat.ne_of_gt (zak (g := gb418) (o := .cells #[.int .i64 x419000_4, .int .i64 x419001_4] 24 (0, 0)) (by (with_reducible repeat (first | refine zad ?_ _ | refine zab ?_ | refine zac ?_ _)); exact BK418.o)) : gb432 ≠ gb418)); have n12_ := zaa.mk ((by rw [hg]; exact Nat.ne_of_lt (zak (g := gb423) (o := .cells #[.int .i64 x424000_4, .int .i64 x424001_4] 24 (0, 0)) (by (with_reducible repeat (first | refine zad ?_ _ | refine zab ?_ | refine zac ?_ _)); exact BK423.o)) : gb423 ≠ gb432)); have n13_ := zaa.mk ((by rw [hg]; exact Nat.ne_of_gt (zak (g := gb423) (o := .cells #[.int .i64 x424000_4, .int .i64 x424001_4] 24 (0, 0)) (by (with_reducible repeat (first | refine zad ?_ _ | refine zab ?_ | refine zac ?_ _)); exact BK423.o)) : gb432 ≠ gb423)); have n14_ := zaa.mk ((by rw [hg]; exact Nat.ne_of_lt (zak (g := gb428) (o := .cells #[.int .i64 x424000_3, .int .i64 x424001_3] 24 (0, 0)) (by (with_reducible repeat (first | refine zad ?_ _ | refine zab ?_ | refine zac ?_ _)); exact BK428.o)) : gb428 ≠ gb432)); have n15_ := zaa.mk ((by rw [hg]; exact Nat.ne_of_gt (zak (g := gb428) (o := .cells #[.int .i64 x424000_3, .int .i64 x424001_3] 24 (0, 0)) (by (with_reducible repeat (first | refine zad ?_ _ | refine zab ?_ | refine zac ?_ _)); exact BK428.o)) : gb432 ≠ gb428)); clear BK417; clear BK418; clear BK423; clear BK428; clear HB; have BK417 := n0_; have BK418 := n1_; have BK423 := n2_; have BK428 := n3_; have HB := n4_; have BK432 := n5_; have GW432 := n6_; have GE432 := n7_; have NB417_432 := n8_; have NB432_417 := n9_; have NB418_432 := n10_; have NB432_418 := n11_; have NB423_432 := n12_; have NB432_423 := n13_; have NB428_432 := n14_; have NB432_428 := n15_; clear n0_ n1_ n2_ n3_ n4_ n5_ n6_ n7_ n8_ n9_ n10_ n11_ n12_ n13_ n14_ n15_; clear hb hbox hg; have hnb111 := NB432_417.o; have hnc111 := NB417_432.o; have hnb112 := NB432_418.o; have hnc112 := NB418_432.o; have hnb113 := NB432_423.o; have hnc113 := NB423_432.o; have hnb114 := NB432_428.o; have hnc114 := NB428_432.o; obtain ⟨hcz115_0, hcz115_1⟩ := cz2 BK432.o; obtain ⟨hfz115_0, hfz115_1⟩ := fz2 BK432.o; have hnb116 := NB418_417.o; have hnc116 := NB417_418.o; obtain ⟨hcz117_0, hcz117_1⟩ := cz2 BK418.o; obtain ⟨hfz117_0, hfz117_1⟩ := fz2 BK418.o))
                   refine bodyPost_ret (zaw rfl _ _ gb418 24 #[.int .i64 0, .int .i64 0] (0, 0) _ rfl (by (with_reducible repeat (first | refine zad ?_ _ | refine zab ?_ | refine zac ?_ _)); refine zap (cs := #[.int .i64 0, .int .i64 x419001_4]) ?_ 1 _ rfl; (with_reducible repeat (first | refine zad ?_ _ | refine zab ?_ | refine zac ?_ _)); refine zap (cs := #[.int .i64 x419000_4, .int .i64 x419001_4]) ?_ 0 _ rfl; (with_reducible repeat (first | refine zad ?_ _ | refine zab ?_ | refine zac ?_ _)); refine zam ?_ NB418_432.o _; (with_reducible repeat (first | refine zad ?_ _ | refine zab ?_ | refine zac ?_ _)); refine zam ?_ NB418_432.o _; (with_reducible repeat (first | refine zad ?_ _ | refine zab ?_ | refine zac ?_ _)); exact BK418.o) Tryd.underlying24 rfl (by kernel_rfl)) rfl ?_
                   exact ⟨by first | rfl | (simp [errW_none, errW_some] <;> rfl) | (simp [*, errW_none, errW_some] <;> rfl), by repeat (first | (with_reducible first | exact HB.o | apply zaf | apply zah | apply zag | refine zae ?_ GE417.o | refine zae ?_ GE418.o | refine zae ?_ GE423.o | refine zae ?_ GE428.o | refine zae ?_ GE432.o) | exact HB.o)⟩
                 ·rw [if_neg c63] at H
                  have c63b0 : (x71_4 == 0) = false := beq_eq_false_iff_ne.mpr c63
                  have c63b1 : (x71_4 != 0) = true := bne_iff_ne.mpr c63
                  by_cases c118 : x71_4 = 1
                  ·subst c118
                   have H1 : ((rational_Mul.f k4 x424000_4 x424001_4 a0_0 a0_1).bind fun bt434 => (if bt434.2.2 = 0 then (if 0 ≤ x8_3 then (if (Go.bits .and .i64 (shr .i64 (wrap64 (t422)) x8_3) 1) = 0 then (rational_Pow.l0 k4 a1 (wrap64 (t422)) (wrap64 (x8_3 - 1)) a0_0 a0_1 bt434.1 bt434.2.1) else (rational_Pow.l1 k4 a1 (wrap64 (t422)) x8_3 (1 + 1) x424000_3 x424001_3 a0_0 a0_1 a0_0 a0_1 bt434.1 bt434.2.1)) else (none)) else (some (0, 0, bt434.2.2)))) = some (r1, r2, r3) := by rw [if_pos rfl] at H; exact H
                   clear H
                   have H := H1
                   clear H1
                   replace H := Option.bind_eq_some_iff.mp H
                   obtain ⟨⟨t434, t435, t436⟩, A1190, H⟩ := H
                   replace H : (if t436 = 0 then (if 0 ≤ x8_3 then (if (Go.bits .and .i64 (shr .i64 (wrap64 (t422)) x8_3) 1) = 0 then (rational_Pow.l0 k4 a1 (wrap64 (t422)) (wrap64 (x8_3 - 1)) a0_0 a0_1 t434 t435) else (rational_Pow.l1 k4 a1 (wrap64 (t422)) x8_3 (1 + 1) x424000_3 x424001_3 a0_0 a0_1 a0_0 a0_1 t434 t435)) else (none)) else (some (0, 0, t436))) = some (r1, r2, r3) := H
                   have A119 := zaa.mk A1190
                   clear A1190
                   by_cases c120 : t436 = 0
                   ·rw [if_pos c120] at H
                    have c120b0 : (t436 == 0) = true := beq_iff_eq.mpr c120
                    have c120b1 : (t436 != 0) = false := bne_eq_false_iff_eq.mpr c120
                    clear c120
                    by_cases c121 : 0 ≤ x8_3
                    ·rw [if_pos c121] at H
                     have c121b0 := eq_true c121
                     have c121b1 : decide (0 ≤ x8_3) = true := decide_eq_true c121
                     clear c121
                     obtain ⟨ji122, hji122⟩ : ∃ j_ : Int, (shr .i64 (wrap64 (t422)) x8_3) = j_ := ⟨_, rfl⟩
                     replace H : (if (Go.bits .and .i64 (ji122) 1) = 0 then (rational_Pow.l0 k4 a1 (wrap64 (t422)) (wrap64 (x8_3 - 1)) a0_0 a0_1 t434 t435) else (rational_Pow.l1 k4 a1 (wrap64 (t422)) x8_3 (1 + 1) x424000_3 x424001_3 a0_0 a0_1 a0_0 a0_1 t434 t435)) = some (r1, r2, r3) := by first | (rw [hji122] at H; exact H) | (simp only [hji122] at H ⊢; exact H)
                     (try rw [hji122] at A119)
                     have hji122_ : ((wrap64 (t422)) / 2 ^ min x8_3.toNat 64) = ji122 := hji122
                     have hji122z : x8_3 ≤ 64 → ((wrap64 (t422)) / 2 ^ x8_3.toNat) = ji122 := shr_small hji122
                     by_cases c123 : (Go.bits .and .i64 (ji122) 1) = 0
                     ·rw [if_pos c123] at H
                      have c123b0 : ((Go.bits .and .i64 (ji122) 1) == 0) = true := beq_iff_eq.mpr c123
                      have c123b1 : ((Go.bits .and .i64 (ji122) 1) != 0) = false := bne_eq_false_iff_eq.mpr c123
                      clear c123
                      have H' := zaa.mk H
                      clear H
                      go_wp2_with (first | ((with_reducible refine zaq (N := 10) rfl ?_); refine zar ?hg (N := 10) ?hd (cs := #[.int .i64 0, .int .i64 0]) (t := 24) ?hr ?_; (case hd => rfl); (case hg => rfl); (case hr => first | (go_simp; done) | (go_simp; rfl)); intro gb433 hg w124 hbox hb; have n0_ := zaa.mk (zai (by (with_reducible repeat (first | refine zad ?_ _ | refine zab ?_ | refine zac ?_ _)); exact BK417.o) hb); have n1_ := zaa.mk (zai (by (with_reducible repeat (first | refine zad ?_ _ | refine zab ?_ | refine zac ?_ _)); exact BK418.o) hb); have n2_ := zaa.mk (zai (by (with_reducible repeat (first | refine zad ?_ _ | refine zab ?_ | refine zac ?_ _)); exact BK423.o) hb); have n3_ := zaa.mk (zao (by repeat (first | (with_reducible first | exact HB.o | apply zaf | apply zah | apply zag | refine zae ?_ GE417.o | refine zae ?_ GE418.o | refine zae ?_ GE423.o) | exact HB.o)) hb); have n4_ := zaa.mk (hbox); have n5_ := zaa.mk ((by rw [hg]; exact (zan (by repeat (first | (with_reducible first | exact HB.o | apply zaf | apply zah | apply zag | refine zae ?_ GE417.o | refine zae ?_ GE418.o | refine zae ?_ GE423.o) | exact HB.o))) : w.heap.size ≤ gb433)); have n6_ := zaa.mk ((by rw [hg]; exact (zan (by repeat (first | (with_reducible first | exact HB.o | apply zaf | apply zah | apply zag | refine zae ?_ GE417.o | refine zae ?_ GE418.o | refine zae ?_ GE423.o) | exact HB.o))) : w.heap.size ≤ gb433)); have n7_ := zaa.mk ((by rw [hg]; exact Nat.ne_of_lt (zak (g := gb417) (o := .cells #[.int .i64 a0_0, .int .i64 a0_1] 24 (0, 0)) (by (with_reducible repeat (first | refine zad ?_ _ | refine zab ?_ | refine zac ?_ _)); exact BK417.o)) : gb417 ≠ gb433)); have n8_ := zaa.mk ((by rw [hg]; exact Nat.ne_of_gt (zak (g := gb417) (o := .cells #[.int .i64 a0_0, .int .i64 a0_1] 24 (0, 0)) (by (with_reducible repeat (first | refine zad ?_ _ | refine zab ?_ | refine zac ?_ _)); exact BK417.o)) : gb433 ≠ gb417)); have n9_ := zaa.mk ((by rw [hg]; exact Nat.ne_of_lt (zak (g := gb418) (o := .cells #[.int .i64 x419000_4, .int .i64 x419001_4] 24 (0, 0)) (by (with_reducible repeat (first | refine zad ?_ _ | refine zab ?_ | refine zac ?_ _)); exact BK418.o)) : gb418 ≠ gb433)); have n10_ := zaa.mk ((by rw [hg]; exact Nat.ne_of_gt (zak (g := gb418) (o := .cells #[.int .i64 x419000_4, .int .i64 x419001_4] 24 (0, 0)) (by (with_reducible repeat (first | refine zad ?_ _ | refine zab ?_ | refine zac ?_ _)); exact BK418.o)) : gb433 ≠ gb418)); have n11_ := zaa.mk ((by rw [hg]; exact Nat.ne_of_lt (zak (g := gb423) (o := .cells #[.int .i64 x424000_4, .int .i64 x424001_4] 24 (0, 0)) (by (with_reducible repeat (first | refine zad ?_ _ | refine zab ?_ | refine zac ?_ _)); exact BK423.o)) : gb423 ≠ gb433)); have n12_ := zaa.mk ((by rw [hg]; exact Nat.ne_of_gt (zak (g := gb423) (o := .cells #[.int .i64 x424000_4, .int .i64 x424001_4] 24 (0, 0)) (by (with_reducible repeat (first | refine zad ?_ _ | refine zab ?_ | refine zac ?_ _)); exact BK423.o)) : gb433 ≠ gb423)); clear BK417; clear BK418; clear BK423; clear HB; have BK417 := n0_; have BK418 := n1_; have BK423 := n2_; have HB := n3_; have BK433 := n4_; have GW433 := n5_; have GE433 := n6_; have NB417_433 := n7_; have NB433_417 := n8_; have NB418_433 := n9_; have NB433_418 := n10_; have NB423_433 := n11_; have NB433_423 := n12_; clear n0_ n1_ n2_ n3_ n4_ n5_ n6_ n7_ n8_ n9_ n10_ n11_ n12_; clear hb hbox hg; have hnb125 := NB433_417.o; have hnc125 := NB417_433.o; have hnb126 := NB433_418.o; have hnc126 := NB418_433.o; have hnb127 := NB433_423.o; have hnc127 := NB423_433.o; obtain ⟨hcz128_0, hcz128_1⟩ := cz2 BK433.o; obtain ⟨hfz128_0, hfz128_1⟩ := fz2 BK433.o; have hnb129 := NB423_417.o; have hnc129 := NB417_423.o; have hnb130 := NB423_418.o; have hnc130 := NB418_423.o; obtain ⟨hcz131_0, hcz131_1⟩ := cz2 BK423.o; obtain ⟨hfz131_0, hfz131_1⟩ := fz2 BK423.o) | ((with_reducible refine zas (f := 24) rfl ?_); refine zat (some 77) rfl rfl Tryd.func24 (by kernel_rfl) rfl #[.agg #[.int .i64 x424000_4, .int .i64 x424001_4], .agg #[.int .i64 a0_0, .int .i64 a0_1]] rfl (by (try simp only [List.map_toArray, List.map_cons, List.map_nil]); first | done | rfl | (simp only [List.length_drop, List.length_take]; rfl)) ?_; (with_reducible refine (rational_Mul.calls k4 x424000_4 x424001_4 a0_0 a0_1 t434 t435 t436 _ A119.o).mono ?_); rintro e w132 ⟨rfl, hb⟩; refine ⟨_, rfl, ?_⟩; have n0_ := zaa.mk (zai (g := gb417) (o := .cells #[.int .i64 a0_0, .int .i64 a0_1] 24 (0, 0)) (by (with_reducible repeat (first | refine zad ?_ _ | refine zab ?_ | refine zac ?_ _)); refine zam ?_ NB417_433.o _; (with_reducible repeat (first | refine zad ?_ _ | refine zab ?_ | refine zac ?_ _)); refine zam ?_ NB417_433.o _; (with_reducible repeat (first | refine zad ?_ _ | refine zab ?_ | refine zac ?_ _)); exact BK417.o) hb); have n1_ := zaa.mk (zai (g := gb418) (o := .cells #[.int .i64 x419000_4, .int .i64 x419001_4] 24 (0, 0)) (by (with_reducible repeat (first | refine zad ?_ _ | refine zab ?_ | refine zac ?_ _)); refine zam ?_ NB418_433.o _; (with_reducible repeat (first | refine zad ?_ _ | refine zab ?_ | refine zac ?_ _)); refine zam ?_ NB418_433.o _; (with_reducible repeat (first | refine zad ?_ _ | refine zab ?_ | refine zac ?_ _)); exact BK418.o) hb); have n2_ := zaa.mk (zai (g := gb423) (o := .cells #[.int .i64 x424000_4, .int .i64 x424001_4] 24 (0, 0)) (by (with_reducible repeat (first | refine zad ?_ _ | refine zab ?_ | refine zac ?_ _)); refine zam ?_ NB423_433.o _; (with_reducible repeat (first | refine zad ?_ _ | refine zab ?_ | refine zac ?_ _)); refine zam ?_ NB423_433.o _; (with_reducible repeat (first | refine zad ?_ _ | refine zab ?_ | refine zac ?_ _)); exact BK423.o) hb); have n3_ := zaa.mk (zai (g := gb433) (o := .cells #[.int .i64 a0_0, .int .i64 a0_1] 24 (0, 0)) (by (with_reducible repeat (first | refine zad ?_ _ | refine zab ?_ | refine zac ?_ _)); refine zap (cs := #[.int .i64 a0_0, .int .i64 0]) ?_ 1 _ rfl; (with_reducible repeat (first | refine zad ?_ _ | refine zab ?_ | refine zac ?_ _)); refine zap (cs := #[.int .i64 0, .int .i64 0]) ?_ 0 _ rfl; (with_reducible repeat (first | refine zad ?_ _ | refine zab ?_ | refine zac ?_ _)); exact BK433.o) hb); have n4_ := zaa.mk (zao (by repeat (first | (with_reducible first | exact HB.o | apply zaf | apply zah | apply zag | refine zae ?_ GE417.o | refine zae ?_ GE418.o | refine zae ?_ GE423.o | refine zae ?_ GE433.o) | exact HB.o)) hb); clear BK417; clear BK418; clear BK423; clear BK433; clear HB; have BK417 := n0_; have BK418 := n1_; have BK423 := n2_; have BK433 := n3_; have HB := n4_; clear n0_ n1_ n2_ n3_ n4_; (try clear hb); (try clear hb2); (try clear hk); (try clear hi)) | ((with_reducible refine zaq (N := 11) rfl ?_); refine zar ?hg (N := 11) ?hd (cs := #[.int .i64 0, .int .i64 0]) (t := 24) ?hr ?_; (case hd => rfl); (case hg => rfl); (case hr => first | (go_simp; done) | (go_simp; rfl)); intro gb437 hg w133 hbox hb; have n0_ := zaa.mk (zai (by (with_reducible repeat (first | refine zad ?_ _ | refine zab ?_ | refine zac ?_ _)); exact BK417.o) hb); have n1_ := zaa.mk (zai (by (with_reducible repeat (first | refine zad ?_ _ | refine zab ?_ | refine zac ?_ _)); exact BK418.o) hb); have n2_ := zaa.mk (zai (by (with_reducible repeat (first | refine zad ?_ _ | refine zab ?_ | refine zac ?_ _)); exact BK423.o) hb); have n3_ := zaa.mk (zai (by (with_reducible repeat (first | refine zad ?_ _ | refine zab ?_ | refine zac ?_ _)); exact BK433.o) hb); have n4_ := zaa.mk (zao (by repeat (first | (with_reducible first | exact HB.o | apply zaf | apply zah | apply zag | refine zae ?_ GE417.o | refine zae ?_ GE418.o | refine zae ?_ GE423.o | refine zae ?_ GE433.o) | exact HB.o)) hb); have n5_ := zaa.mk (hbox); have n6_ := zaa.mk ((by rw [hg]; exact (zan (by repeat (first | (with_reducible first | exact HB.o | apply zaf | apply zah | apply zag | refine zae ?_ GE417.o | refine zae ?_ GE418.o | refine zae ?_ GE423.o | refine zae ?_ GE433.o) | exact HB.o))) : w.heap.size ≤ gb437)); have n7_ := zaa.mk ((by rw [hg]; exact (zan (by repeat (first | (with_reducible first | exact HB.o | apply zaf | apply zah | apply zag | refine zae ?_ GE417.o | refine zae ?_ GE418.o | refine zae ?_ GE423.o | refine zae ?_ GE433.o) | exact HB.o))) : w.heap.size ≤ gb437)); have n8_ := zaa.mk ((by rw [hg]; exact Nat.ne_of_lt (zak (g := gb417) (o := .cells #[.int .i64 a0_0, .int .i64 a0_1] 24 (0, 0)) (by (with_reducible repeat (first | refine zad ?_ _ | refine zab ?_ | refine zac ?_ _)); exact BK417.o)) : gb417 ≠ gb437)); have n9_ := zaa.mk ((by rw [hg]; exact Nat.ne_of_gt (zak (g := gb417) (o := .cells #[.int .i64 a0_0, .int .i64 a0_1] 24 (0, 0)) (by (with_reducible repeat (first | refine zad ?_ _ | refine zab ?_ | refine zac ?_ _)); exact BK417.o)) : gb437 ≠ gb417)); have n10_ := zaa.mk ((by rw [hg]; exact Nat.ne_of_lt (zak (g := gb418) (o := .cells #[.int .i64 x419000_4, .int .i64 x419001_4] 24 (0, 0)) (by (with_reducible repeat (first | refine zad ?_ _ | refine zab ?_ | refine zac ?_ _)); exact BK418.o)) : gb418 ≠ gb437)); have n11_ := zaa.mk ((by rw [hg]; exact Nat.ne_of_gt (zak (g := gb418) (o := .cells #[.int .i64 x419000_4, .int .i64 x419001_4] 24 (0, 0)) (by (with_reducible repeat (first | refine zad ?_ _ | refine zab ?_ | refine zac ?_ _)); exact BK418.o)) : gb437 ≠ gb418)); have n12_ := zaa.mk ((by rw [hg]; exact Nat.ne_of_lt (zak (g := gb423) (o := .cells #[.int .i64 x424000_4, .int .i64 x424001_4] 24 (0, 0)) (by (with_reducible repeat (first | refine zad ?_ _ | refine zab ?_ | refine zac ?_ _)); exact BK423.o)) : gb423 ≠ gb437)); have n13_ := zaa.mk ((by rw [hg]; exact Nat.ne_of_gt (zak (g := gb423) (o := .cells #[.int .i64 x424000_4, .int .i64 x424001_4] 24 (0, 0)) (by (with_reducible repeat (first | refine zad ?_ _ | refine zab ?_ | refine zac ?_ _)); exact BK423.o)) : gb437 ≠ gb423)); have n14_ := zaa.mk ((by rw [hg]; exact Nat.ne_of_lt (zak (g := gb433) (o := .cells #[.int .i64 a0_0, .int .i64 a0_1] 24 (0, 0)) (by (with_reducible repeat (first | refine zad ?_ _ | refine zab ?_ | refine zac ?_ _)); exact BK433.o)) : gb433 ≠ gb437)); have n15_ := zaa.mk ((by rw [hg]; exact Nat.ne_of_gt (zak (g := gb433) (o := .cells #[.int .i64 a0_0, .int .i64 a0_1] 24 (0, 0)) (by (with_reducible repeat (first | refine zad ?_ _ | refine zab ?_ | refine zac ?_ _)); exact BK433.o)) : gb437 ≠ gb433)); clear BK417; clear BK418; clear BK423; clear BK433; clear HB; have BK417 := n0_; have BK418 := n1_; have BK423 := n2_; have BK433 := n3_; have HB := n4_; have BK437 := n5_; have GW437 := n6_; have GE437 := n7_; have NB417_437 := n8_; have NB437_417 := n9_; have NB418_437 := n10_; have NB437_418 := n11_; have NB423_437 := n12_; have NB437_423 := n13_; have NB433_437 := n14_; have NB437_433 := n15_; clear n0_ n1_ n2_ n3_ n4_ n5_ n6_ n7_ n8_ n9_ n10_ n11_ n12_ n13_ n14_ n15_; clear hb hbox hg; have hnb134 := NB437_417.o; have hnc134 := NB417_437.o; have hnb135 := NB437_418.o; have hnc135 := NB418_437.o; have hnb136 := NB437_423.o; have hnc136 := NB423_437.o; have hnb137 := NB437_433.o; have hnc137 := NB433_437.o; obtain ⟨hcz138_0, hcz138_1⟩ := cz2 BK437.o; obtain ⟨hfz138_0, hfz138_1⟩ := fz2 BK437.o; obtain ⟨hcz139_0, hcz139_1⟩ := cz2 BK423.o; obtain ⟨hfz139_0, hfz139_1⟩ := fz2 BK423.o))
                      go_roundg k4
                      case measure => have := HJ11.out; have := HJ25.out; have := HK3.o; have := HK4.o; omega
                      case rel => exact ⟨(wrap64 (x8_3 - 1)), (x419000_4), (x419001_4), (t434), (t435), (by first | rfl | (simp; done) | (simp [*]; done)), H', ⟨by have := HJ11.out; have := HJ25.out; have := HK3.o; have := HK4.o; omega⟩, ⟨by (with_reducible repeat (first | refine zad ?_ _ | refine zab ?_ | refine zac ?_ _)); refine zam ?_ NB417_423.o _; (with_reducible repeat (first | refine zad ?_ _ | refine zab ?_ | refine zac ?_ _)); refine zam ?_ NB417_423.o _; (with_reducible repeat (first | refine zad ?_ _ | refine zab ?_ | refine zac ?_ _)); refine zam ?_ NB417_437.o _; (with_reducible repeat (first | refine zad ?_ _ | refine zab ?_ | refine zac ?_ _)); refine zam ?_ NB417_437.o _; (with_reducible repeat (first | refine zad ?_ _ | refine zab ?_ | refine zac ?_ _)); exact BK417.o⟩, ⟨by (with_reducible repeat (first | refine zad ?_ _ | refine zab ?_ | refine zac ?_ _)); refine zam ?_ NB418_423.o _; (with_reducible repeat (first | refine zad ?_ _ | refine zab ?_ | refine zac ?_ _)); refine zam ?_ NB418_423.o _; (with_reducible repeat (first | refine zad ?_ _ | refine zab ?_ | refine zac ?_ _)); refine zam ?_ NB418_437.o _; (with_reducible repeat (first | refine zad ?_ _ | refine zab ?_ | refine zac ?_ _)); refine zam ?_ NB418_437.o _; (with_reducible repeat (first | refine zad ?_ _ | refine zab ?_ | refine zac ?_ _)); exact BK418.o⟩, ⟨by (with_reducible repeat (first | refine zad ?_ _ | refine zab ?_ | refine zac ?_ _)); refine zap (cs := #[.int .i64 t434, .int .i64 x424001_4]) ?_ 1 _ rfl; (with_reducible repeat (first | refine zad ?_ _ | refine zab ?_ | refine zac ?_ _)); refine zap (cs := #[.int .i64 x424000_4, .int .i64 x424001_4]) ?_ 0 _ rfl; (with_reducible repeat (first | refine zad ?_ _ | refine zab ?_ | refine zac ?_ _)); refine zam ?_ NB423_437.o _; (with_reducible repeat (first | refine zad ?_ _ | refine zab ?_ | refine zac ?_ _)); refine zam ?_ NB423_437.o _; (with_reducible repeat (first | refine zad ?_ _ | refine zab ?_ | refine zac ?_ _)); exact BK423.o⟩, ⟨by repeat (first | (with_reducible first | exact HB.o | apply zaf | apply zah | apply zag | refine zae ?_ GE417.o | refine zae ?_ GE418.o | refine zae ?_ GE423.o | refine zae ?_ GE433.o | refine zae ?_ GE437.o) | exact HB.o)⟩⟩
                     ·rw [if_neg c123] at H
                      have c123b0 : ((Go.bits .and .i64 (ji122) 1) == 0) = false := beq_eq_false_iff_ne.mpr c123
                      have c123b1 : ((Go.bits .and .i64 (ji122) 1) != 0) = true := bne_iff_ne.mpr c123
                      have H' := zaa.mk H
                      clear H
                      go_wp2_with (first | ((with_reducible refine zaq (N := 10) rfl ?_); refine zar ?hg (N := 10) ?hd (cs := #[.int .i64 0, .int .i64 0]) (t := 24) ?hr ?_; (case hd => rfl); (case hg => rfl); (case hr => first | (go_simp; done) | (go_simp; rfl)); intro gb433 hg w140 hbox hb; have n0_ := zaa.mk (zai (by (with_reducible repeat (first | refine zad ?_ _ | refine zab ?_ | refine zac ?_ _)); exact BK417.o) hb); have n1_ := zaa.mk (zai (by (with_reducible repeat (first | refine zad ?_ _ | refine zab ?_ | refine zac ?_ _)); exact BK418.o) hb); have n2_ := zaa.mk (zai (by (with_reducible repeat (first | refine zad ?_ _ | refine zab ?_ | refine zac ?_ _)); exact BK423.o) hb); have n3_ := zaa.mk (zao (by repeat (first | (with_reducible first | exact HB.o | apply zaf | apply zah | apply zag | refine zae ?_ GE417.o | refine zae ?_ GE418.o | refine zae ?_ GE423.o) | exact HB.o)) hb); have n4_ := zaa.mk (hbox); have n5_ := zaa.mk ((by rw [hg]; exact (zan (by repeat (first | (with_reducible first | exact HB.o | apply zaf | apply zah | apply zag | refine zae ?_ GE417.o | refine zae ?_ GE418.o | refine zae ?_ GE423.o) | exact HB.o))) : w.heap.size ≤ gb433)); have n6_ := zaa.mk ((by rw [hg]; exact (zan (by repeat (first | (with_reducible first | exact HB.o | apply zaf | apply zah | apply zag | refine zae ?_ GE417.o | refine zae ?_ GE418.o | refine zae ?_ GE423.o) | exact HB.o))) : w.heap.size ≤ gb433)); have n7_ := zaa.mk ((by rw [hg]; exact Nat.ne_of_lt (zak (g := gb417) (o := .cells #[.int .i64 a0_0, .int .i64 a0_1] 24 (0, 0)) (by (with_reducible repeat (first | refine zad ?_ _ | refine zab ?_ | refine zac ?_ _)); exact BK417.o)) : gb417 ≠ gb433)); have n8_ := zaa.mk ((by rw [hg]; exact Nat.ne_of_gt (zak (g := gb417) (o := .cells #[.int .i64 a0_0, .int .i64 a0_1] 24 (0, 0)) (by (with_reducible repeat (first | refine zad ?_ _ | refine zab ?_ | refine zac ?_ _)); exact BK417.o)) : gb433 ≠ gb417)); have n9_ := zaa.mk ((by rw [hg]; exact Nat.ne_of_lt (zak (g := gb418) (o := .cells #[.int .i64 x419000_4, .int .i64 x419001_4] 24 (0, 0)) (by (with_reducible repeat (first | refine zad ?_ _ | refine zab ?_ | refine zac ?_ _)); exact BK418.o)) : gb418 ≠ gb433)); have n10_ := zaa.mk ((by rw [hg]; exact Nat.ne_of_gt (zak (g := gb418) (o := .cells #[.int .i64 x419000_4, .int .i64 x419001_4] 24 (0, 0)) (by (with_reducible repeat (first | refine zad ?_ _ | refine zab ?_ | refine zac ?_ _)); exact BK418.o)) : gb433 ≠ gb418)); have n11_ := zaa.mk ((by rw [hg]; exact Nat.ne_of_lt (zak (g := gb423) (o := .cells #[.int .i64 x424000_4, .int .i64 x424001_4] 24 (0, 0)) (by (with_reducible repeat (first | refine zad ?_ _ | refine zab ?_ | refine zac ?_ _)); exact BK423.o)) : gb423 ≠ gb433)); have n12_ := zaa.mk ((by rw [hg]; exact Nat.ne_of_gt (zak (g := gb423) (o := .cells #[.int .i64 x424000_4, .int .i64 x424001_4] 24 (0, 0)) (by (with_reducible repeat (first | refine zad ?_ _ | refine zab ?_ | refine zac ?_ _)); exact BK423.o)) : gb433 ≠ gb423)); clear BK417; clear BK418; clear BK423; clear HB; have BK417 := n0_; have BK418 := n1_; have BK423 := n2_; have HB := n3_; have BK433 := n4_; have GW433 := n5_; have GE433 := n6_; have NB417_433 := n7_; have NB433_417 := n8_; have NB418_433 := n9_; have NB433_418 := n10_; have NB423_433 := n11_; have NB433_423 := n12_; clear n0_ n1_ n2_ n3_ n4_ n5_ n6_ n7_ n8_ n9_ n10_ n11_ n12_; clear hb hbox hg; have hnb141 := NB433_417.o; have hnc141 := NB417_433.o; have hnb142 := NB433_418.o; have hnc142 := NB418_433.o; have hnb143 := NB433_423.o; have hnc143 := NB423_433.o; obtain ⟨hcz144_0, hcz144_1⟩ := cz2 BK433.o; obtain ⟨hfz144_0, hfz144_1⟩ := fz2 BK433.o; have hnb145 := NB423_417.o; have hnc145 := NB417_423.o; have hnb146 := NB423_418.o; have hnc146 := NB418_423.o; obtain ⟨hcz147_0, hcz147_1⟩ := cz2 BK423.o; obtain ⟨hfz147_0, hfz147_1⟩ := fz2 BK423.o) | ((with_reducible refine zas (f := 24) rfl ?_); refine zat (some 77) rfl rfl Tryd.func24 (by kernel_rfl) rfl #[.agg #[.int .i64 x424000_4, .int .i64 x424001_4], .agg #[.int .i64 a0_0, .int .i64 a0_1]] rfl (by (try simp only [List.map_toArray, List.map_cons, List.map_nil]); first | done | rfl | (simp only [List.length_drop, List.length_take]; rfl)) ?_; (with_reducible refine (rational_Mul.calls k4 x424000_4 x424001_4 a0_0 a0_1 t434 t435 t436 _ A119.o).mono ?_); rintro e w148 ⟨rfl, hb⟩; refine ⟨_, rfl, ?_⟩; have n0_ := zaa.mk (zai (g := gb417) (o := .cells #[.int .i64 a0_0, .int .i64 a0_1] 24 (0, 0)) (by (with_reducible repeat (first | refine zad ?_ _ | refine zab ?_ | refine zac ?_ _)); refine zam ?_ NB417_433.o _; (with_reducible repeat (first | refine zad ?_ _ | refine zab ?_ | refine zac ?_ _)); refine zam ?_ NB417_433.o _; (with_reducible repeat (first | refine zad ?_ _ | refine zab ?_ | refine zac ?_ _)); exact BK417.o) hb); have n1_ := zaa.mk (zai (g := gb418) (o := .cells #[.int .i64 x419000_4, .int .i64 x419001_4] 24 (0, 0)) (by (with_reducible repeat (first | refine zad ?_ _ | refine zab ?_ | refine zac ?_ _)); refine zam ?_ NB418_433.o _; (with_reducible repeat (first | refine zad ?_ _ | refine zab ?_ | refine zac ?_ _)); refine zam ?_ NB418_433.o _; (with_reducible repeat (first | refine zad ?_ _ | refine zab ?_ | refine zac ?_ _)); exact BK418.o) hb); have n2_ := zaa.mk (zai (g := gb423) (o := .cells #[.int .i64 x424000_4, .int .i64 x424001_4] 24 (0, 0)) (by (with_reducible repeat (first | refine zad ?_ _ | refine zab ?_ | refine zac ?_ _)); refine zam ?_ NB423_433.o _; (with_reducible repeat (first | refine zad ?_ _ | refine zab ?_ | refine zac ?_ _)); refine zam ?_ NB423_433.o _; (with_reducible repeat (first | refine zad ?_ _ | refine zab ?_ | refine zac ?_ _)); exact BK423.o) hb); have n3_ := zaa.mk (zai (g := gb433) (o := .cells #[.int .i64 a0_0, .int .i64 a0_1] 24 (0, 0)) (by (with_reducible repeat (first | refine zad ?_ _ | refine zab ?_ | refine zac ?_ _)); refine zap (cs := #[.int .i64 a0_0, .int .i64 0]) ?_ 1 _ rfl; (with_reducible repeat (first | refine zad ?_ _ | refine zab ?_ | refine zac ?_ _)); refine zap (cs := #[.int .i64 0, .int .i64 0]) ?_ 0 _ rfl; (with_reducible repeat (first | refine zad ?_ _ | refine zab ?_ | refine zac ?_ _)); exact BK433.o) hb); have n4_ := zaa.mk (zao (by repeat (first | (with_reducible first | exact HB.o | apply zaf | apply zah | apply zag | refine zae ?_ GE417.o | refine zae ?_ GE418.o | refine zae ?_ GE423.o | refine zae ?_ GE433.o) | exact HB.o)) hb); clear BK417; clear BK418; clear BK423; clear BK433; clear HB; have BK417 := n0_; have BK418 := n1_; have BK423 := n2_; have BK433 := n3_; have HB := n4_; clear n0_ n1_ n2_ n3_ n4_; (try clear hb); (try clear hb2); (try clear hk); (try clear hi)) | ((with_reducible refine zaq (N := 11) rfl ?_); refine zar ?hg (N := 11) ?hd (cs := #[.int .i64 0, .int .i64 0]) (t := 24) ?hr ?_; (case hd => rfl); (case hg => rfl); (case hr => first | (go_simp; done) | (go_simp; rfl)); intro gb437 hg w149 hbox hb; have n0_ := zaa.mk (zai (by (with_reducible repeat (first | refine zad ?_ _ | refine zab ?_ | refine zac ?_ _)); exact BK417.o) hb); have n1_ := zaa.mk (zai (by (with_reducible repeat (first | refine zad ?_ _ | refine zab ?_ | refine zac ?_ _)); exact BK418.o) hb); have n2_ := zaa.mk (zai (by (with_reducible repeat (first | refine zad ?_ _ | refine zab ?_ | refine zac ?_ _)); exact BK423.o) hb); have n3_ := zaa.mk (zai (by (with_reducible repeat (first | refine zad ?_ _ | refine zab ?_ | refine zac ?_ _)); exact BK433.o) hb); have n4_ := zaa.mk (zao (by repeat (first | (with_reducible first | exact HB.o | apply zaf | apply zah | apply zag | refine zae ?_ GE417.o | refine zae ?_ GE418.o | refine zae ?_ GE423.o | refine zae ?_ GE433.o) | exact HB.o)) hb); have n5_ := zaa.mk (hbox); have n6_ := zaa.mk ((by rw [hg]; exact (zan (by repeat (first | (with_reducible first | exact HB.o | apply zaf | apply zah | apply zag | refine zae ?_ GE417.o | refine zae ?_ GE418.o | refine zae ?_ GE423.o | refine zae ?_ GE433.o) | exact HB.o))) : w.heap.size ≤ gb437)); have n7_ := zaa.mk ((by rw [hg]; exact (zan (by repeat (first | (with_reducible first | exact HB.o | apply zaf | apply zah | apply zag | refine zae ?_ GE417.o | refine zae ?_ GE418.o | refine zae ?_ GE423.o | refine zae ?_ GE433.o) | exact HB.o))) : w.heap.size ≤ gb437)); have n8_ := zaa.mk ((by rw [hg]; exact Nat.ne_of_lt (zak (g := gb417) (o := .cells #[.int .i64 a0_0, .int .i64 a0_1] 24 (0, 0)) (by (with_reducible repeat (first | refine zad ?_ _ | refine zab ?_ | refine zac ?_ _)); exact BK417.o)) : gb417 ≠ gb437)); have n9_ := zaa.mk ((by rw [hg]; exact Nat.ne_of_gt (zak (g := gb417) (o := .cells #[.int .i64 a0_0, .int .i64 a0_1] 24 (0, 0)) (by (with_reducible repeat (first | refine zad ?_ _ | refine zab ?_ | refine zac ?_ _)); exact BK417.o)) : gb437 ≠ gb417)); have n10_ := zaa.mk ((by rw [hg]; exact Nat.ne_of_lt (zak (g := gb418) (o := .cells #[.int .i64 x419000_4, .int .i64 x419001_4] 24 (0, 0)) (by (with_reducible repeat (first | refine zad ?_ _ | refine zab ?_ | refine zac ?_ _)); exact BK418.o)) : gb418 ≠ gb437)); have n11_ := zaa.mk ((by rw [hg]; exact Nat.ne_of_gt (zak (g := gb418) (o := .cells #[.int .i64 x419000_4, .int .i64 x419001_4] 24 (0, 0)) (by (with_reducible repeat (first | refine zad ?_ _ | refine zab ?_ | refine zac ?_ _)); exact BK418.o)) : gb437 ≠ gb418)); have n12_ := zaa.mk ((by rw [hg]; exact Nat.ne_of_lt (zak (g := gb423) (o := .cells #[.int .i64 x424000_4, .int .i64 x424001_4] 24 (0, 0)) (by (with_reducible repeat (first | refine zad ?_ _ | refine zab ?_ | refine zac ?_ _)); exact BK423.o)) : gb423 ≠ gb437)); have n13_ := zaa.mk ((by rw [hg]; exact Nat.ne_of_gt (zak (g := gb423) (o := .cells #[.int .i64 x424000_4, .int .i64 x424001_4] 24 (0, 0)) (by (with_reducible repeat (first | refine zad ?_ _ | refine zab ?_ | refine zac ?_ _)); exact BK423.o)) : gb437 ≠ gb423)); have n14_ := zaa.mk ((by rw [hg]; exact Nat.ne_of_lt (zak (g := gb433) (o := .cells #[.int .i64 a0_0, .int .i64 a0_1] 24 (0, 0)) (by (with_reducible repeat (first | refine zad ?_ _ | refine zab ?_ | refine zac ?_ _)); exact BK433.o)) : gb433 ≠ gb437)); have n15_ := zaa.mk ((by rw [hg]; exact Nat.ne_of_gt (zak (g := gb433) (o := .cells #[.int .i64 a0_0, .int .i64 a0_1] 24 (0, 0)) (by (with_reducible repeat (first | refine zad ?_ _ | refine zab ?_ | refine zac ?_ _)); exact BK433.o)) : gb437 ≠ gb433)); clear BK417; clear BK418; clear BK423; clear BK433; clear HB; have BK417 := n0_; have BK418 := n1_; have BK423 := n2_; have BK433 := n3_; have HB := n4_; have BK437 := n5_; have GW437 := n6_; have GE437 := n7_; have NB417_437 := n8_; have NB437_417 := n9_; have NB418_437 := n10_; have NB437_418 := n11_; have NB423_437 := n12_; have NB437_423 := n13_; have NB433_437 := n14_; have NB437_433 := n15_; clear n0_ n1_ n2_ n3_ n4_ n5_ n6_ n7_ n8_ n9_ n10_ n11_ n12_ n13_ n14_ n15_; clear hb hbox hg; have hnb150 := NB437_417.o; have hnc150 := NB417_437.o; have hnb151 := NB437_418.o; have hnc151 := NB418_437.o; have hnb152 := NB437_423.o; have hnc152 := NB423_437.o; have hnb153 := NB437_433.o; have hnc153 := NB433_437.o; obtain ⟨hcz154_0, hcz154_1⟩ := cz2 BK437.o; obtain ⟨hfz154_0, hfz154_1⟩ := fz2 BK437.o; obtain ⟨hcz155_0, hcz155_1⟩ := cz2 BK423.o; obtain ⟨hfz155_0, hfz155_1⟩ := fz2 BK423.o))
                      go_roundg k4
                      case measure => have := HJ11.out; have := HJ25.out; have := HK3.o; have := HK4.o; omega
                      case rel => exact ⟨(1 + 1), (x419000_4), (x419001_4), (t434), (t435), (by first | rfl | (simp; done) | (simp [*]; done)), H', ⟨by have := HJ11.out; have := HJ25.out; have := HK3.o; have := HK4.o; omega⟩, ⟨by (with_reducible repeat (first | refine zad ?_ _ | refine zab ?_ | refine zac ?_ _)); refine zam ?_ NB417_423.o _; (with_reducible repeat (first | refine zad ?_ _ | refine zab ?_ | refine zac ?_ _)); refine zam ?_ NB417_423.o _; (with_reducible repeat (first | refine zad ?_ _ | refine zab ?_ | refine zac ?_ _)); refine zam ?_ NB417_437.o _; (with_reducible repeat (first | refine zad ?_ _ | refine zab ?_ | refine zac ?_ _)); refine zam ?_ NB417_437.o _; (with_reducible repeat (first | refine zad ?_ _ | refine zab ?_ | refine zac ?_ _)); exact BK417.o⟩, ⟨by (with_reducible repeat (first | refine zad ?_ _ | refine zab ?_ | refine zac ?_ _)); refine zam ?_ NB418_423.o _; (with_reducible repeat (first | refine zad ?_ _ | refine zab ?_ | refine zac ?_ _)); refine zam ?_ NB418_423.o _; (with_reducible repeat (first | refine zad ?_ _ | refine zab ?_ | refine zac ?_ _)); refine zam ?_ NB418_437.o _; (with_reducible repeat (first | refine zad ?_ _ | refine zab ?_ | refine zac ?_ _)); refine zam ?_ NB418_437.o _; (with_reducible repeat (first | refine zad ?_ _ | refine zab ?_ | refine zac ?_ _)); exact BK418.o⟩, ⟨by (with_reducible repeat (first | refine zad ?_ _ | refine zab ?_ | refine zac ?_ _)); refine zap (cs := #[.int .i64 t434, .int .i64 x424001_4]) ?_ 1 _ rfl; (with_reducible repeat (first | refine zad ?_ _ | refine zab ?_ | refine zac ?_ _)); refine zap (cs := #[.int .i64 x424000_4, .int .i64 x424001_4]) ?_ 0 _ rfl; (with_reducible repeat (first | refine zad ?_ _ | refine zab ?_ | refine zac ?_ _)); refine zam ?_ NB423_437.o _; (with_reducible repeat (first | refine zad ?_ _ | refine zab ?_ | refine zac ?_ _)); refine zam ?_ NB423_437.o _; (with_reducible repeat (first | refine zad ?_ _ | refine zab ?_ | refine zac ?_ _)); exact BK423.o⟩, ⟨by repeat (first | (with_reducible first | exact HB.o | apply zaf | apply zah | apply zag | refine zae ?_ GE417.o | refine zae ?_ GE418.o | refine zae ?_ GE423.o | refine zae ?_ GE433.o | refine zae ?_ GE437.o) | exact HB.o)⟩⟩
                    ·rw [if_neg c121] at H
                     exact absurd H (by simp)
                   ·rw [if_neg c120] at H
                    have c120b0 : (t436 == 0) = false := beq_eq_false_iff_ne.mpr c120
                    have c120b1 : (t436 != 0) = true := bne_iff_ne.mpr c120
                    simp only [Option.some.injEq, Prod.mk.injEq] at H
                    obtain ⟨rfl, rfl, rfl⟩ := H
                    go_wp2_with (first | ((with_reducible refine zaq (N := 10) rfl ?_); refine zar ?hg (N := 10) ?hd (cs := #[.int .i64 0, .int .i64 0]) (t := 24) ?hr ?_; (case hd => rfl); (case hg => rfl); (case hr => first | (go_simp; done) | (go_simp; rfl)); intro gb433 hg w156 hbox hb; have n0_ := zaa.mk (zai (by (with_reducible repeat (first | refine zad ?_ _ | refine zab ?_ | refine zac ?_ _)); exact BK417.o) hb); have n1_ := zaa.mk (zai (by (with_reducible repeat (first | refine zad ?_ _ | refine zab ?_ | refine zac ?_ _)); exact BK418.o) hb); have n2_ := zaa.mk (zai (by (with_reducible repeat (first | refine zad ?_ _ | refine zab ?_ | refine zac ?_ _)); exact BK423.o) hb); have n3_ := zaa.mk (zao (by repeat (first | (with_reducible first | exact HB.o | apply zaf | apply zah | apply zag | refine zae ?_ GE417.o | refine zae ?_ GE418.o | refine zae ?_ GE423.o) | exact HB.o)) hb); have n4_ := zaa.mk (hbox); have n5_ := zaa.mk ((by rw [hg]; exact (zan (by repeat (first | (with_reducible first | exact HB.o | apply zaf | apply zah | apply zag | refine zae ?_ GE417.o | refine zae ?_ GE418.o | refine zae ?_ GE423.o) | exact HB.o))) : w.heap.size ≤ gb433)); have n6_ := zaa.mk ((by rw [hg]; exact (zan (by repeat (first | (with_reducible first | exact HB.o | apply zaf | apply zah | apply zag | refine zae ?_ GE417.o | refine zae ?_ GE418.o | refine zae ?_ GE423.o) | exact HB.o))) : w.heap.size ≤ gb433)); have n7_ := zaa.mk ((by rw [hg]; exact Nat.ne_of_lt (zak (g := gb417) (o := .cells #[.int .i64 a0_0, .int .i64 a0_1] 24 (0, 0)) (by (with_reducible repeat (first | refine zad ?_ _ | refine zab ?_ | refine zac ?_ _)); exact BK417.o)) : gb417 ≠ gb433)); have n8_ := zaa.mk ((by rw [hg]; exact Nat.ne_of_gt (zak (g := gb417) (o := .cells #[.int .i64 a0_0, .int .i64 a0_1] 24 (0, 0)) (by (with_reducible repeat (first | refine zad ?_ _ | refine zab ?_ | refine zac ?_ _)); exact BK417.o)) : gb433 ≠ gb417)); have n9_ := zaa.mk ((by rw [hg]; exact Nat.ne_of_lt (zak (g := gb418) (o := .cells #[.int .i64 x419000_4, .int .i64 x419001_4] 24 (0, 0)) (by (with_reducible repeat (first | refine zad ?_ _ | refine zab ?_ | refine zac ?_ _)); exact BK418.o)) : gb418 ≠ gb433)); have n10_ := zaa.mk ((by rw [hg]; exact Nat.ne_of_gt (zak (g := gb418) (o := .cells #[.int .i64 x419000_4, .int .i64 x419001_4] 24 (0, 0)) (by (with_reducible repeat (first | refine zad ?_ _ | refine zab ?_ | refine zac ?_ _)); exact BK418.o)) : gb433 ≠ gb418)); have n11_ := zaa.mk ((by rw [hg]; exact Nat.ne_of_lt (zak (g := gb423) (o := .cells #[.int .i64 x424000_4, .int .i64 x424001_4] 24 (0, 0)) (by (with_reducible repeat (first | refine zad ?_ _ | refine zab ?_ | refine zac ?_ _)); exact BK423.o)) : gb423 ≠ gb433)); have n12_ := zaa.mk ((by rw [hg]; exact Nat.ne_of_gt (zak (g := gb423) (o := .cells #[.int .i64 x424000_4, .int .i64 x424001_4] 24 (0, 0)) (by (with_reducible repeat (first | refine zad ?_ _ | refine zab ?_ | refine zac ?_ _)); exact BK423.o)) : gb433 ≠ gb423)); clear BK417; clear BK418; clear BK423; clear HB; have BK417 := n0_; have BK418 := n1_; have BK423 := n2_; have HB := n3_; have BK433 := n4_; have GW433 := n5_; have GE433 := n6_; have NB417_433 := n7_; have NB433_417 := n8_; have NB418_433 := n9_; have NB433_418 := n10_; have NB423_433 := n11_; have NB433_423 := n12_; clear n0_ n1_ n2_ n3_ n4_ n5_ n6_ n7_ n8_ n9_ n10_ n11_ n12_; clear hb hbox hg; have hnb157 := NB433_417.o; have hnc157 := NB417_433.o; have hnb158 := NB433_418.o; have hnc158 := NB418_433.o; have hnb159 := NB433_423.o; have hnc159 := NB423_433.o; obtain ⟨hcz160_0, hcz160_1⟩ := cz2 BK433.o; obtain ⟨hfz160_0, hfz160_1⟩ := fz2 BK433.o; have hnb161 := NB423_417.o; have hnc161 := NB417_423.o; have hnb162 := NB423_418.o; have hnc162 := NB418_423.o; obtain ⟨hcz163_0, hcz163_1⟩ := cz2 BK423.o; obtain ⟨hfz163_0, hfz163_1⟩ := fz2 BK423.o) | ((with_reducible refine zas (f := 24) rfl ?_); refine zat (some 77) rfl rfl Tryd.func24 (by kernel_rfl) rfl #[.agg #[.int .i64 x424000_4, .int .i64 x424001_4], .agg #[.int .i64 a0_0, .int .i64 a0_1]] rfl (by (try simp only [List.map_toArray, List.map_cons, List.map_nil]); first | done | rfl | (simp only [List.length_drop, List.length_take]; rfl)) ?_; (with_reducible refine (rational_Mul.calls k4 x424000_4 x424001_4 a0_0 a0_1 t434 t435 t436 _ A119.o).mono ?_); rintro e w164 ⟨rfl, hb⟩; refine ⟨_, rfl, ?_⟩; have n0_ := zaa.mk (zai (g := gb417) (o := .cells #[.int .i64 a0_0, .int .i64 a0_1] 24 (0, 0)) (by (with_reducible repeat (first | refine zad ?_ _ | refine zab ?_ | refine zac ?_ _)); refine zam ?_ NB417_433.o _; (with_reducible repeat (first | refine zad ?_ _ | refine zab ?_ | refine zac ?_ _)); refine zam ?_ NB417_433.o _; (with_reducible repeat (first | refine zad ?_ _ | refine zab ?_ | refine zac ?_ _)); exact BK417.o) hb); have n1_ := zaa.mk (zai (g := gb418) (o := .cells #[.int .i64 x419000_4, .int .i64 x419001_4] 24 (0, 0)) (by (with_reducible repeat (first | refine zad ?_ _ | refine zab ?_ | refine zac ?_ _)); refine zam ?_ NB418_433.o _; (with_reducible repeat (first | refine zad ?_ _ | refine zab ?_ | refine zac ?_ _)); refine zam ?_ NB418_433.o _; (with_reducible repeat (first | refine zad ?_ _ | refine zab ?_ | refine zac ?_ _)); exact BK418.o) hb); have n2_ := zaa.mk (zai (g := gb423) (o := .cells #[.int .i64 x424000_4, .int .i64 x424001_4] 24 (0, 0)) (by (with_reducible repeat (first | refine zad ?_ _ | refine zab ?_ | refine zac ?_ _)); refine zam ?_ NB423_433.o _; (with_reducible repeat (first | refine zad ?_ _ | refine zab ?_ | refine zac ?_ _)); refine zam ?_ NB423_433.o _; (with_reducible repeat (first | refine zad ?_ _ | refine zab ?_ | refine zac ?_ _)); exact BK423.o) hb); have n3_ := zaa.mk (zai (g := gb433) (o := .cells #[.int .i64 a0_0, .int .i64 a0_1] 24 (0, 0)) (by (with_reducible repeat (first | refine zad ?_ _ | refine zab ?_ | refine zac ?_ _)); refine zap (cs := #[.int .i64 a0_0, .int .i64 0]) ?_ 1 _ rfl; (with_reducible repeat (first | refine zad ?_ _ | refine zab ?_ | refine zac ?_ _)); refine zap (cs := #[.int .i64 0, .int .i64 0]) ?_ 0 _ rfl; (with_reducible repeat (first | refine zad ?_ _ | refine zab ?_ | refine zac ?_ _)); exact BK433.o) hb); have n4_ := zaa.mk (zao (by repeat (first | (with_reducible first | exact HB.o | apply zaf | apply zah | apply zag | refine zae ?_ GE417.o | refine zae ?_ GE418.o | refine zae ?_ GE423.o | refine zae ?_ GE433.o) | exact HB.o)) hb); clear BK417; clear BK418; clear BK423; clear BK433; clear HB; have BK417 := n0_; have BK418 := n1_; have BK423 := n2_; have BK433 := n3_; have HB := n4_; clear n0_ n1_ n2_ n3_ n4_; (try clear hb); (try clear hb2); (try clear hk); (try clear hi)) | ((with_reducible refine zaq (N := 11) rfl ?_); refine zar ?hg (N := 11) ?hd (cs := #[.int .i64 0, .int .i64 0]) (t := 24) ?hr ?_; (case hd => rfl); (case hg => rfl); (case hr => first | (go_simp; done) | (go_simp; rfl)); intro gb437 hg w165 hbox hb; have n0_ := zaa.mk (zai (by (with_reducible repeat (first | refine zad ?_ _ | refine zab ?_ | refine zac ?_ _)); exact BK417.o) hb); have n1_ := zaa.mk (zai (by (with_reducible repeat (first | refine zad ?_ _ | refine zab ?_ | refine zac ?_ _)); exact BK418.o) hb); have n2_ := zaa.mk (zai (by (with_reducible repeat (first | refine zad ?_ _ | refine zab ?_ | refine zac ?_ _)); exact BK423.o) hb); have n3_ := zaa.mk (zai (by (with_reducible repeat (first | refine zad ?_ _ | refine zab ?_ | refine zac ?_ _)); exact BK433.o) hb); have n4_ := zaa.mk (zao (by repeat (first | (with_reducible first | exact HB.o | apply zaf | apply zah | apply zag | refine zae ?_ GE417.o | refine zae ?_ GE418.o | refine zae ?_ GE423.o | refine zae ?_ GE433.o) | exact HB.o)) hb); have n5_ := zaa.mk (hbox); have n6_ := zaa.mk ((by rw [hg]; exact (zan (by repeat (first | (with_reducible first | exact HB.o | apply zaf | apply zah | apply zag | refine zae ?_ GE417.o | refine zae ?_ GE418.o | refine zae ?_ GE423.o | refine zae ?_ GE433.o) | exact HB.o))) : w.heap.size ≤ gb437)); have n7_ := zaa.mk ((by rw [hg]; exact (zan (by repeat (first | (with_reducible first | exact HB.o | apply zaf | apply zah | apply zag | refine zae ?_ GE417.o | refine zae ?_ GE418.o | refine zae ?_ GE423.o | refine zae ?_ GE433.o) | exact HB.o))) : w.heap.size ≤ gb437)); have n8_ := zaa.mk ((by rw [hg]; exact Nat.ne_of_lt (zak (g := gb417) (o := .cells #[.int .i64 a0_0, .int .i64 a0_1] 24 (0, 0)) (by (with_reducible repeat (first | refine zad ?_ _ | refine zab ?_ | refine zac ?_ _)); exact BK417.o)) : gb417 ≠ gb437)); have n9_ := zaa.mk ((by rw [hg]; exact Nat.ne_of_gt (zak (g := gb417) (o := .cells #[.int .i64 a0_0, .int .i64 a0_1] 24 (0, 0)) (by (with_reducible repeat (first | refine zad ?_ _ | refine zab ?_ | refine zac ?_ _)); exact BK417.o)) : gb437 ≠ gb417)); have n10_ := zaa.mk ((by rw [hg]; exact Nat.ne_of_lt (zak (g := gb418) (o := .cells #[.int .i64 x419000_4, .int .i64 x419001_4] 24 (0, 0)) (by (with_reducible repeat (first | refine zad ?_ _ | refine zab ?_ | refine zac ?_ _)); exact BK418.o)) : gb418 ≠ gb437)); have n11_ := zaa.mk ((by rw [hg]; exact Nat.ne_of_gt (zak (g := gb418) (o := .cells #[.int .i64 x419000_4, .int .i64 x419001_4] 24 (0, 0)) (by (with_reducible repeat (first | refine zad ?_ _ | refine zab ?_ | refine zac ?_ _)); exact BK418.o)) : gb437 ≠ gb418)); have n12_ := zaa.mk ((by rw [hg]; exact Nat.ne_of_lt (zak (g := gb423) (o := .cells #[.int .i64 x424000_4, .int .i64 x424001_4] 24 (0, 0)) (by (with_reducible repeat (first | refine zad ?_ _ | refine zab ?_ | refine zac ?_ _)); exact BK423.o)) : gb423 ≠ gb437)); have n13_ := zaa.mk ((by rw [hg]; exact Nat.ne_of_gt (zak (g := gb423) (o := .cells #[.int .i64 x424000_4, .int .i64 x424001_4] 24 (0, 0)) (by (with_reducible repeat (first | refine zad ?_ _ | refine zab ?_ | refine zac ?_ _)); exact BK423.o)) : gb437 ≠ gb423)); have n14_ := zaa.mk ((by rw [hg]; exact Nat.ne_of_lt (zak (g := gb433) (o := .cells #[.int .i64 a0_0, .int .i64 a0_1] 24 (0, 0)) (by (with_reducible repeat (first | refine zad ?_ _ | refine zab ?_ | refine zac ?_ _)); exact BK433.o)) : gb433 ≠ gb437)); have n15_ := zaa.mk ((by rw [hg]; exact Nat.ne_of_gt (zak (g := gb433) (o := .cells #[.int .i64 a0_0, .int .i64 a0_1] 24 (0, 0)) (by (with_reducible repeat (first | refine zad ?_ _ | refine zab ?_ | refine zac ?_ _)); exact BK433.o)) : gb437 ≠ gb433)); clear BK417; clear BK418; clear BK423; clear BK433; clear HB; have BK417 := n0_; have BK418 := n1_; have BK423 := n2_; have BK433 := n3_; have HB := n4_; have BK437 := n5_; have GW437 := n6_; have GE437 := n7_; have NB417_437 := n8_; have NB437_417 := n9_; have NB418_437 := n10_; have NB437_418 := n11_; have NB423_437 := n12_; have NB437_423 := n13_; have NB433_437 := n14_; have NB437_433 := n15_; clear n0_ n1_ n2_ n3_ n4_ n5_ n6_ n7_ n8_ n9_ n10_ n11_ n12_ n13_ n14_ n15_; clear hb hbox hg; have hnb166 := NB437_417.o; have hnc166 := NB417_437.o; have hnb167 := NB437_418.o; have hnc167 := NB418_437.o; have hnb168 := NB437_423.o; have hnc168 := NB423_437.o; have hnb169 := NB437_433.o; have hnc169 := NB433_437.o; obtain ⟨hcz170_0, hcz170_1⟩ := cz2 BK437.o; obtain ⟨hfz170_0, hfz170_1⟩ := fz2 BK437.o; have hnb171 := NB418_417.o; have hnc171 := NB417_418.o; obtain ⟨hcz172_0, hcz172_1⟩ := cz2 BK418.o; obtain ⟨hfz172_0, hfz172_1⟩ := fz2 BK418.o))
                    refine bodyPost_ret (zaw rfl _ _ gb418 24 #[.int .i64 0, .int .i64 0] (0, 0) _ rfl (by (with_reducible repeat (first | refine zad ?_ _ | refine zab ?_ | refine zac ?_ _)); refine zap (cs := #[.int .i64 0, .int .i64 x419001_4]) ?_ 1 _ rfl; (with_reducible repeat (first | refine zad ?_ _ | refine zab ?_ | refine zac ?_ _)); refine zap (cs := #[.int .i64 x419000_4, .int .i64 x419001_4]) ?_ 0 _ rfl; (with_reducible repeat (first | refine zad ?_ _ | refine zab ?_ | refine zac ?_ _)); refine zam ?_ NB418_437.o _; (with_reducible repeat (first | refine zad ?_ _ | refine zab ?_ | refine zac ?_ _)); refine zam ?_ NB418_437.o _; (with_reducible repeat (first | refine zad ?_ _ | refine zab ?_ | refine zac ?_ _)); exact BK418.o) Tryd.underlying24 rfl (by kernel_rfl)) rfl ?_
                    exact ⟨by first | rfl | (simp [errW_none, errW_some] <;> rfl) | (simp [*, errW_none, errW_some] <;> rfl), by repeat (first | (with_reducible first | exact HB.o | apply zaf | apply zah | apply zag | refine zae ?_ GE417.o | refine zae ?_ GE418.o | refine zae ?_ GE423.o | refine zae ?_ GE433.o | refine zae ?_ GE437.o) | exact HB.o)⟩
                  ·rw [if_neg c118] at H
                   exact absurd H (by simp)
                ·rw [if_neg c62] at H
                 have c62b0 : decide (x71_4 < 2) = false := decide_eq_false c62
                 clear c62
                 have H' := zaa.mk H
                 clear H
                 go_wp2
                 go_roundg k4
                 case measure => have := HJ11.out; have := HJ25.out; have := HK3.o; have := HK4.o; omega
                 case rel => exact ⟨(wrap64 (x8_3 - 1)), (x419000_4), (x419001_4), (x424000_4), (x424001_4), (by first | rfl | (simp; done) | (simp [*]; done)), H', ⟨by have := HJ11.out; have := HJ25.out; have := HK3.o; have := HK4.o; omega⟩, ⟨by (with_reducible repeat (first | refine zad ?_ _ | refine zab ?_ | refine zac ?_ _)); exact BK417.o⟩, ⟨by (with_reducible repeat (first | refine zad ?_ _ | refine zab ?_ | refine zac ?_ _)); exact BK418.o⟩, ⟨by (with_reducible repeat (first | refine zad ?_ _ | refine zab ?_ | refine zac ?_ _)); exact BK423.o⟩, ⟨by repeat (first | (with_reducible first | exact HB.o | apply zaf | apply zah | apply zag | refine zae ?_ GE417.o | refine zae ?_ GE418.o | refine zae ?_ GE423.o) | exact HB.o)⟩⟩
             ·rw [if_neg c56] at H
              have c56b0 : decide (0 ≤ x8_3) = false := decide_eq_false c56
              clear c56
              by_cases c173 : a1 < 0
              ·rw [if_pos c173] at H
               have c173b0 : decide (a1 < 0) = true := decide_eq_true c173
               clear c173
               replace H := Option.bind_eq_some_iff.mp H
               obtain ⟨⟨t425, t426, t427⟩, A1740, H⟩ := H
               replace H : (some (t425, t426, t427)) = some (r1, r2, r3) := H
               have A174 := zaa.mk A1740
               clear A1740
               simp only [Option.some.injEq, Prod.mk.injEq] at H
               obtain ⟨rfl, rfl, rfl⟩ := H
               have hnb175 := NB423_417.o
               have hnc175 := NB417_423.o
               have hnb176 := NB423_418.o
               have hnc176 := NB418_423.o
               have hcz177_0 : wr.cell? ⟨gb423, 0, none⟩ = some (.int .i64 x424000_3) := (zaj BK423.o 0).trans rfl
               have hcz177_1 : wr.cell? ⟨gb423, 1, none⟩ = some (.int .i64 x424001_3) := (zaj BK423.o 1).trans rfl
               have hfz177_0 := zal BK423.o 0
               have hfz177_1 := zal BK423.o 1
               go_wp2_with (first | ((with_reducible refine zas (f := 13) rfl ?_); refine zat (some 97) rfl rfl Tryd.func13 (by kernel_rfl) rfl #[.int .i64 x424001_3, .int .i64 x424000_3] rfl (by (try simp only [List.map_toArray, List.map_cons, List.map_nil]); first | done | rfl | (simp only [List.length_drop, List.length_take]; rfl)) ?_; (with_reducible refine (rational_Make.calls k3 x424001_3 x424000_3 t425 t426 t427 _ A174.o).mono ?_); rintro e w178 ⟨rfl, hb⟩; refine ⟨_, rfl, ?_⟩; have n0_ := zaa.mk (zai (by (with_reducible repeat (first | refine zad ?_ _ | refine zab ?_ | refine zac ?_ _)); exact BK417.o) hb); have n1_ := zaa.mk (zai (by (with_reducible repeat (first | refine zad ?_ _ | refine zab ?_ | refine zac ?_ _)); exact BK418.o) hb); have n2_ := zaa.mk (zai (by (with_reducible repeat (first | refine zad ?_ _ | refine zab ?_ | refine zac ?_ _)); exact BK423.o) hb); have n3_ := zaa.mk (zao (by repeat (first | (with_reducible first | exact HB.o | apply zaf | apply zah | apply zag | refine zae ?_ GE417.o | refine zae ?_ GE418.o | refine zae ?_ GE423.o) | exact HB.o)) hb); clear BK417; clear BK418; clear BK423; clear HB; have BK417 := n0_; have BK418 := n1_; have BK423 := n2_; have HB := n3_; clear n0_ n1_ n2_ n3_; (try clear hb); (try clear hb2); (try clear hk); (try clear hi); have hnb179 := NB418_417.o; have hnc179 := NB417_418.o; obtain ⟨hcz180_0, hcz180_1⟩ := cz2 BK418.o; obtain ⟨hfz180_0, hfz180_1⟩ := fz2 BK418.o))
               refine bodyPost_ret (zaw rfl _ _ gb418 24 #[.int .i64 t425, .int .i64 t426] (0, 0) _ rfl (by (with_reducible repeat (first | refine zad ?_ _ | refine zab ?_ | refine zac ?_ _)); refine zap (cs := #[.int .i64 t425, .int .i64 x419001_3]) ?_ 1 _ rfl; (with_reducible repeat (first | refine zad ?_ _ | refine zab ?_ | refine zac ?_ _)); refine zap (cs := #[.int .i64 x419000_3, .int .i64 x419001_3]) ?_ 0 _ rfl; (with_reducible repeat (first | refine zad ?_ _ | refine zab ?_ | refine zac ?_ _)); exact BK418.o) Tryd.underlying24 rfl (by kernel_rfl)) rfl ?_
               exact ⟨by first | rfl | (simp [errW_none, errW_some] <;> rfl) | (simp [*, errW_none, errW_some] <;> rfl), by repeat (first | (with_reducible first | exact HB.o | apply zaf | apply zah | apply zag | refine zae ?_ GE417.o | refine zae ?_ GE418.o | refine zae ?_ GE423.o) | exact HB.o)⟩
              ·rw [if_neg c173] at H
               have c173b0 : decide (a1 < 0) = false := decide_eq_false c173
               clear c173
               simp only [Option.some.injEq, Prod.mk.injEq] at H
               obtain ⟨rfl, rfl, rfl⟩ := H
               have hnb181 := NB423_417.o
               have hnc181 := NB417_423.o
               have hnb182 := NB423_418.o
               have hnc182 := NB418_423.o
               have hcz183_0 : wr.cell? ⟨gb423, 0, none⟩ = some (.int .i64 x424000_3) := (zaj BK423.o 0).trans rfl
               have hcz183_1 : wr.cell? ⟨gb423, 1, none⟩ = some (.int .i64 x424001_3) := (zaj BK423.o 1).trans rfl
               have hfz183_0 := zal BK423.o 0
               have hfz183_1 := zal BK423.o 1
               have hnb184 := NB418_417.o
               have hnc184 := NB417_418.o
               have hcz185_0 : wr.cell? ⟨gb418, 0, none⟩ = some (.int .i64 x419000_3) := (zaj BK418.o 0).trans rfl
               have hcz185_1 : wr.cell? ⟨gb418, 1, none⟩ = some (.int .i64 x419001_3) := (zaj BK418.o 1).trans rfl
               have hfz185_0 := zal BK418.o 0
               have hfz185_1 := zal BK418.o 1
               go_wp2
               refine bodyPost_ret (zaw rfl _ _ gb418 24 #[.int .i64 x424000_3, .int .i64 x424001_3] (0, 0) _ rfl (by (with_reducible repeat (first | refine zad ?_ _ | refine zab ?_ | refine zac ?_ _)); refine zap (cs := #[.int .i64 x424000_3, .int .i64 x419001_3]) ?_ 1 _ rfl; (with_reducible repeat (first | refine zad ?_ _ | refine zab ?_ | refine zac ?_ _)); refine zap (cs := #[.int .i64 x419000_3, .int .i64 x419001_3]) ?_ 0 _ rfl; (with_reducible repeat (first | refine zad ?_ _ | refine zab ?_ | refine zac ?_ _)); exact BK418.o) Tryd.underlying24 rfl (by kernel_rfl)) rfl ?_
               exact ⟨by first | rfl | (simp [errW_none, errW_some] <;> rfl) | (simp [*, errW_none, errW_some] <;> rfl), by repeat (first | (with_reducible first | exact HB.o | apply zaf | apply zah | apply zag | refine zae ?_ GE417.o | refine zae ?_ GE418.o | refine zae ?_ GE423.o) | exact HB.o)⟩
 ·replace c4 := Bool.eq_false_iff.mpr c4
  subst c4
  have H1 : (some (0, 0, 1)) = some (r1, r2, r3) := by rw [if_neg (show ¬ (false = true) by decide)] at H; exact H
  clear H
  have H := H1
  clear H1
  simp only [Option.some.injEq, Prod.mk.injEq] at H
  obtain ⟨rfl, rfl, rfl⟩ := H
  have ix75_0 : ∀ (W_ : World) (p0_ p1_ p2_ p3_ : Value), (Instr.index 75 (.agg #[p0_, p1_, p2_, p3_]) (.int .i64 0)).run Tryd.prog W_ = .ok (.agg #[p0_, p1_]) W_ := fun _ _ _ _ _ => by kernel_rfl
  have ix75_1 : ∀ (W_ : World) (p0_ p1_ p2_ p3_ : Value), (Instr.index 75 (.agg #[p0_, p1_, p2_, p3_]) (.int .i64 1)).run Tryd.prog W_ = .ok (.agg #[p2_, p3_]) W_ := fun _ _ _ _ _ => by kernel_rfl
  go_enter Tryd.func37, Tryd.ntmps37
  go_wp2_with (first | ((with_reducible refine zaq (N := 2) rfl ?_); refine zar ?hg (N := 2) ?hd (cs := #[.int .i64 a0_0, .int .i64 a0_1]) (t := 24) ?hr ?_; (case hd => rfl); (case hg => rfl); (case hr => first | (go_simp; done) | (go_simp; rfl)); intro gb417 hg w186 hbox hb; have n0_ := zaa.mk (zao (by repeat (first | (with_reducible first | exact HB.o | apply zaf | apply zah | apply zag) | exact HB.o)) hb); have n1_ := zaa.mk (hbox); have n2_ := zaa.mk ((by rw [hg]; exact (zan (by repeat (first | (with_reducible first | exact HB.o | apply zaf | apply zah | apply zag) | exact HB.o))) : w.heap.size ≤ gb417)); have n3_ := zaa.mk ((by rw [hg]; exact (zan (by repeat (first | (with_reducible first | exact HB.o | apply zaf | apply zah | apply zag) | exact HB.o))) : w.heap.size ≤ gb417)); clear HB; have HB := n0_; have BK417 := n1_; have GW417 := n2_; have GE417 := n3_; clear n0_ n1_ n2_ n3_; clear hb hbox hg) | ((with_reducible refine zaq (N := 4) rfl ?_); refine zar ?hg (N := 4) ?hd (cs := #[.int .i64 0, .int .i64 0]) (t := 24) ?hr ?_; (case hd => rfl); (case hg => rfl); (case hr => first | (go_simp; done) | (go_simp; rfl)); intro gb418 hg w187 hbox hb; have n0_ := zaa.mk (zai (by (with_reducible repeat (first | refine zad ?_ _ | refine zab ?_ | refine zac ?_ _)); exact BK417.o) hb); have n1_ := zaa.mk (zao (by repeat (first | (with_reducible first | exact HB.o | apply zaf | apply zah | apply zag | refine zae ?_ GE417.o) | exact HB.o)) hb); have n2_ := zaa.mk (hbox); have n3_ := zaa.mk ((by rw [hg]; exact (zan (by repeat (first | (with_reducible first | exact HB.o | apply zaf | apply zah | apply zag | refine zae ?_ GE417.o) | exact HB.o))) : w.heap.size ≤ gb418)); have n4_ := zaa.mk ((by rw [hg]; exact (zan (by repeat (first | (with_reducible first | exact HB.o | apply zaf | apply zah | apply zag | refine zae ?_ GE417.o) | exact HB.o))) : w.heap.size ≤ gb418)); have n5_ := zaa.mk ((by rw [hg]; exact Nat.ne_of_lt (zak (g := gb417) (o := .cells #[.int .i64 a0_0, .int .i64 a0_1] 24 (0, 0)) (by (with_reducible repeat (first | refine zad ?_ _ | refine zab ?_ | refine zac ?_ _)); exact BK417.o)) : gb417 ≠ gb418)); have n6_ := zaa.mk ((by rw [hg]; exact Nat.ne_of_gt (zak (g := gb417) (o := .cells #[.int .i64 a0_0, .int .i64 a0_1] 24 (0, 0)) (by (with_reducible repeat (first | refine zad ?_ _ | refine zab ?_ | refine zac ?_ _)); exact BK417.o)) : gb418 ≠ gb417)); clear BK417; clear HB; have BK417 := n0_; have HB := n1_; have BK418 := n2_; have GW418 := n3_; have GE418 := n4_; have NB417_418 := n5_; have NB418_417 := n6_; clear n0_ n1_ n2_ n3_ n4_ n5_ n6_; clear hb hbox hg; have hnb188 := NB417_418.o; have hnc188 := NB418_417.o; obtain ⟨hcz189_0, hcz189_1⟩ := cz2 BK417.o; obtain ⟨hfz189_0, hfz189_1⟩ := fz2 BK417.o) | ((with_reducible refine zas (f := 18) rfl ?_); refine zat (some 15) rfl rfl Tryd.func18 (by kernel_rfl) rfl #[.agg #[.int .i64 a0_0, .int .i64 a0_1]] rfl (by (try simp only [List.map_toArray, List.map_cons, List.map_nil]); first | done | rfl | (simp only [List.length_drop, List.length_take]; rfl)) ?_; (with_reducible refine (rational_Valid.calls k a0_0 a0_1 false _ A3.o).mono ?_); rintro e w190 ⟨rfl, hb⟩; refine ⟨_, rfl, ?_⟩; have n0_ := zaa.mk (zai (by (with_reducible repeat (first | refine zad ?_ _ | refine zab ?_ | refine zac ?_ _)); exact BK417.o) hb); have n1_ := zaa.mk (zai (by (with_reducible repeat (first | refine zad ?_ _ | refine zab ?_ | refine zac ?_ _)); exact BK418.o) hb); have n2_ := zaa.mk (zao (by repeat (first | (with_reducible first | exact HB.o | apply zaf | apply zah | apply zag | refine zae ?_ GE417.o | refine zae ?_ GE418.o) | exact HB.o)) hb); clear BK417; clear BK418; clear HB; have BK417 := n0_; have BK418 := n1_; have HB := n2_; clear n0_ n1_ n2_; (try clear hb); (try clear hb2); (try clear hk); (try clear hi); obtain ⟨hcz191_0, hcz191_1⟩ := cz2 BK418.o; obtain ⟨hfz191_0, hfz191_1⟩ := fz2 BK418.o))
  refine bodyPost_ret (zaw rfl _ _ gb418 24 #[.int .i64 0, .int .i64 0] (0, 0) _ rfl (by (with_reducible repeat (first | refine zad ?_ _ | refine zab ?_ | refine zac ?_ _)); refine zap (cs := #[.int .i64 0, .int .i64 0]) ?_ 1 _ rfl; (with_reducible repeat (first | refine zad ?_ _ | refine zab ?_ | refine zac ?_ _)); refine zap (cs := #[.int .i64 0, .int .i64 0]) ?_ 0 _ rfl; (with_reducible repeat (first | refine zad ?_ _ | refine zab ?_ | refine zac ?_ _)); exact BK418.o) Tryd.underlying24 rfl (by kernel_rfl)) rfl ?_
  exact ⟨by first | rfl | (simp [errW_none, errW_some] <;> rfl) | (simp [*, errW_none, errW_some] <;> rfl), by repeat (first | (with_reducible first | exact HB.o | apply zaf | apply zah | apply zag | refine zae ?_ GE417.o | refine zae ?_ GE418.o) | exact HB.o)⟩

end Go.Proofs.YtoieknocpphjoaaDoor.P
