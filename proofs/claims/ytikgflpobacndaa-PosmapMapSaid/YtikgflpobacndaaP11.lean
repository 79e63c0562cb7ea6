--m
/- Written by wip/tool/hprint.py (the kit's print.py with hand-proved contracts set in): contracts of the functions that the statements of this seat reach, without conditions beyond those named in each theorem. -/
import Derived.Test.YtikgflpobacndaaP0
import Derived.Test.YtikgflpobacndaaP5
import Derived.Test.YtikgflpobacndaaP6
namespace Go.Proofs.Ytikgflpobacndaa.P
open Go.RowKit Go.Proofs.YtikgflpobacndaaW.PrintWords Go.Proofs.YtikgflpobacndaaW.PrintLast Go.Proofs.YtikgflpobacndaaW.PrintMore
attribute [local go_sem] zaz zaA zaB zaC zaD zaE zaF zaG   -- for this text's walks alone
set_option linter.unusedVariables false
set_option linter.unusedSimpArgs false

/-! ### posmap_place_unwrap: function 42 -/
mutual
def posmap_place_unwrap.j0 : Nat → Int → Int → Bool → Int → List Int → Int → Int → List (S24) → Int → ByteArray → ByteArray → Int → Int → List Int → Option (List Int)
 | 0, _, _, _, _, _, _, _, _, _, _, _, _, _, _ => none
 | k + 1, x3, x4, x11, x180000, x180001, x180002, x180003, x180004, x180005, x180006, x180007, x180008, x180009, x180010 => if x11 = true then ((posmap_place_moved.f x180000 x180001 x180002 x180003 x180004 x180005 x180006 x180007 x180008 x180009 x180010 0).bind fun t181 => (some t181)) else ((posmap_place_offset.f x180000 x180001 x180002 x180003 x180004 x180005 x180006 x180007 x180008 x180009 x180010).bind fun t184 => (if t184 = true then (posmap_place_unwrap.j1 k x3 x4 true x180000 x180001 x180002 x180003 x180004 x180005 x180006 x180007 x180008 x180009 x180010) else (posmap_place_unwrap.j1 k x3 x4 (decide (x180008 > x3)) x180000 x180001 x180002 x180003 x180004 x180005 x180006 x180007 x180008 x180009 x180010)))
def posmap_place_unwrap.j1 : Nat → Int → Int → Bool → Int → List Int → Int → Int → List (S24) → Int → ByteArray → ByteArray → Int → Int → List Int → Option (List Int)
 | 0, _, _, _, _, _, _, _, _, _, _, _, _, _, _ => none
 | k + 1, x3, x4, x28, x180000, x180001, x180002, x180003, x180004, x180005, x180006, x180007, x180008, x180009, x180010 => if x28 = true then ((posmap_place_moved.f x180000 x180001 x180002 x180003 x180004 x180005 x180006 x180007 x180008 x180009 x180010 (wrap64 (x4 - 1))).bind fun t185 => (some t185)) else (if x180009 < x180005 then ((posmap_place_at.f x180000 x180001 x180002 x180003 x180004 x180005 x180006 x180007 x180008 x180009 x180010 x3).bind fun t188 => (some t188)) else (if x180009 > x180005 then ((posmap_place_at.f x180000 x180001 x180002 x180003 x180004 x180005 x180006 x180007 x180008 x180009 x180010 (wrap64 (x3 + x4))).bind fun t191 => (some t191)) else (if 0 < (x180010.length : Int) then ((posmap_place_at.f x180000 x180001 x180002 x180003 x180004 x180005 x180006 x180007 x180008 x180009 x180010 (wrap64 (x3 + (rd x180010 0)))).bind fun t195 => (if 1 ≤ (x180010.length : Int) then (if t195.length + (x180010.drop 1).length < 17592186044416 then (some (t195 ++ (x180010.drop 1))) else (none)) else (none))) else (none))))
end
def posmap_place_unwrap.f (k : Nat) (a0_0 : Int) (l0_1 : List Int) (a0_2 : Int) (a0_3 : Int) (l0_4 : List (S24)) (a0_5 : Int) (a0_6 : ByteArray) (a0_7 : ByteArray) (a0_8 : Int) (a0_9 : Int) (l0_10 : List Int) : Option (List Int) := if a0_8 < a0_2 then (posmap_place_unwrap.j0 k a0_2 a0_3 true a0_0 l0_1 a0_2 a0_3 l0_4 a0_5 a0_6 a0_7 a0_8 a0_9 l0_10) else ((posmap_place_offset.f a0_0 l0_1 a0_2 a0_3 l0_4 a0_5 a0_6 a0_7 a0_8 a0_9 l0_10).bind fun t180 => (if t180 = true then (posmap_place_unwrap.j0 k a0_2 a0_3 (a0_8 == a0_2) a0_0 l0_1 a0_2 a0_3 l0_4 a0_5 a0_6 a0_7 a0_8 a0_9 l0_10) else (posmap_place_unwrap.j0 k a0_2 a0_3 false a0_0 l0_1 a0_2 a0_3 l0_4 a0_5 a0_6 a0_7 a0_8 a0_9 l0_10)))
theorem posmap_place_unwrap.mono_l : ∀ k, (∀ y0 y1 y2 y3 y4 y5 y6 y7 y8 y9 y10 y11 y12 y13, LeO (posmap_place_unwrap.j0 k y0 y1 y2 y3 y4 y5 y6 y7 y8 y9 y10 y11 y12 y13) (posmap_place_unwrap.j0 (k + 1) y0 y1 y2 y3 y4 y5 y6 y7 y8 y9 y10 y11 y12 y13)) ∧ (∀ y0 y1 y2 y3 y4 y5 y6 y7 y8 y9 y10 y11 y12 y13, LeO (posmap_place_unwrap.j1 k y0 y1 y2 y3 y4 y5 y6 y7 y8 y9 y10 y11 y12 y13) (posmap_place_unwrap.j1 (k + 1) y0 y1 y2 y3 y4 y5 y6 y7 y8 y9 y10 y11 y12 y13))
 | 0 => ⟨fun _ _ _ _ _ _ _ _ _ _ _ _ _ _ r h => by simp [posmap_place_unwrap.j0] at h, fun _ _ _ _ _ _ _ _ _ _ _ _ _ _ r h => by simp [posmap_place_unwrap.j1] at h⟩
 | k + 1 => by
  obtain ⟨ih0, ih1⟩ := posmap_place_unwrap.mono_l k
  refine ⟨?_, ?_⟩
  ·intro y0 y1 y2 y3 y4 y5 y6 y7 y8 y9 y10 y11 y12 y13
   unfold posmap_place_unwrap.j0
   repeat' first
   | (with_reducible exact ih0 _ _ _ _ _ _ _ _ _ _ _ _ _ _)
   | (with_reducible exact ih1 _ _ _ _ _ _ _ _ _ _ _ _ _ _)
   | (with_reducible exact LeO.refl _)
   | (with_reducible exact LeO.none _)
   | (with_reducible refine LeO.ite ?_ ?_)
   | (with_reducible refine LeO.bind ?_ (fun _ => ?_))
   | exact ih0 _ _ _ _ _ _ _ _ _ _ _ _ _ _
   | exact ih1 _ _ _ _ _ _ _ _ _ _ _ _ _ _
   | exact LeO.none _
   | refine LeO.ite ?_ ?_
   | refine LeO.bind ?_ (fun _ => ?_)
  ·intro y0 y1 y2 y3 y4 y5 y6 y7 y8 y9 y10 y11 y12 y13
   unfold posmap_place_unwrap.j1
   repeat' first
   | (with_reducible exact ih0 _ _ _ _ _ _ _ _ _ _ _ _ _ _)
   | (with_reducible exact ih1 _ _ _ _ _ _ _ _ _ _ _ _ _ _)
   | (with_reducible exact LeO.refl _)
   | (with_reducible exact LeO.none _)
   | (with_reducible refine LeO.ite ?_ ?_)
   | (with_reducible refine LeO.bind ?_ (fun _ => ?_))
   | exact ih0 _ _ _ _ _ _ _ _ _ _ _ _ _ _
   | exact ih1 _ _ _ _ _ _ _ _ _ _ _ _ _ _
   | exact LeO.none _
   | refine LeO.ite ?_ ?_
   | refine LeO.bind ?_ (fun _ => ?_)
theorem posmap_place_unwrap.mono : ∀ a0 a1 a2 a3 a4 a5 a6 a7 a8 a9 a10 k, LeO (posmap_place_unwrap.f k a0 a1 a2 a3 a4 a5 a6 a7 a8 a9 a10) (posmap_place_unwrap.f (k + 1) a0 a1 a2 a3 a4 a5 a6 a7 a8 a9 a10) := by
 intro a0 a1 a2 a3 a4 a5 a6 a7 a8 a9 a10 k
 obtain ⟨ih0, ih1⟩ := posmap_place_unwrap.mono_l k
 unfold posmap_place_unwrap.f
 repeat' first
   | (with_reducible exact ih0 _ _ _ _ _ _ _ _ _ _ _ _ _ _)
   | (with_reducible exact ih1 _ _ _ _ _ _ _ _ _ _ _ _ _ _)
   | (with_reducible exact LeO.refl _)
   | (with_reducible exact LeO.none _)
   | (with_reducible refine LeO.ite ?_ ?_)
   | (with_reducible refine LeO.bind ?_ (fun _ => ?_))
   | exact ih0 _ _ _ _ _ _ _ _ _ _ _ _ _ _
   | exact ih1 _ _ _ _ _ _ _ _ _ _ _ _ _ _
   | exact LeO.none _
   | refine LeO.ite ?_ ?_
   | refine LeO.bind ?_ (fun _ => ?_)
def posmap_place_unwrap.T1 : Bool × List (List Nat × List Nat) := (true, [([], []), ([0], [0]), ([1], [1]), ([], []), ([3], [3]), ([4], [4]), ([2, 0, 1, 2], [2]), ([5, 6, 0, 1, 2, 3, 4, 5, 6], [5])])
def posmap_place_unwrap.B1 : List Nat := [0, 1, 3, 0, 8, 24, 7, 127]
theorem posmap_place_unwrap.tab1 : rtab .any (opsOf Try.f42 1) = posmap_place_unwrap.T1 := by kernel_rfl
theorem posmap_place_unwrap.bits1 : zaS posmap_place_unwrap.T1.2 posmap_place_unwrap.B1 = true := by kernel_rfl
def posmap_place_unwrap.T10 : Bool × List (List Nat × List Nat) := (true, [([], []), ([], []), ([], []), ([2], [2]), ([3], [3]), ([4], [4]), ([1, 5], [1, 5]), ([0, 6], [0, 6]), ([], []), ([8], [8]), ([9], [9]), ([7, 10, 7], [7, 10]), ([11, 11, 0, 1, 2, 3, 4, 5, 6, 7, 8, 9, 10, 11], [11])])
def posmap_place_unwrap.B10 : List Nat := [0, 0, 0, 4, 12, 28, 62, 127, 0, 256, 768, 2047, 4095]
theorem posmap_place_unwrap.tab10 : rtab .any (opsOf Try.f42 10) = posmap_place_unwrap.T10 := by kernel_rfl
theorem posmap_place_unwrap.bits10 : zaS posmap_place_unwrap.T10.2 posmap_place_unwrap.B10 = true := by kernel_rfl
set_option maxHeartbeats 8000000 in
set_option maxRecDepth 100000 in
theorem posmap_place_unwrap.calls (k : Nat) (a0_0 : Int) (A0_1 : Option Addr) (c0_1 : Nat) (l0_1 : List Int) (a0_2 : Int) (a0_3 : Int) (A0_4 : Option Addr) (c0_4 : Nat) (l0_4 : List (S24)) (a0_5 : Int) (a0_6 : ByteArray) (a0_7 : ByteArray) (a0_8 : Int) (a0_9 : Int) (A0_10 : Option Addr) (c0_10 : Nat) (l0_10 : List Int) (r : List Int) (w : World) (hr0_1 : Kd.C (Kd.int .i64) w A0_1 l0_1.length l0_1) (hc0_1 : l0_1.length ≤ c0_1) (hr0_4 : Kd.C k24 w A0_4 l0_4.length l0_4) (hc0_4 : l0_4.length ≤ c0_4) (hr0_10 : Kd.C (Kd.int .i64) w A0_10 l0_10.length l0_10) (hc0_10 : l0_10.length ≤ c0_10) (h : posmap_place_unwrap.f k a0_0 l0_1 a0_2 a0_3 l0_4 a0_5 a0_6 a0_7 a0_8 a0_9 l0_10 = some r) :
  Calls Try.prog 42 #[.agg #[.int .i64 a0_0, .slice A0_1 l0_1.length c0_1, .int .i64 a0_2, .int .i64 a0_3, .slice A0_4 l0_4.length c0_4, .int .i64 a0_5, .string a0_6, .string a0_7, .int .i64 a0_8, .int .i64 a0_9, .slice A0_10 l0_10.length c0_10]] w fun e w' => ∃ v0_ : Value, e = .returned (v0_) ∧ Kd.R (Kd.int .i64) 3 w' w.heap.size (fun _ => True) v0_ r ∧ Below w.heap.size w w' := by
 have hu65 := Try.underlying65
 have HR0_1 := zab.mk hr0_1
 have HC0_1 := zab.mk hc0_1
 clear hr0_1 hc0_1
 have HR0_4 := zab.mk hr0_4
 have HC0_4 := zab.mk hc0_4
 clear hr0_4 hc0_4
 have HR0_10 := zab.mk hr0_10
 have HC0_10 := zab.mk hc0_10
 clear hr0_10 hc0_10
 have HB := zab.mk (Below.refl w.heap.size w)
 have H : (if a0_8 < a0_2 then (posmap_place_unwrap.j0 k a0_2 a0_3 true a0_0 l0_1 a0_2 a0_3 l0_4 a0_5 a0_6 a0_7 a0_8 a0_9 l0_10) else ((posmap_place_offset.f a0_0 l0_1 a0_2 a0_3 l0_4 a0_5 a0_6 a0_7 a0_8 a0_9 l0_10).bind fun t180 => (if t180 = true then (posmap_place_unwrap.j0 k a0_2 a0_3 (a0_8 == a0_2) a0_0 l0_1 a0_2 a0_3 l0_4 a0_5 a0_6 a0_7 a0_8 a0_9 l0_10) else (posmap_place_unwrap.j0 k a0_2 a0_3 false a0_0 l0_1 a0_2 a0_3 l0_4 a0_5 a0_6 a0_7 a0_8 a0_9 l0_10)))) = some r := h
 clear h
 have HC2 := zab.mk H
 clear H
 go_enter Try.func42, Try.ntmps42
 try go_wp2_with (first | ((with_reducible refine zaq (N := 1) rfl ?_); refine zas ?hg (N := 1) ?hd (cs := #[.int .i64 a0_0, .slice A0_1 l0_1.length c0_1, .int .i64 a0_2, .int .i64 a0_3, .slice A0_4 l0_4.length c0_4, .int .i64 a0_5, .string a0_6, .string a0_7, .int .i64 a0_8, .int .i64 a0_9, .slice A0_10 l0_10.length c0_10]) (t := 65) ?hr ?_; (case hd => rfl); (case hg => rfl); (case hr => first | (go_simp; done) | (go_simp; rfl)); intro gb179 hg w3 hbox hb; have n0_ := zab.mk (zal (by repeat (first | (with_reducible first | exact HB.o | apply zad | apply zaf | apply zae) | exact HB.o)) hb); have n1_ := zab.mk (hbox); have n2_ := zab.mk ((by rw [hg]; exact (zak (by repeat (first | (with_reducible first | exact HB.o | apply zad | apply zaf | apply zae) | exact HB.o))) : w.heap.size ≤ gb179)); have n3_ := zab.mk ((by rw [hg]; exact (zak (by repeat (first | (with_reducible first | exact HB.o | apply zad | apply zaf | apply zae) | exact HB.o))) : w.heap.size ≤ gb179)); clear HB; have HB := n0_; have BK179 := n1_; have GW179 := n2_; have GE179 := n3_; clear n0_ n1_ n2_ n3_; clear hb hbox hg))
 have n0_ := zab.mk (zah BK179.o)
 have n1_ := zab.mk (zae HB.o)
 clear BK179
 clear HB
 have BK179 := n0_
 have HB := n1_
 clear n0_ n1_
 refine zaN (n := 8) (S := fun w' => w'.cell? ⟨gb179, 0, none⟩ = some (.int .i64 a0_0) ∧ w'.cell? ⟨gb179, 1, none⟩ = some (.slice A0_1 l0_1.length c0_1) ∧ w'.cell? ⟨gb179, 2, none⟩ = some (.int .i64 a0_2) ∧ w'.cell? ⟨gb179, 3, none⟩ = some (.int .i64 a0_3) ∧ w'.cell? ⟨gb179, 4, none⟩ = some (.slice A0_4 l0_4.length c0_4) ∧ w'.cell? ⟨gb179, 5, none⟩ = some (.int .i64 a0_5) ∧ w'.cell? ⟨gb179, 6, none⟩ = some (.string a0_6) ∧ w'.cell? ⟨gb179, 7, none⟩ = some (.string a0_7) ∧ w'.cell? ⟨gb179, 8, none⟩ = some (.int .i64 a0_8) ∧ w'.cell? ⟨gb179, 9, none⟩ = some (.int .i64 a0_9) ∧ w'.cell? ⟨gb179, 10, none⟩ = some (.slice A0_10 l0_10.length c0_10)) (ds := []) #[false, false, false, false, false, false, false, false] (by kernel_rfl) rfl rfl (cz11 BK179.o) (fun hHeld => ?_); refine zaP posmap_place_unwrap.tab1 posmap_place_unwrap.bits1 (fun HT_ HW_ => ?_)
 generalize w3.drew = w4 at BK179 HB hHeld ⊢
 refine pure_ (i := 0) (N := some 5) (v := ?_) (a' := ?_) #[true, false, false, false, false, false, false, false] rfl rfl (zan HT_.out (by kernel_rfl)) (fun _ _ _ h => h) (Or.inl ⟨by rfl, ?_⟩) ?_ ?_
 rotate_left
 ·intro w'
  go_simp
  with_reducible rfl
 rotate_left
 ·simp only [Act.put, List.setIfInBounds_toArray, List.set_cons_zero, List.set_cons_succ, i64_w, i32_w]
  rfl
 refine pure_ (i := 1) (N := some 6) (v := ?_) (a' := ?_) #[true, true, false, false, false, false, false, false] rfl rfl (zan HT_.out (by kernel_rfl)) (fun _ _ _ h => h) (Or.inl ⟨by rfl, ?_⟩) ?_ ?_
 rotate_left
 ·intro w'
  go_simp
  with_reducible rfl
 rotate_left
 ·simp only [Act.put, List.setIfInBounds_toArray, List.set_cons_zero, List.set_cons_succ, i64_w, i32_w]
  rfl
 refine pure_ (i := 3) (N := some 8) (v := ?_) (a' := ?_) #[true, true, false, true, false, false, false, false] rfl rfl (zan HT_.out (by kernel_rfl)) (fun _ _ _ h => h) (Or.inl ⟨by rfl, ?_⟩) ?_ ?_
 rotate_left
 ·intro w'
  go_simp
  with_reducible rfl
 rotate_left
 ·simp only [Act.put, List.setIfInBounds_toArray, List.set_cons_zero, List.set_cons_succ, i64_w, i32_w]
  rfl
 refine pure_ (i := 4) (N := some 9) (v := ?_) (a' := ?_) #[true, true, false, true, true, false, false, false] rfl rfl (zan HT_.out (by kernel_rfl)) (fun _ _ _ h => h) (Or.inl ⟨by rfl, ?_⟩) ?_ ?_
 rotate_left
 ·intro w'
  go_simp
  with_reducible rfl
 rotate_left
 ·simp only [Act.put, List.setIfInBounds_toArray, List.set_cons_zero, List.set_cons_succ, i64_w, i32_w]
  rfl
 refine take_ (i := 2) (N := some 7) (v := ?_) (a' := ?_) #[true, true, true, true, true, false, false, false] rfl rfl (zav HT_.out HW_.out (by kernel_rfl)) (fun _ _ _ h => h) (Or.inl ⟨by rfl, ?_⟩) hHeld ?_ ?_
 rotate_left
 ·rintro w' ⟨s0, s1, s2, s3, s4, s5, s6, s7, s8, s9, s10⟩
  go_simp
  with_reducible rfl
 rotate_left
 ·simp only [Act.put, List.setIfInBounds_toArray, List.set_cons_zero, List.set_cons_succ, i64_w, i32_w]
  rfl
 refine pure_ (i := 6) (N := some 3) (v := ?_) (a' := ?_) #[true, true, true, true, true, false, true, false] rfl rfl (zan HT_.out (by kernel_rfl)) (fun _ _ _ h => h) (Or.inl ⟨by rfl, ?_⟩) ?_ ?_
 rotate_left
 ·intro w'
  go_simp
  with_reducible rfl
 rotate_left
 ·simp only [Act.put, List.setIfInBounds_toArray, List.set_cons_zero, List.set_cons_succ, i64_w, i32_w]
  rfl
 refine take_ (i := 5) (N := some 10) (v := ?_) (a' := ?_) #[true, true, true, true, true, true, true, false] rfl rfl (zav HT_.out HW_.out (by kernel_rfl)) (fun _ _ _ h => h) (Or.inl ⟨by rfl, ?_⟩) hHeld ?_ ?_
 rotate_left
 ·rintro w' ⟨s0, s1, s2, s3, s4, s5, s6, s7, s8, s9, s10⟩
  go_simp
  with_reducible rfl
 rotate_left
 ·simp only [Act.put, List.setIfInBounds_toArray, List.set_cons_zero, List.set_cons_succ, i64_w, i32_w]
  rfl
 refine pure_ (i := 7) (N := some 4) (v := ?_) (a' := ?_) #[true, true, true, true, true, true, true, true] rfl rfl (zan HT_.out (by kernel_rfl)) (fun _ _ _ h => h) (Or.inl ⟨by rfl, ?_⟩) ?_ ?_
 rotate_left
 ·intro w'
  go_simp
  with_reducible rfl
 rotate_left
 ·simp only [Act.put, List.setIfInBounds_toArray, List.set_cons_zero, List.set_cons_succ, i64_w, i32_w]
  rfl
 refine done_ (zaQ HT_.out (by kernel_rfl)) ?_
 go_upto_region 2 with (fail)
 go_cut [11] (fun v11 wc => ∃ (kq : Nat) (x11_1 : Bool), v11 = .bool x11_1 ∧ zab (posmap_place_unwrap.j0 kq a0_2 a0_3 x11_1 a0_0 l0_1 a0_2 a0_3 l0_4 a0_5 a0_6 a0_7 a0_8 a0_9 l0_10 = some r) ∧ zab (kq ≤ k) ∧ zab (wc.heap[gb179]? = some (.cells #[.int .i64 a0_0, (.slice A0_1 l0_1.length c0_1), .int .i64 a0_2, .int .i64 a0_3, (.slice A0_4 l0_4.length c0_4), .int .i64 a0_5, .string a0_6, .string a0_7, .int .i64 a0_8, .int .i64 a0_9, (.slice A0_10 l0_10.length c0_10)] 65 (0, 0))) ∧ zab (Below w.heap.size w wc))
 case first =>
  have H := HC2.out
  clear HC2
  by_cases c5 : a0_8 < a0_2
  ·rw [if_pos c5] at H
   have c5b0 : decide (a0_8 < a0_2) = true := decide_eq_true c5
   clear c5
   (first | rw [c5b0] | (simp only [i64_w, i32_w]; rw [c5b0]) | skip)
   have H' := zab.mk H
   clear H
   have hcz6_0 : w4.cell? ⟨gb179, 0, none⟩ = some (.int .i64 a0_0) := (zaa BK179.o 0).trans rfl
   have hcz6_1 : w4.cell? ⟨gb179, 1, none⟩ = some (.slice A0_1 l0_1.length c0_1) := (zaa BK179.o 1).trans rfl
   have hcz6_2 : w4.cell? ⟨gb179, 2, none⟩ = some (.int .i64 a0_2) := (zaa BK179.o 2).trans rfl
   have hcz6_3 : w4.cell? ⟨gb179, 3, none⟩ = some (.int .i64 a0_3) := (zaa BK179.o 3).trans rfl
   have hcz6_4 : w4.cell? ⟨gb179, 4, none⟩ = some (.slice A0_4 l0_4.length c0_4) := (zaa BK179.o 4).trans rfl
   have hcz6_5 : w4.cell? ⟨gb179, 5, none⟩ = some (.int .i64 a0_5) := (zaa BK179.o 5).trans rfl
   have hcz6_6 : w4.cell? ⟨gb179, 6, none⟩ = some (.string a0_6) := (zaa BK179.o 6).trans rfl
   have hcz6_7 : w4.cell? ⟨gb179, 7, none⟩ = some (.string a0_7) := (zaa BK179.o 7).trans rfl
   have hcz6_8 : w4.cell? ⟨gb179, 8, none⟩ = some (.int .i64 a0_8) := (zaa BK179.o 8).trans rfl
   have hcz6_9 : w4.cell? ⟨gb179, 9, none⟩ = some (.int .i64 a0_9) := (zaa BK179.o 9).trans rfl
   have hcz6_10 : w4.cell? ⟨gb179, 10, none⟩ = some (.slice A0_10 l0_10.length c0_10) := (zaa BK179.o 10).trans rfl
   have hfz6_0 := zac BK179.o 0
   have hfz6_1 := zac BK179.o 1
   have hfz6_2 := zac BK179.o 2
   have hfz6_3 := zac BK179.o 3
   have hfz6_4 := zac BK179.o 4
   have hfz6_5 := zac BK179.o 5
   have hfz6_6 := zac BK179.o 6
   have hfz6_7 := zac BK179.o 7
   have hfz6_8 := zac BK179.o 8
   have hfz6_9 := zac BK179.o 9
   have hfz6_10 := zac BK179.o 10
   go_wp2
   go_meet
   case rel => exact ⟨_, (true), (by first | rfl | (simp; done) | (simp [*]; done)), H', ⟨by first | omega | exact Nat.le_refl _⟩, ⟨by (with_reducible repeat (first | refine zaj ?_ _ | refine zah ?_ | refine zai ?_ _)); exact BK179.o⟩, ⟨by repeat (first | (with_reducible first | exact HB.o | apply zad | apply zaf | apply zae | refine zag ?_ GE179.o) | exact HB.o)⟩⟩
  ·rw [if_neg c5] at H
   have c5b0 : decide (a0_8 < a0_2) = false := decide_eq_false c5
   clear c5
   (first | rw [c5b0] | (simp only [i64_w, i32_w]; rw [c5b0]) | skip)
   replace H := Option.bind_eq_some_iff.mp H
   obtain ⟨t180, A70, H⟩ := H
   replace H : (if t180 = true then (posmap_place_unwrap.j0 k a0_2 a0_3 (a0_8 == a0_2) a0_0 l0_1 a0_2 a0_3 l0_4 a0_5 a0_6 a0_7 a0_8 a0_9 l0_10) else (posmap_place_unwrap.j0 k a0_2 a0_3 false a0_0 l0_1 a0_2 a0_3 l0_4 a0_5 a0_6 a0_7 a0_8 a0_9 l0_10)) = some r := H
   have A7 := zab.mk A70
   clear A70
   by_cases c8 : t180 = true
   ·subst c8
    have H1 : (posmap_place_unwrap.j0 k a0_2 a0_3 (a0_8 == a0_2) a0_0 l0_1 a0_2 a0_3 l0_4 a0_5 a0_6 a0_7 a0_8 a0_9 l0_10) = some r := by rw [if_pos rfl] at H; exact H
    clear H
    have H := H1
    clear H1
    have H' := zab.mk H
    clear H
    have hcz9_0 : w4.cell? ⟨gb179, 0, none⟩ = some (.int .i64 a0_0) := (zaa BK179.o 0).trans rfl
    have hcz9_1 : w4.cell? ⟨gb179, 1, none⟩ = some (.slice A0_1 l0_1.length c0_1) := (zaa BK179.o 1).trans rfl
    have hcz9_2 : w4.cell? ⟨gb179, 2, none⟩ = some (.int .i64 a0_2) := (zaa BK179.o 2).trans rfl
    have hcz9_3 : w4.cell? ⟨gb179, 3, none⟩ = some (.int .i64 a0_3) := (zaa BK179.o 3).trans rfl
    have hcz9_4 : w4.cell? ⟨gb179, 4, none⟩ = some (.slice A0_4 l0_4.length c0_4) := (zaa BK179.o 4).trans rfl
    have hcz9_5 : w4.cell? ⟨gb179, 5, none⟩ = some (.int .i64 a0_5) := (zaa BK179.o 5).trans rfl
    have hcz9_6 : w4.cell? ⟨gb179, 6, none⟩ = some (.string a0_6) := (zaa BK179.o 6).trans rfl
    have hcz9_7 : w4.cell? ⟨gb179, 7, none⟩ = some (.string a0_7) := (zaa BK179.o 7).trans rfl
    have hcz9_8 : w4.cell? ⟨gb179, 8, none⟩ = some (.int .i64 a0_8) := (zaa BK179.o 8).trans rfl
    have hcz9_9 : w4.cell? ⟨gb179, 9, none⟩ = some (.int .i64 a0_9) := (zaa BK179.o 9).trans rfl
    have hcz9_10 : w4.cell? ⟨gb179, 10, none⟩ = some (.slice A0_10 l0_10.length c0_10) := (zaa BK179.o 10).trans rfl
    have hfz9_0 := zac BK179.o 0
    have hfz9_1 := zac BK179.o 1
    have hfz9_2 := zac BK179.o 2
    have hfz9_3 := zac BK179.o 3
    have hfz9_4 := zac BK179.o 4
    have hfz9_5 := zac BK179.o 5
    have hfz9_6 := zac BK179.o 6
    have hfz9_7 := zac BK179.o 7
    have hfz9_8 := zac BK179.o 8
    have hfz9_9 := zac BK179.o 9
    have hfz9_10 := zac BK179.o 10
    go_wp2_with (first | (go_at_call 48; (with_reducible refine (posmap_place_offset.calls a0_0 _ _ l0_1 a0_2 a0_3 _ _ l0_4 a0_5 a0_6 a0_7 a0_8 a0_9 _ _ l0_10 true _ ?side1 ?side2 ?side3 ?side4 ?side5 ?side6 A7.o).mono ?_); (case side1 => repeat (first | exact (Kd.C_below HR0_1.o HB.o) | (with_reducible first | refine Kd.C_alloc ?_ _ | refine Kd.C_drewN ?_ _ | refine Kd.C_drew ?_))); (case side2 => exact HC0_1.out); (case side3 => repeat (first | exact (Kd.C_below HR0_4.o HB.o) | (with_reducible first | refine Kd.C_alloc ?_ _ | refine Kd.C_drewN ?_ _ | refine Kd.C_drew ?_))); (case side4 => exact HC0_4.out); (case side5 => repeat (first | exact (Kd.C_below HR0_10.o HB.o) | (with_reducible first | refine Kd.C_alloc ?_ _ | refine Kd.C_drewN ?_ _ | refine Kd.C_drew ?_))); (case side6 => exact HC0_10.out); rintro e w10 ⟨rfl, hb⟩; have n0_ := zab.mk (zam (by (with_reducible repeat (first | refine zaj ?_ _ | refine zah ?_ | refine zai ?_ _)); exact BK179.o) hb); have n1_ := zab.mk (zal (by repeat (first | (with_reducible first | exact HB.o | apply zad | apply zaf | apply zae | refine zag ?_ GE179.o) | exact HB.o)) hb); clear BK179; clear HB; have BK179 := n0_; have HB := n1_; clear n0_ n1_; (try clear hb); (try clear hb2); (try clear hk); (try clear hi); obtain ⟨hcz11_0, hcz11_1, hcz11_2, hcz11_3, hcz11_4, hcz11_5, hcz11_6, hcz11_7, hcz11_8, hcz11_9, hcz11_10⟩ := cz11 BK179.o; obtain ⟨hfz11_0, hfz11_1, hfz11_2, hfz11_3, hfz11_4, hfz11_5, hfz11_6, hfz11_7, hfz11_8, hfz11_9, hfz11_10⟩ := fz11 BK179.o))
    go_meet
    case rel => exact ⟨_, ((a0_8 == a0_2)), (by first | rfl | (simp; done) | (simp [*]; done)), H', ⟨by first | omega | exact Nat.le_refl _⟩, ⟨by (with_reducible repeat (first | refine zaj ?_ _ | refine zah ?_ | refine zai ?_ _)); exact BK179.o⟩, ⟨by repeat (first | (with_reducible first | exact HB.o | apply zad | apply zaf | apply zae | refine zag ?_ GE179.o) | exact HB.o)⟩⟩
   ·replace c8 := Bool.eq_false_iff.mpr c8
    subst c8
    have H1 : (posmap_place_unwrap.j0 k a0_2 a0_3 false a0_0 l0_1 a0_2 a0_3 l0_4 a0_5 a0_6 a0_7 a0_8 a0_9 l0_10) = some r := by rw [if_neg (show ¬ (false = true) by decide)] at H; exact H
    clear H
    have H := H1
    clear H1
    have H' := zab.mk H
    clear H
    have hcz12_0 : w4.cell? ⟨gb179, 0, none⟩ = some (.int .i64 a0_0) := (zaa BK179.o 0).trans rfl
    have hcz12_1 : w4.cell? ⟨gb179, 1, none⟩ = some (.slice A0_1 l0_1.length c0_1) := (zaa BK179.o 1).trans rfl
    have hcz12_2 : w4.cell? ⟨gb179, 2, none⟩ = some (.int .i64 a0_2) := (zaa BK179.o 2).trans rfl
    have hcz12_3 : w4.cell? ⟨gb179, 3, none⟩ = some (.int .i64 a0_3) := (zaa BK179.o 3).trans rfl
    have hcz12_4 : w4.cell? ⟨gb179, 4, none⟩ = some (.slice A0_4 l0_4.length c0_4) := (zaa BK179.o 4).trans rfl
    have hcz12_5 : w4.cell? ⟨gb179, 5, none⟩ = some (.int .i64 a0_5) := (zaa BK179.o 5).trans rfl
    have hcz12_6 : w4.cell? ⟨gb179, 6, none⟩ = some (.string a0_6) := (zaa BK179.o 6).trans rfl
    have hcz12_7 : w4.cell? ⟨gb179, 7, none⟩ = some (.string a0_7) := (zaa BK179.o 7).trans rfl
    have hcz12_8 : w4.cell? ⟨gb179, 8, none⟩ = some (.int .i64 a0_8) := (zaa BK179.o 8).trans rfl
    have hcz12_9 : w4.cell? ⟨gb179, 9, none⟩ = some (.int .i64 a0_9) := (zaa BK179.o 9).trans rfl
    have hcz12_10 : w4.cell? ⟨gb179, 10, none⟩ = some (.slice A0_10 l0_10.length c0_10) := (zaa BK179.o 10).trans rfl
    have hfz12_0 := zac BK179.o 0
    have hfz12_1 := zac BK179.o 1
    have hfz12_2 := zac BK179.o 2
    have hfz12_3 := zac BK179.o 3
    have hfz12_4 := zac BK179.o 4
    have hfz12_5 := zac BK179.o 5
    have hfz12_6 := zac BK179.o 6
    have hfz12_7 := zac BK179.o 7
    have hfz12_8 := zac BK179.o 8
    have hfz12_9 := zac BK179.o 9
    have hfz12_10 := zac BK179.o 10
    go_wp2_with (first | (go_at_call 48; (with_reducible refine (posmap_place_offset.calls a0_0 _ _ l0_1 a0_2 a0_3 _ _ l0_4 a0_5 a0_6 a0_7 a0_8 a0_9 _ _ l0_10 false _ ?side1 ?side2 ?side3 ?side4 ?side5 ?side6 A7.o).mono ?_); (case side1 => repeat (first | exact (Kd.C_below HR0_1.o HB.o) | (with_reducible first | refine Kd.C_alloc ?_ _ | refine Kd.C_drewN ?_ _ | refine Kd.C_drew ?_))); (case side2 => exact HC0_1.out); (case side3 => repeat (first | exact (Kd.C_below HR0_4.o HB.o) | (with_reducible first | refine Kd.C_alloc ?_ _ | refine Kd.C_drewN ?_ _ | refine Kd.C_drew ?_))); (case side4 => exact HC0_4.out); (case side5 => repeat (first | exact (Kd.C_below HR0_10.o HB.o) | (with_reducible first | refine Kd.C_alloc ?_ _ | refine Kd.C_drewN ?_ _ | refine Kd.C_drew ?_))); (case side6 => exact HC0_10.out); rintro e w13 ⟨rfl, hb⟩; have n0_ := zab.mk (zam (by (with_reducible repeat (first | refine zaj ?_ _ | refine zah ?_ | refine zai ?_ _)); exact BK179.o) hb); have n1_ := zab.mk (zal (by repeat (first | (with_reducible first | exact HB.o | apply zad | apply zaf | apply zae | refine zag ?_ GE179.o) | exact HB.o)) hb); clear BK179; clear HB; have BK179 := n0_; have HB := n1_; clear n0_ n1_; (try clear hb); (try clear hb2); (try clear hk); (try clear hi)))
    go_meet
    case rel => exact ⟨_, (false), (by first | rfl | (simp; done) | (simp [*]; done)), H', ⟨by first | omega | exact Nat.le_refl _⟩, ⟨by (with_reducible repeat (first | refine zaj ?_ _ | refine zah ?_ | refine zai ?_ _)); exact BK179.o⟩, ⟨by repeat (first | (with_reducible first | exact HB.o | apply zad | apply zaf | apply zae | refine zag ?_ GE179.o) | exact HB.o)⟩⟩
 case rest =>
  clear HC2
  try clear p2
  try clear c4
  try clear c5
  try clear c5b0
  try clear c8
  try clear hcz11_0
  try clear hcz11_1
  try clear hcz11_10
  try clear hcz11_2
  try clear hcz11_3
  try clear hcz11_4
  try clear hcz11_5
  try clear hcz11_6
  try clear hcz11_7
  try clear hcz11_8
  try clear hcz11_9
  try clear hcz12_0
  try clear hcz12_1
  try clear hcz12_10
  try clear hcz12_2
  try clear hcz12_3
  try clear hcz12_4
  try clear hcz12_5
  try clear hcz12_6
  try clear hcz12_7
  try clear hcz12_8
  try clear hcz12_9
  try clear hcz6_0
  try clear hcz6_1
  try clear hcz6_10
  try clear hcz6_2
  try clear hcz6_3
  try clear hcz6_4
  try clear hcz6_5
  try clear hcz6_6
  try clear hcz6_7
  try clear hcz6_8
  try clear hcz6_9
  try clear hcz9_0
  try clear hcz9_1
  try clear hcz9_10
  try clear hcz9_2
  try clear hcz9_3
  try clear hcz9_4
  try clear hcz9_5
  try clear hcz9_6
  try clear hcz9_7
  try clear hcz9_8
  try clear hcz9_9
  try clear hfz11_0
  try clear hfz11_1
  try clear hfz11_10
  try clear hfz11_2
  try clear hfz11_3
  try clear hfz11_4
  try clear hfz11_5
  try clear hfz11_6
  try clear hfz11_7
  try clear hfz11_8
  try clear hfz11_9
  try clear hfz12_0
  try clear hfz12_1
  try clear hfz12_10
  try clear hfz12_2
  try clear hfz12_3
  try clear hfz12_4
  try clear hfz12_5
  try clear hfz12_6
  try clear hfz12_7
  try clear hfz12_8
  try clear hfz12_9
  try clear hfz6_0
  try clear hfz6_1
  try clear hfz6_10
  try clear hfz6_2
  try clear hfz6_3
  try clear hfz6_4
  try clear hfz6_5
  try clear hfz6_6
  try clear hfz6_7
  try clear hfz6_8
  try clear hfz6_9
  try clear hfz9_0
  try clear hfz9_1
  try clear hfz9_10
  try clear hfz9_2
  try clear hfz9_3
  try clear hfz9_4
  try clear hfz9_5
  try clear hfz9_6
  try clear hfz9_7
  try clear hfz9_8
  try clear hfz9_9
  obtain ⟨kq, x11_1, rfl, HA, HJ1, BK179, HB⟩ := hcut
  cases kq with
  | zero => exact absurd HA.o (by simp [posmap_place_unwrap.j0])
  | succ kj1 =>
   have H := HA.o
   clear HA
   simp only [posmap_place_unwrap.j0] at H
   by_cases c14 : x11_1 = true
   ·subst c14
    have H1 : ((posmap_place_moved.f a0_0 l0_1 a0_2 a0_3 l0_4 a0_5 a0_6 a0_7 a0_8 a0_9 l0_10 0).bind fun t181 => (some t181)) = some r := by rw [if_pos rfl] at H; exact H
    clear H
    have H := H1
    clear H1
    replace H := Option.bind_eq_some_iff.mp H
    obtain ⟨t181, A150, H⟩ := H
    replace H : (some t181) = some r := H
    have A15 := zab.mk A150
    clear A150
    obtain rfl := Option.some.inj H
    have hcz16_0 : wc.cell? ⟨gb179, 0, none⟩ = some (.int .i64 a0_0) := (zaa BK179.o 0).trans rfl
    have hcz16_1 : wc.cell? ⟨gb179, 1, none⟩ = some (.slice A0_1 l0_1.length c0_1) := (zaa BK179.o 1).trans rfl
    have hcz16_2 : wc.cell? ⟨gb179, 2, none⟩ = some (.int .i64 a0_2) := (zaa BK179.o 2).trans rfl
    have hcz16_3 : wc.cell? ⟨gb179, 3, none⟩ = some (.int .i64 a0_3) := (zaa BK179.o 3).trans rfl
    have hcz16_4 : wc.cell? ⟨gb179, 4, none⟩ = some (.slice A0_4 l0_4.length c0_4) := (zaa BK179.o 4).trans rfl
    have hcz16_5 : wc.cell? ⟨gb179, 5, none⟩ = some (.int .i64 a0_5) := (zaa BK179.o 5).trans rfl
    have hcz16_6 : wc.cell? ⟨gb179, 6, none⟩ = some (.string a0_6) := (zaa BK179.o 6).trans rfl
    have hcz16_7 : wc.cell? ⟨gb179, 7, none⟩ = some (.string a0_7) := (zaa BK179.o 7).trans rfl
    have hcz16_8 : wc.cell? ⟨gb179, 8, none⟩ = some (.int .i64 a0_8) := (zaa BK179.o 8).trans rfl
    have hcz16_9 : wc.cell? ⟨gb179, 9, none⟩ = some (.int .i64 a0_9) := (zaa BK179.o 9).trans rfl
    have hcz16_10 : wc.cell? ⟨gb179, 10, none⟩ = some (.slice A0_10 l0_10.length c0_10) := (zaa BK179.o 10).trans rfl
    have hfz16_0 := zac BK179.o 0
    have hfz16_1 := zac BK179.o 1
    have hfz16_2 := zac BK179.o 2
    have hfz16_3 := zac BK179.o 3
    have hfz16_4 := zac BK179.o 4
    have hfz16_5 := zac BK179.o 5
    have hfz16_6 := zac BK179.o 6
    have hfz16_7 := zac BK179.o 7
    have hfz16_8 := zac BK179.o 8
    have hfz16_9 := zac BK179.o 9
    have hfz16_10 := zac BK179.o 10
    go_wp2_with (first | ((with_reducible refine zax (f := 61) rfl ?_); refine zay (some 27) rfl rfl Try.func61 (by kernel_rfl) rfl #[.agg #[.int .i64 a0_0, .slice A0_1 l0_1.length c0_1, .int .i64 a0_2, .int .i64 a0_3, .slice A0_4 l0_4.length c0_4, .int .i64 a0_5, .string a0_6, .string a0_7, .int .i64 a0_8, .int .i64 a0_9, .slice A0_10 l0_10.length c0_10], .int .i64 0] rfl (by (try simp only [List.map_toArray, List.map_cons, List.map_nil]); first | done | rfl | (simp only [List.length_drop, List.length_take]; rfl)) ?_; (with_reducible refine (posmap_place_moved.calls a0_0 _ _ l0_1 a0_2 a0_3 _ _ l0_4 a0_5 a0_6 a0_7 a0_8 a0_9 _ _ l0_10 0 t181 _ ?side1 ?side2 ?side3 ?side4 ?side5 ?side6 A15.o).mono ?_); (case side1 => repeat (first | exact (Kd.C_below HR0_1.o HB.o) | (with_reducible first | refine Kd.C_alloc ?_ _ | refine Kd.C_drewN ?_ _ | refine Kd.C_drew ?_))); (case side2 => exact HC0_1.out); (case side3 => repeat (first | exact (Kd.C_below HR0_4.o HB.o) | (with_reducible first | refine Kd.C_alloc ?_ _ | refine Kd.C_drewN ?_ _ | refine Kd.C_drew ?_))); (case side4 => exact HC0_4.out); (case side5 => repeat (first | exact (Kd.C_below HR0_10.o HB.o) | (with_reducible first | refine Kd.C_alloc ?_ _ | refine Kd.C_drewN ?_ _ | refine Kd.C_drew ?_))); (case side6 => exact HC0_10.out); rintro e w17 ⟨v182, rfl, ho0, hb⟩; refine ⟨_, rfl, ?_⟩; have n0_ := zab.mk (Kd.R_lower ho0 (zak (by repeat (first | (with_reducible first | exact HB.o | apply zad | apply zaf | apply zae | refine zag ?_ GE179.o) | exact HB.o)))); have n1_ := zab.mk (zam (by (with_reducible repeat (first | refine zaj ?_ _ | refine zah ?_ | refine zai ?_ _)); exact BK179.o) hb); have n2_ := zab.mk (zal (by repeat (first | (with_reducible first | exact HB.o | apply zad | apply zaf | apply zae | refine zag ?_ GE179.o) | exact HB.o)) hb); clear BK179; clear HB; have HO183 := n0_; have BK179 := n1_; have HB := n2_; clear n0_ n1_ n2_; (try clear hb); (try clear hb2); (try clear hk); (try clear hi); (try clear ho0)))
    go_ret
    exact ⟨_, by first | rfl | (simp [errW_none, errW_some] <;> rfl) | (simp [*, errW_none, errW_some] <;> rfl), by (with_reducible repeat (first | apply Kd.R_alloc | apply Kd.R_drewN | apply Kd.R_drew)); exact HO183.o, by repeat (first | (with_reducible first | exact HB.o | apply zad | apply zaf | apply zae | refine zag ?_ GE179.o) | exact HB.o)⟩
   ·replace c14 := Bool.eq_false_iff.mpr c14
    subst c14
    have H1 : ((posmap_place_offset.f a0_0 l0_1 a0_2 a0_3 l0_4 a0_5 a0_6 a0_7 a0_8 a0_9 l0_10).bind fun t184 => (if t184 = true then (posmap_place_unwrap.j1 kj1 a0_2 a0_3 true a0_0 l0_1 a0_2 a0_3 l0_4 a0_5 a0_6 a0_7 a0_8 a0_9 l0_10) else (posmap_place_unwrap.j1 kj1 a0_2 a0_3 (decide (a0_8 > a0_2)) a0_0 l0_1 a0_2 a0_3 l0_4 a0_5 a0_6 a0_7 a0_8 a0_9 l0_10))) = some r := by rw [if_neg (show ¬ (false = true) by decide)] at H; exact H
    clear H
    have H := H1
    clear H1
    have HC18 := zab.mk H
    clear H
    go_upto_region 4 with (fail)
    go_cut [28] (fun v28 wc => ∃ (kq : Nat) (x28_17 : Bool), v28 = .bool x28_17 ∧ zab (posmap_place_unwrap.j1 kq a0_2 a0_3 x28_17 a0_0 l0_1 a0_2 a0_3 l0_4 a0_5 a0_6 a0_7 a0_8 a0_9 l0_10 = some r) ∧ zab (kq ≤ kj1) ∧ zab (wc.heap[gb179]? = some (.cells #[.int .i64 a0_0, (.slice A0_1 l0_1.length c0_1), .int .i64 a0_2, .int .i64 a0_3, (.slice A0_4 l0_4.length c0_4), .int .i64 a0_5, .string a0_6, .string a0_7, .int .i64 a0_8, .int .i64 a0_9, (.slice A0_10 l0_10.length c0_10)] 65 (0, 0))) ∧ zab (Below w.heap.size w wc))
    case first =>
     have H := HC18.out
     clear HC18
     replace H := Option.bind_eq_some_iff.mp H
     obtain ⟨t184, A190, H⟩ := H
     replace H : (if t184 = true then (posmap_place_unwrap.j1 kj1 a0_2 a0_3 true a0_0 l0_1 a0_2 a0_3 l0_4 a0_5 a0_6 a0_7 a0_8 a0_9 l0_10) else (posmap_place_unwrap.j1 kj1 a0_2 a0_3 (decide (a0_8 > a0_2)) a0_0 l0_1 a0_2 a0_3 l0_4 a0_5 a0_6 a0_7 a0_8 a0_9 l0_10)) = some r := H
     have A19 := zab.mk A190
     clear A190
     by_cases c20 : t184 = true
     ·subst c20
      have H1 : (posmap_place_unwrap.j1 kj1 a0_2 a0_3 true a0_0 l0_1 a0_2 a0_3 l0_4 a0_5 a0_6 a0_7 a0_8 a0_9 l0_10) = some r := by rw [if_pos rfl] at H; exact H
      clear H
      have H := H1
      clear H1
      have H' := zab.mk H
      clear H
      have hcz21_0 : wc.cell? ⟨gb179, 0, none⟩ = some (.int .i64 a0_0) := (zaa BK179.o 0).trans rfl
      have hcz21_1 : wc.cell? ⟨gb179, 1, none⟩ = some (.slice A0_1 l0_1.length c0_1) := (zaa BK179.o 1).trans rfl
      have hcz21_2 : wc.cell? ⟨gb179, 2, none⟩ = some (.int .i64 a0_2) := (zaa BK179.o 2).trans rfl
      have hcz21_3 : wc.cell? ⟨gb179, 3, none⟩ = some (.int .i64 a0_3) := (zaa BK179.o 3).trans rfl
      have hcz21_4 : wc.cell? ⟨gb179, 4, none⟩ = some (.slice A0_4 l0_4.length c0_4) := (zaa BK179.o 4).trans rfl
      have hcz21_5 : wc.cell? ⟨gb179, 5, none⟩ = some (.int .i64 a0_5) := (zaa BK179.o 5).trans rfl
      have hcz21_6 : wc.cell? ⟨gb179, 6, none⟩ = some (.string a0_6) := (zaa BK179.o 6).trans rfl
      have hcz21_7 : wc.cell? ⟨gb179, 7, none⟩ = some (.string a0_7) := (zaa BK179.o 7).trans rfl
      have hcz21_8 : wc.cell? ⟨gb179, 8, none⟩ = some (.int .i64 a0_8) := (zaa BK179.o 8).trans rfl
      have hcz21_9 : wc.cell? ⟨gb179, 9, none⟩ = some (.int .i64 a0_9) := (zaa BK179.o 9).trans rfl
      have hcz21_10 : wc.cell? ⟨gb179, 10, none⟩ = some (.slice A0_10 l0_10.length c0_10) := (zaa BK179.o 10).trans rfl
      have hfz21_0 := zac BK179.o 0
      have hfz21_1 := zac BK179.o 1
      have hfz21_2 := zac BK179.o 2
      have hfz21_3 := zac BK179.o 3
      have hfz21_4 := zac BK179.o 4
      have hfz21_5 := zac BK179.o 5
      have hfz21_6 := zac BK179.o 6
      have hfz21_7 := zac BK179.o 7
      have hfz21_8 := zac BK179.o 8
      have hfz21_9 := zac BK179.o 9
      have hfz21_10 := zac BK179.o 10
      go_wp2_with (first | ((with_reducible refine zax (f := 48) rfl ?_); refine zay (some 30) rfl rfl Try.func48 (by kernel_rfl) rfl #[.agg #[.int .i64 a0_0, .slice A0_1 l0_1.length c0_1, .int .i64 a0_2, .int .i64 a0_3, .slice A0_4 l0_4.length c0_4, .int .i64 a0_5, .string a0_6, .string a0_7, .int .i64 a0_8, .int .i64 a0_9, .slice A0_10 l0_10.length c0_10]] rfl (by (try simp only [List.map_toArray, List.map_cons, List.map_nil]); first | done | rfl | (simp only [List.length_drop, List.length_take]; rfl)) ?_; (with_reducible refine (posmap_place_offset.calls a0_0 _ _ l0_1 a0_2 a0_3 _ _ l0_4 a0_5 a0_6 a0_7 a0_8 a0_9 _ _ l0_10 true _ ?side1 ?side2 ?side3 ?side4 ?side5 ?side6 A19.o).mono ?_); (case side1 => repeat (first | exact (Kd.C_below HR0_1.o HB.o) | (with_reducible first | refine Kd.C_alloc ?_ _ | refine Kd.C_drewN ?_ _ | refine Kd.C_drew ?_))); (case side2 => exact HC0_1.out); (case side3 => repeat (first | exact (Kd.C_below HR0_4.o HB.o) | (with_reducible first | refine Kd.C_alloc ?_ _ | refine Kd.C_drewN ?_ _ | refine Kd.C_drew ?_))); (case side4 => exact HC0_4.out); (case side5 => repeat (first | exact (Kd.C_below HR0_10.o HB.o) | (with_reducible first | refine Kd.C_alloc ?_ _ | refine Kd.C_drewN ?_ _ | refine Kd.C_drew ?_))); (case side6 => exact HC0_10.out); rintro e w22 ⟨rfl, hb⟩; refine ⟨_, rfl, ?_⟩; have n0_ := zab.mk (zam (by (with_reducible repeat (first | refine zaj ?_ _ | refine zah ?_ | refine zai ?_ _)); exact BK179.o) hb); have n1_ := zab.mk (zal (by repeat (first | (with_reducible first | exact HB.o | apply zad | apply zaf | apply zae | refine zag ?_ GE179.o) | exact HB.o)) hb); clear BK179; clear HB; have BK179 := n0_; have HB := n1_; clear n0_ n1_; (try clear hb); (try clear hb2); (try clear hk); (try clear hi)))
      go_meet
      case rel => exact ⟨_, (true), (by first | rfl | (simp; done) | (simp [*]; done)), H', ⟨by have := HJ1.out; first | omega | exact Nat.le_refl _⟩, ⟨by (with_reducible repeat (first | refine zaj ?_ _ | refine zah ?_ | refine zai ?_ _)); exact BK179.o⟩, ⟨by repeat (first | (with_reducible first | exact HB.o | apply zad | apply zaf | apply zae | refine zag ?_ GE179.o) | exact HB.o)⟩⟩
     ·replace c20 := Bool.eq_false_iff.mpr c20
      subst c20
      have H1 : (posmap_place_unwrap.j1 kj1 a0_2 a0_3 (decide (a0_8 > a0_2)) a0_0 l0_1 a0_2 a0_3 l0_4 a0_5 a0_6 a0_7 a0_8 a0_9 l0_10) = some r := by rw [if_neg (show ¬ (false = true) by decide)] at H; exact H
      clear H
      have H := H1
      clear H1
      have H' := zab.mk H
      clear H
      have hcz23_0 : wc.cell? ⟨gb179, 0, none⟩ = some (.int .i64 a0_0) := (zaa BK179.o 0).trans rfl
      have hcz23_1 : wc.cell? ⟨gb179, 1, none⟩ = some (.slice A0_1 l0_1.length c0_1) := (zaa BK179.o 1).trans rfl
      have hcz23_2 : wc.cell? ⟨gb179, 2, none⟩ = some (.int .i64 a0_2) := (zaa BK179.o 2).trans rfl
      have hcz23_3 : wc.cell? ⟨gb179, 3, none⟩ = some (.int .i64 a0_3) := (zaa BK179.o 3).trans rfl
      have hcz23_4 : wc.cell? ⟨gb179, 4, none⟩ = some (.slice A0_4 l0_4.length c0_4) := (zaa BK179.o 4).trans rfl
      have hcz23_5 : wc.cell? ⟨gb179, 5, none⟩ = some (.int .i64 a0_5) := (zaa BK179.o 5).trans rfl
      have hcz23_6 : wc.cell? ⟨gb179, 6, none⟩ = some (.string a0_6) := (zaa BK179.o 6).trans rfl
      have hcz23_7 : wc.cell? ⟨gb179, 7, none⟩ = some (.string a0_7) := (zaa BK179.o 7).trans rfl
      have hcz23_8 : wc.cell? ⟨gb179, 8, none⟩ = some (.int .i64 a0_8) := (zaa BK179.o 8).trans rfl
      have hcz23_9 : wc.cell? ⟨gb179, 9, none⟩ = some (.int .i64 a0_9) := (zaa BK179.o 9).trans rfl
      have hcz23_10 : wc.cell? ⟨gb179, 10, none⟩ = some (.slice A0_10 l0_10.length c0_10) := (zaa BK179.o 10).trans rfl
      have hfz23_0 := zac BK179.o 0
      have hfz23_1 := zac BK179.o 1
      have hfz23_2 := zac BK179.o 2
      have hfz23_3 := zac BK179.o 3
      have hfz23_4 := zac BK179.o 4
      have hfz23_5 := zac BK179.o 5
      have hfz23_6 := zac BK179.o 6
      have hfz23_7 := zac BK179.o 7
      have hfz23_8 := zac BK179.o 8
      have hfz23_9 := zac BK179.o 9
      have hfz23_10 := zac BK179.o 10
      go_wp2_with (first | ((with_reducible refine zax (f := 48) rfl ?_); refine zay (some 30) rfl rfl Try.func48 (by kernel_rfl) rfl #[.agg #[.int .i64 a0_0, .slice A0_1 l0_1.length c0_1, .int .i64 a0_2, .int .i64 a0_3, .slice A0_4 l0_4.length c0_4, .int .i64 a0_5, .string a0_6, .string a0_7, .int .i64 a0_8, .int .i64 a0_9, .slice A0_10 l0_10.length c0_10]] rfl (by (try simp only [List.map_toArray, List.map_cons, List.map_nil]); first | done | rfl | (simp only [List.length_drop, List.length_take]; rfl)) ?_; (with_reducible refine (posmap_place_offset.calls a0_0 _ _ l0_1 a0_2 a0_3 _ _ l0_4 a0_5 a0_6 a0_7 a0_8 a0_9 _ _ l0_10 false _ ?side1 ?side2 ?side3 ?side4 ?side5 ?side6 A19.o).mono ?_); (case side1 => repeat (first | exact (Kd.C_below HR0_1.o HB.o) | (with_reducible first | refine Kd.C_alloc ?_ _ | refine Kd.C_drewN ?_ _ | refine Kd.C_drew ?_))); (case side2 => exact HC0_1.out); (case side3 => repeat (first | exact (Kd.C_below HR0_4.o HB.o) | (with_reducible first | refine Kd.C_alloc ?_ _ | refine Kd.C_drewN ?_ _ | refine Kd.C_drew ?_))); (case side4 => exact HC0_4.out); (case side5 => repeat (first | exact (Kd.C_below HR0_10.o HB.o) | (with_reducible first | refine Kd.C_alloc ?_ _ | refine Kd.C_drewN ?_ _ | refine Kd.C_drew ?_))); (case side6 => exact HC0_10.out); rintro e w24 ⟨rfl, hb⟩; refine ⟨_, rfl, ?_⟩; have n0_ := zab.mk (zam (by (with_reducible repeat (first | refine zaj ?_ _ | refine zah ?_ | refine zai ?_ _)); exact BK179.o) hb); have n1_ := zab.mk (zal (by repeat (first | (with_reducible first | exact HB.o | apply zad | apply zaf | apply zae | refine zag ?_ GE179.o) | exact HB.o)) hb); clear BK179; clear HB; have BK179 := n0_; have HB := n1_; clear n0_ n1_; (try clear hb); (try clear hb2); (try clear hk); (try clear hi); obtain ⟨hcz25_0, hcz25_1, hcz25_2, hcz25_3, hcz25_4, hcz25_5, hcz25_6, hcz25_7, hcz25_8, hcz25_9, hcz25_10⟩ := cz11 BK179.o; obtain ⟨hfz25_0, hfz25_1, hfz25_2, hfz25_3, hfz25_4, hfz25_5, hfz25_6, hfz25_7, hfz25_8, hfz25_9, hfz25_10⟩ := fz11 BK179.o))
      go_meet
      case rel => exact ⟨_, (decide (a0_8 > a0_2)), (by first | rfl | (simp; done) | (simp [*]; done)), H', ⟨by have := HJ1.out; first | omega | exact Nat.le_refl _⟩, ⟨by (with_reducible repeat (first | refine zaj ?_ _ | refine zah ?_ | refine zai ?_ _)); exact BK179.o⟩, ⟨by repeat (first | (with_reducible first | exact HB.o | apply zad | apply zaf | apply zae | refine zag ?_ GE179.o) | exact HB.o)⟩⟩
    case rest =>
     clear HC18
     try clear c1
     try clear c2
     try clear p2
     try clear c4
     try clear c5
     try clear c5b0
     try clear c6
     try clear c8
     try clear c14
     try clear c20
     try clear hcz11_0
     try clear hcz11_1
     try clear hcz11_10
     try clear hcz11_2
     try clear hcz11_3
     try clear hcz11_4
     try clear hcz11_5
     try clear hcz11_6
     try clear hcz11_7
     try clear hcz11_8
     try clear hcz11_9
     try clear hcz12_0
     try clear hcz12_1
     try clear hcz12_10
     try clear hcz12_2
     try clear hcz12_3
     try clear hcz12_4
     try clear hcz12_5
     try clear hcz12_6
     try clear hcz12_7
     try clear hcz12_8
     try clear hcz12_9
     try clear hcz16_0
     try clear hcz16_1
     try clear hcz16_10
     try clear hcz16_2
     try clear hcz16_3
     try clear hcz16_4
     try clear hcz16_5
     try clear hcz16_6
     try clear hcz16_7
     try clear hcz16_8
     try clear hcz16_9
     try clear hcz21_0
     try clear hcz21_1
     try clear hcz21_10
     try clear hcz21_2
     try clear hcz21_3
     try clear hcz21_4
     try clear hcz21_5
     try clear hcz21_6
     try clear hcz21_7
     try clear hcz21_8
     try clear hcz21_9
     try clear hcz23_0
     try clear hcz23_1
     try clear hcz23_10
     try clear hcz23_2
     try clear hcz23_3
     try clear hcz23_4
     try clear hcz23_5
     try clear hcz23_6
     try clear hcz23_7
     try clear hcz23_8
     try clear hcz23_9
     try clear hcz25_0
     try clear hcz25_1
     try clear hcz25_10
     try clear hcz25_2
     try clear hcz25_3
     try clear hcz25_4
     try clear hcz25_5
     try clear hcz25_6
     try clear hcz25_7
     try clear hcz25_8
     try clear hcz25_9
     try clear hcz6_0
     try clear hcz6_1
     try clear hcz6_10
     try clear hcz6_2
     try clear hcz6_3
     try clear hcz6_4
     try clear hcz6_5
     try clear hcz6_6
     try clear hcz6_7
     try clear hcz6_8
     try clear hcz6_9
     try clear hcz9_0
     try clear hcz9_1
     try clear hcz9_10
     try clear hcz9_2
     try clear hcz9_3
     try clear hcz9_4
     try clear hcz9_5
     try clear hcz9_6
     try clear hcz9_7
     try clear hcz9_8
     try clear hcz9_9
     try clear hfz11_0
     try clear hfz11_1
     try clear hfz11_10
     try clear hfz11_2
     try clear hfz11_3
     try clear hfz11_4
     try clear hfz11_5
     try clear hfz11_6
     try clear hfz11_7
     try clear hfz11_8
     try clear hfz11_9
     try clear hfz12_0
     try clear hfz12_1
     try clear hfz12_10
     try clear hfz12_2
     try clear hfz12_3
     try clear hfz12_4
     try clear hfz12_5
     try clear hfz12_6
     try clear hfz12_7
     try clear hfz12_8
     try clear hfz12_9
     try clear hfz16_0
     try clear hfz16_1
     try clear hfz16_10
     try clear hfz16_2
     try clear hfz16_3
     try clear hfz16_4
     try clear hfz16_5
     try clear hfz16_6
     try clear hfz16_7
     try clear hfz16_8
     try clear hfz16_9
     try clear hfz21_0
     try clear hfz21_1
     try clear hfz21_10
     try clear hfz21_2
     try clear hfz21_3
     try clear hfz21_4
     try clear hfz21_5
     try clear hfz21_6
     try clear hfz21_7
     try clear hfz21_8
     try clear hfz21_9
     try clear hfz23_0
     try clear hfz23_1
     try clear hfz23_10
     try clear hfz23_2
     try clear hfz23_3
     try clear hfz23_4
     try clear hfz23_5
     try clear hfz23_6
     try clear hfz23_7
     try clear hfz23_8
     try clear hfz23_9
     try clear hfz25_0
     try clear hfz25_1
     try clear hfz25_10
     try clear hfz25_2
     try clear hfz25_3
     try clear hfz25_4
     try clear hfz25_5
     try clear hfz25_6
     try clear hfz25_7
     try clear hfz25_8
     try clear hfz25_9
     try clear hfz6_0
     try clear hfz6_1
     try clear hfz6_10
     try clear hfz6_2
     try clear hfz6_3
     try clear hfz6_4
     try clear hfz6_5
     try clear hfz6_6
     try clear hfz6_7
     try clear hfz6_8
     try clear hfz6_9
     try clear hfz9_0
     try clear hfz9_1
     try clear hfz9_10
     try clear hfz9_2
     try clear hfz9_3
     try clear hfz9_4
     try clear hfz9_5
     try clear hfz9_6
     try clear hfz9_7
     try clear hfz9_8
     try clear hfz9_9
     try clear p2
     obtain ⟨kq, x28_17, rfl, HA, HJ17, BK179, HB⟩ := hcut
     cases kq with
     | zero => exact absurd HA.o (by simp [posmap_place_unwrap.j1])
     | succ kj17 =>
      have H := HA.o
      clear HA
      simp only [posmap_place_unwrap.j1] at H
      by_cases c26 : x28_17 = true
      ·subst c26
       have H1 : ((posmap_place_moved.f a0_0 l0_1 a0_2 a0_3 l0_4 a0_5 a0_6 a0_7 a0_8 a0_9 l0_10 (wrap64 (a0_3 - 1))).bind fun t185 => (some t185)) = some r := by rw [if_pos rfl] at H; exact H
       clear H
       have H := H1
       clear H1
       replace H := Option.bind_eq_some_iff.mp H
       obtain ⟨t185, A270, H⟩ := H
       replace H : (some t185) = some r := H
       have A27 := zab.mk A270
       clear A270
       obtain rfl := Option.some.inj H
       have hcz28_0 : wc.cell? ⟨gb179, 0, none⟩ = some (.int .i64 a0_0) := (zaa BK179.o 0).trans rfl
       have hcz28_1 : wc.cell? ⟨gb179, 1, none⟩ = some (.slice A0_1 l0_1.length c0_1) := (zaa BK179.o 1).trans rfl
       have hcz28_2 : wc.cell? ⟨gb179, 2, none⟩ = some (.int .i64 a0_2) := (zaa BK179.o 2).trans rfl
       have hcz28_3 : wc.cell? ⟨gb179, 3, none⟩ = some (.int .i64 a0_3) := (zaa BK179.o 3).trans rfl
       have hcz28_4 : wc.cell? ⟨gb179, 4, none⟩ = some (.slice A0_4 l0_4.length c0_4) := (zaa BK179.o 4).trans rfl
       have hcz28_5 : wc.cell? ⟨gb179, 5, none⟩ = some (.int .i64 a0_5) := (zaa BK179.o 5).trans rfl
       have hcz28_6 : wc.cell? ⟨gb179, 6, none⟩ = some (.string a0_6) := (zaa BK179.o 6).trans rfl
       have hcz28_7 : wc.cell? ⟨gb179, 7, none⟩ = some (.string a0_7) := (zaa BK179.o 7).trans rfl
       have hcz28_8 : wc.cell? ⟨gb179, 8, none⟩ = some (.int .i64 a0_8) := (zaa BK179.o 8).trans rfl
       have hcz28_9 : wc.cell? ⟨gb179, 9, none⟩ = some (.int .i64 a0_9) := (zaa BK179.o 9).trans rfl
       have hcz28_10 : wc.cell? ⟨gb179, 10, none⟩ = some (.slice A0_10 l0_10.length c0_10) := (zaa BK179.o 10).trans rfl
       have hfz28_0 := zac BK179.o 0
       have hfz28_1 := zac BK179.o 1
       have hfz28_2 := zac BK179.o 2
       have hfz28_3 := zac BK179.o 3
       have hfz28_4 := zac BK179.o 4
       have hfz28_5 := zac BK179.o 5
       have hfz28_6 := zac BK179.o 6
       have hfz28_7 := zac BK179.o 7
       have hfz28_8 := zac BK179.o 8
       have hfz28_9 := zac BK179.o 9
       have hfz28_10 := zac BK179.o 10
       go_wp2_with (first | ((with_reducible refine zax (f := 61) rfl ?_); refine zay (some 40) rfl rfl Try.func61 (by kernel_rfl) rfl #[.agg #[.int .i64 a0_0, .slice A0_1 l0_1.length c0_1, .int .i64 a0_2, .int .i64 a0_3, .slice A0_4 l0_4.length c0_4, .int .i64 a0_5, .string a0_6, .string a0_7, .int .i64 a0_8, .int .i64 a0_9, .slice A0_10 l0_10.length c0_10], .int .i64 (wrap64 (a0_3 - 1))] rfl (by (try simp only [List.map_toArray, List.map_cons, List.map_nil]); first | done | rfl | (simp only [List.length_drop, List.length_take]; rfl)) ?_; (with_reducible refine (posmap_place_moved.calls a0_0 _ _ l0_1 a0_2 a0_3 _ _ l0_4 a0_5 a0_6 a0_7 a0_8 a0_9 _ _ l0_10 (wrap64 (a0_3 - 1)) t185 _ ?side1 ?side2 ?side3 ?side4 ?side5 ?side6 A27.o).mono ?_); (case side1 => repeat (first | exact (Kd.C_below HR0_1.o HB.o) | (with_reducible first | refine Kd.C_alloc ?_ _ | refine Kd.C_drewN ?_ _ | refine Kd.C_drew ?_))); (case side2 => exact HC0_1.out); (case side3 => repeat (first | exact (Kd.C_below HR0_4.o HB.o) | (with_reducible first | refine Kd.C_alloc ?_ _ | refine Kd.C_drewN ?_ _ | refine Kd.C_drew ?_))); (case side4 => exact HC0_4.out); (case side5 => repeat (first | exact (Kd.C_below HR0_10.o HB.o) | (with_reducible first | refine Kd.C_alloc ?_ _ | refine Kd.C_drewN ?_ _ | refine Kd.C_drew ?_))); (case side6 => exact HC0_10.out); rintro e w29 ⟨v186, rfl, ho0, hb⟩; refine ⟨_, rfl, ?_⟩; have n0_ := zab.mk (Kd.R_lower ho0 (zak (by repeat (first | (with_reducible first | exact HB.o | apply zad | apply zaf | apply zae | refine zag ?_ GE179.o) | exact HB.o)))); have n1_ := zab.mk (zam (by (with_reducible repeat (first | refine zaj ?_ _ | refine zah ?_ | refine zai ?_ _)); exact BK179.o) hb); have n2_ := zab.mk (zal (by repeat (first | (with_reducible first | exact HB.o | apply zad | apply zaf | apply zae | refine zag ?_ GE179.o) | exact HB.o)) hb); clear BK179; clear HB; have HO187 := n0_; have BK179 := n1_; have HB := n2_; clear n0_ n1_ n2_; (try clear hb); (try clear hb2); (try clear hk); (try clear hi); (try clear ho0)))
       go_ret
       exact ⟨_, by first | rfl | (simp [errW_none, errW_some] <;> rfl) | (simp [*, errW_none, errW_some] <;> rfl), by (with_reducible repeat (first | apply Kd.R_alloc | apply Kd.R_drewN | apply Kd.R_drew)); exact HO187.o, by repeat (first | (with_reducible first | exact HB.o | apply zad | apply zaf | apply zae | refine zag ?_ GE179.o) | exact HB.o)⟩
      ·replace c26 := Bool.eq_false_iff.mpr c26
       subst c26
       have H1 : (if a0_9 < a0_5 then ((posmap_place_at.f a0_0 l0_1 a0_2 a0_3 l0_4 a0_5 a0_6 a0_7 a0_8 a0_9 l0_10 a0_2).bind fun t188 => (some t188)) else (if a0_9 > a0_5 then ((posmap_place_at.f a0_0 l0_1 a0_2 a0_3 l0_4 a0_5 a0_6 a0_7 a0_8 a0_9 l0_10 (wrap64 (a0_2 + a0_3))).bind fun t191 => (some t191)) else (if 0 < (l0_10.length : Int) then ((posmap_place_at.f a0_0 l0_1 a0_2 a0_3 l0_4 a0_5 a0_6 a0_7 a0_8 a0_9 l0_10 (wrap64 (a0_2 + (rd l0_10 0)))).bind fun t195 => (if 1 ≤ (l0_10.length : Int) then (if t195.length + (l0_10.drop 1).length < 17592186044416 then (some (t195 ++ (l0_10.drop 1))) else (none)) else (none))) else (none)))) = some r := by rw [if_neg (show ¬ (false = true) by decide)] at H; exact H
       clear H
       have H := H1
       clear H1
       by_cases c30 : a0_9 < a0_5
       ·rw [if_pos c30] at H
        have c30b0 : decide (a0_9 < a0_5) = true := decide_eq_true c30
        clear c30
        replace H := Option.bind_eq_some_iff.mp H
        obtain ⟨t188, A310, H⟩ := H
        replace H : (some t188) = some r := H
        have A31 := zab.mk A310
        clear A310
        obtain rfl := Option.some.inj H
        have hcz32_0 : wc.cell? ⟨gb179, 0, none⟩ = some (.int .i64 a0_0) := (zaa BK179.o 0).trans rfl
        have hcz32_1 : wc.cell? ⟨gb179, 1, none⟩ = some (.slice A0_1 l0_1.length c0_1) := (zaa BK179.o 1).trans rfl
        have hcz32_2 : wc.cell? ⟨gb179, 2, none⟩ = some (.int .i64 a0_2) := (zaa BK179.o 2).trans rfl
        have hcz32_3 : wc.cell? ⟨gb179, 3, none⟩ = some (.int .i64 a0_3) := (zaa BK179.o 3).trans rfl
        have hcz32_4 : wc.cell? ⟨gb179, 4, none⟩ = some (.slice A0_4 l0_4.length c0_4) := (zaa BK179.o 4).trans rfl
        have hcz32_5 : wc.cell? ⟨gb179, 5, none⟩ = some (.int .i64 a0_5) := (zaa BK179.o 5).trans rfl
        have hcz32_6 : wc.cell? ⟨gb179, 6, none⟩ = some (.string a0_6) := (zaa BK179.o 6).trans rfl
        have hcz32_7 : wc.cell? ⟨gb179, 7, none⟩ = some (.string a0_7) := (zaa BK179.o 7).trans rfl
        have hcz32_8 : wc.cell? ⟨gb179, 8, none⟩ = some (.int .i64 a0_8) := (zaa BK179.o 8).trans rfl
        have hcz32_9 : wc.cell? ⟨gb179, 9, none⟩ = some (.int .i64 a0_9) := (zaa BK179.o 9).trans rfl
        have hcz32_10 : wc.cell? ⟨gb179, 10, none⟩ = some (.slice A0_10 l0_10.length c0_10) := (zaa BK179.o 10).trans rfl
        have hfz32_0 := zac BK179.o 0
        have hfz32_1 := zac BK179.o 1
        have hfz32_2 := zac BK179.o 2
        have hfz32_3 := zac BK179.o 3
        have hfz32_4 := zac BK179.o 4
        have hfz32_5 := zac BK179.o 5
        have hfz32_6 := zac BK179.o 6
        have hfz32_7 := zac BK179.o 7
        have hfz32_8 := zac BK179.o 8
        have hfz32_9 := zac BK179.o 9
        have hfz32_10 := zac BK179.o 10
        go_wp2_with (first | ((with_reducible refine zax (f := 62) rfl ?_); refine zay (some 50) rfl rfl Try.func62 (by kernel_rfl) rfl #[.agg #[.int .i64 a0_0, .slice A0_1 l0_1.length c0_1, .int .i64 a0_2, .int .i64 a0_3, .slice A0_4 l0_4.length c0_4, .int .i64 a0_5, .string a0_6, .string a0_7, .int .i64 a0_8, .int .i64 a0_9, .slice A0_10 l0_10.length c0_10], .int .i64 a0_2] rfl (by (try simp only [List.map_toArray, List.map_cons, List.map_nil]); first | done | rfl | (simp only [List.length_drop, List.length_take]; rfl)) ?_; (with_reducible refine (posmap_place_at.calls a0_0 _ _ l0_1 a0_2 a0_3 _ _ l0_4 a0_5 a0_6 a0_7 a0_8 a0_9 _ _ l0_10 a0_2 t188 _ ?side1 ?side2 ?side3 ?side4 ?side5 ?side6 A31.o).mono ?_); (case side1 => repeat (first | exact (Kd.C_below HR0_1.o HB.o) | (with_reducible first | refine Kd.C_alloc ?_ _ | refine Kd.C_drewN ?_ _ | refine Kd.C_drew ?_))); (case side2 => exact HC0_1.out); (case side3 => repeat (first | exact (Kd.C_below HR0_4.o HB.o) | (with_reducible first | refine Kd.C_alloc ?_ _ | refine Kd.C_drewN ?_ _ | refine Kd.C_drew ?_))); (case side4 => exact HC0_4.out); (case side5 => repeat (first | exact (Kd.C_below HR0_10.o HB.o) | (with_reducible first | refine Kd.C_alloc ?_ _ | refine Kd.C_drewN ?_ _ | refine Kd.C_drew ?_))); (case side6 => exact HC0_10.out); rintro e w33 ⟨v189, rfl, ho0, hb⟩; refine ⟨_, rfl, ?_⟩; have n0_ := zab.mk (Kd.R_lower ho0 (zak (by repeat (first | (with_reducible first | exact HB.o | apply zad | apply zaf | apply zae | refine zag ?_ GE179.o) | exact HB.o)))); have n1_ := zab.mk (zam (by (with_reducible repeat (first | refine zaj ?_ _ | refine zah ?_ | refine zai ?_ _)); exact BK179.o) hb); have n2_ := zab.mk (zal (by repeat (first | (with_reducible first | exact HB.o | apply zad | apply zaf | apply zae | refine zag ?_ GE179.o) | exact HB.o)) hb); clear BK179; clear HB; have HO190 := n0_; have BK179 := n1_; have HB := n2_; clear n0_ n1_ n2_; (try clear hb); (try clear hb2); (try clear hk); (try clear hi); (try clear ho0)))
        go_ret
        exact ⟨_, by first | rfl | (simp [errW_none, errW_some] <;> rfl) | (simp [*, errW_none, errW_some] <;> rfl), by (with_reducible repeat (first | apply Kd.R_alloc | apply Kd.R_drewN | apply Kd.R_drew)); exact HO190.o, by repeat (first | (with_reducible first | exact HB.o | apply zad | apply zaf | apply zae | refine zag ?_ GE179.o) | exact HB.o)⟩
       ·rw [if_neg c30] at H
        have c30b0 : decide (a0_9 < a0_5) = false := decide_eq_false c30
        clear c30
        by_cases c34 : a0_9 > a0_5
        ·rw [if_pos c34] at H
         have c34b0 : decide (a0_5 < a0_9) = true := decide_eq_true c34
         clear c34
         replace H := Option.bind_eq_some_iff.mp H
         obtain ⟨t191, A350, H⟩ := H
         replace H : (some t191) = some r := H
         have A35 := zab.mk A350
         clear A350
         obtain rfl := Option.some.inj H
         have hcz36_0 : wc.cell? ⟨gb179, 0, none⟩ = some (.int .i64 a0_0) := (zaa BK179.o 0).trans rfl
         have hcz36_1 : wc.cell? ⟨gb179, 1, none⟩ = some (.slice A0_1 l0_1.length c0_1) := (zaa BK179.o 1).trans rfl
         have hcz36_2 : wc.cell? ⟨gb179, 2, none⟩ = some (.int .i64 a0_2) := (zaa BK179.o 2).trans rfl
         have hcz36_3 : wc.cell? ⟨gb179, 3, none⟩ = some (.int .i64 a0_3) := (zaa BK179.o 3).trans rfl
         have hcz36_4 : wc.cell? ⟨gb179, 4, none⟩ = some (.slice A0_4 l0_4.length c0_4) := (zaa BK179.o 4).trans rfl
         have hcz36_5 : wc.cell? ⟨gb179, 5, none⟩ = some (.int .i64 a0_5) := (zaa BK179.o 5).trans rfl
         have hcz36_6 : wc.cell? ⟨gb179, 6, none⟩ = some (.string a0_6) := (zaa BK179.o 6).trans rfl
         have hcz36_7 : wc.cell? ⟨gb179, 7, none⟩ = some (.string a0_7) := (zaa BK179.o 7).trans rfl
         have hcz36_8 : wc.cell? ⟨gb179, 8, none⟩ = some (.int .i64 a0_8) := (zaa BK179.o 8).trans rfl
         have hcz36_9 : wc.cell? ⟨gb179, 9, none⟩ = some (.int .i64 a0_9) := (zaa BK179.o 9).trans rfl
         have hcz36_10 : wc.cell? ⟨gb179, 10, none⟩ = some (.slice A0_10 l0_10.length c0_10) := (zaa BK179.o 10).trans rfl
         have hfz36_0 := zac BK179.o 0
         have hfz36_1 := zac BK179.o 1
         have hfz36_2 := zac BK179.o 2
         have hfz36_3 := zac BK179.o 3
         have hfz36_4 := zac BK179.o 4
         have hfz36_5 := zac BK179.o 5
         have hfz36_6 := zac BK179.o 6
         have hfz36_7 := zac BK179.o 7
         have hfz36_8 := zac BK179.o 8
         have hfz36_9 := zac BK179.o 9
         have hfz36_10 := zac BK179.o 10
         go_wp2_with (first | ((with_reducible refine zax (f := 62) rfl ?_); refine zay (some 62) rfl rfl Try.func62 (by kernel_rfl) rfl #[.agg #[.int .i64 a0_0, .slice A0_1 l0_1.length c0_1, .int .i64 a0_2, .int .i64 a0_3, .slice A0_4 l0_4.length c0_4, .int .i64 a0_5, .string a0_6, .string a0_7, .int .i64 a0_8, .int .i64 a0_9, .slice A0_10 l0_10.length c0_10], .int .i64 (wrap64 (a0_2 + a0_3))] rfl (by (try simp only [List.map_toArray, List.map_cons, List.map_nil]); first | done | rfl | (simp only [List.length_drop, List.length_take]; rfl)) ?_; (with_reducible refine (posmap_place_at.calls a0_0 _ _ l0_1 a0_2 a0_3 _ _ l0_4 a0_5 a0_6 a0_7 a0_8 a0_9 _ _ l0_10 (wrap64 (a0_2 + a0_3)) t191 _ ?side1 ?side2 ?side3 ?side4 ?side5 ?side6 A35.o).mono ?_); (case side1 => repeat (first | exact (Kd.C_below HR0_1.o HB.o) | (with_reducible first | refine Kd.C_alloc ?_ _ | refine Kd.C_drewN ?_ _ | refine Kd.C_drew ?_))); (case side2 => exact HC0_1.out); (case side3 => repeat (first | exact (Kd.C_below HR0_4.o HB.o) | (with_reducible first | refine Kd.C_alloc ?_ _ | refine Kd.C_drewN ?_ _ | refine Kd.C_drew ?_))); (case side4 => exact HC0_4.out); (case side5 => repeat (first | exact (Kd.C_below HR0_10.o HB.o) | (with_reducible first | refine Kd.C_alloc ?_ _ | refine Kd.C_drewN ?_ _ | refine Kd.C_drew ?_))); (case side6 => exact HC0_10.out); rintro e w37 ⟨v192, rfl, ho0, hb⟩; refine ⟨_, rfl, ?_⟩; have n0_ := zab.mk (Kd.R_lower ho0 (zak (by repeat (first | (with_reducible first | exact HB.o | apply zad | apply zaf | apply zae | refine zag ?_ GE179.o) | exact HB.o)))); have n1_ := zab.mk (zam (by (with_reducible repeat (first | refine zaj ?_ _ | refine zah ?_ | refine zai ?_ _)); exact BK179.o) hb); have n2_ := zab.mk (zal (by repeat (first | (with_reducible first | exact HB.o | apply zad | apply zaf | apply zae | refine zag ?_ GE179.o) | exact HB.o)) hb); clear BK179; clear HB; have HO193 := n0_; have BK179 := n1_; have HB := n2_; clear n0_ n1_ n2_; (try clear hb); (try clear hb2); (try clear hk); (try clear hi); (try clear ho0)))
         go_ret
         exact ⟨_, by first | rfl | (simp [errW_none, errW_some] <;> rfl) | (simp [*, errW_none, errW_some] <;> rfl), by (with_reducible repeat (first | apply Kd.R_alloc | apply Kd.R_drewN | apply Kd.R_drew)); exact HO193.o, by repeat (first | (with_reducible first | exact HB.o | apply zad | apply zaf | apply zae | refine zag ?_ GE179.o) | exact HB.o)⟩
        ·rw [if_neg c34] at H
         have c34b0 : decide (a0_5 < a0_9) = false := decide_eq_false c34
         clear c34
         by_cases c38 : 0 < (l0_10.length : Int)
         ·rw [if_pos c38] at H
          have c38b0 : decide (0 < (l0_10.length : Int)) = true := decide_eq_true c38
          have c38b1 : decide (0 < l0_10.length) = true := decide_eq_true (by omega)
          clear c38
          replace H := Option.bind_eq_some_iff.mp H
          obtain ⟨t195, A390, H⟩ := H
          replace H : (if 1 ≤ (l0_10.length : Int) then (if t195.length + (l0_10.drop 1).length < 17592186044416 then (some (t195 ++ (l0_10.drop 1))) else (none)) else (none)) = some r := H
          have A39 := zab.mk A390
          clear A390
          by_cases c40 : 1 ≤ (l0_10.length : Int)
          ·rw [if_pos c40] at H
           have c40b0 := eq_true c40
           have c40b1 : decide (1 ≤ (l0_10.length : Int)) = true := decide_eq_true c40
           clear c40
           by_cases c41 : t195.length + (l0_10.drop 1).length < 17592186044416
           ·rw [if_pos c41] at H
            have LMc41 := zab.mk c41
            clear c41
            obtain ⟨y199, hy199⟩ : ∃ y_ : List Int, y_ = (t195 ++ (l0_10.drop 1)) := ⟨_, rfl⟩
            replace H : (some y199) = some r := by first | (rw [hy199]; with_reducible exact H) | (have H2_ := (Option.bind_some _ _).symm.trans H; rw [hy199]; with_reducible exact H2_) | (have H2_ := (Option.bind_some _ _).symm.trans H; with_reducible exact H2_) | with_reducible exact H | (rw [hy199]; exact H) | exact H
            have Ny199 := zab.mk hy199
            clear hy199
            obtain rfl := Option.some.inj H
            have hcz42_0 : wc.cell? ⟨gb179, 0, none⟩ = some (.int .i64 a0_0) := (zaa BK179.o 0).trans rfl
            have hcz42_1 : wc.cell? ⟨gb179, 1, none⟩ = some (.slice A0_1 l0_1.length c0_1) := (zaa BK179.o 1).trans rfl
            have hcz42_2 : wc.cell? ⟨gb179, 2, none⟩ = some (.int .i64 a0_2) := (zaa BK179.o 2).trans rfl
            have hcz42_3 : wc.cell? ⟨gb179, 3, none⟩ = some (.int .i64 a0_3) := (zaa BK179.o 3).trans rfl
            have hcz42_4 : wc.cell? ⟨gb179, 4, none⟩ = some (.slice A0_4 l0_4.length c0_4) := (zaa BK179.o 4).trans rfl
            have hcz42_5 : wc.cell? ⟨gb179, 5, none⟩ = some (.int .i64 a0_5) := (zaa BK179.o 5).trans rfl
            have hcz42_6 : wc.cell? ⟨gb179, 6, none⟩ = some (.string a0_6) := (zaa BK179.o 6).trans rfl
            have hcz42_7 : wc.cell? ⟨gb179, 7, none⟩ = some (.string a0_7) := (zaa BK179.o 7).trans rfl
            have hcz42_8 : wc.cell? ⟨gb179, 8, none⟩ = some (.int .i64 a0_8) := (zaa BK179.o 8).trans rfl
            have hcz42_9 : wc.cell? ⟨gb179, 9, none⟩ = some (.int .i64 a0_9) := (zaa BK179.o 9).trans rfl
            have hcz42_10 : wc.cell? ⟨gb179, 10, none⟩ = some (.slice A0_10 l0_10.length c0_10) := (zaa BK179.o 10).trans rfl
            have hfz42_0 := zac BK179.o 0
            have hfz42_1 := zac BK179.o 1
            have hfz42_2 := zac BK179.o 2
            have hfz42_3 := zac BK179.o 3
            have hfz42_4 := zac BK179.o 4
            have hfz42_5 := zac BK179.o 5
            have hfz42_6 := zac BK179.o 6
            have hfz42_7 := zac BK179.o 7
            have hfz42_8 := zac BK179.o 8
            have hfz42_9 := zac BK179.o 9
            have hfz42_10 := zac BK179.o 10
            try go_wp2
            have n0_ := zab.mk (zah BK179.o)
            have n1_ := zab.mk (zae HB.o)
            clear BK179
            clear HB
            have BK179 := n0_
            have HB := n1_
            clear n0_ n1_
            have p194 : 0 ≤ (0 : Int) := (by omega)
            have q194 : 0 < (l0_10.length : Int) := of_decide_eq_true (by first | (with_reducible assumption) | assumption)
            obtain ⟨ad194, e194, hx194_0⟩ := Kd.at_int HR0_10.o 0 p194 q194
            have hw194_0 := hx194_0
            (try rw [show ((0 : Int)).toNat = 0 from rfl] at hw194_0)
            (try rw [show 0 * 1 = 0 from rfl] at hw194_0)
            (try rw [Addr.add_zero'] at hw194_0)
            cases e194
            have qi194 : (0 < l0_10.length) = True := eq_true (by omega)
            (try rw [show ((0 : Int)).toNat = 0 from rfl] at hx194_0)
            (try rw [Addr.add_zero'] at hx194_0)
            replace hx194_0 := (HB.o.cell (World.block_lt_of_cell? w _ hx194_0)).trans hx194_0
            replace p194 := eq_true p194
            replace q194 := eq_true q194
            obtain ⟨i044, hi044, _, hsz44, _⟩ := info_parts info3
            obtain ⟨A44, hcut44, hA44, hC44⟩ := print_drop_of (P := Try.prog) (Value.int .i64) 0 25 3 .i64 Try.underlying25 hi044 hsz44 (some ad194) c0_10 l0_10 1 (by omega) (of_decide_eq_true (by first | (with_reducible assumption) | assumption)) HC0_10.out
            have HR198 := zab.mk (Kd.C_of_reads (h1 := fun _ => rfl) (hA44 _ (Kd.reads_of_C HR0_10.o)))
            have HC198 := zab.mk hC44
            clear hA44 hC44 hi044 hsz44
            refine zaN (n := 13) (S := fun w' => w'.cell? ⟨gb179, 0, none⟩ = some (.int .i64 a0_0) ∧ w'.cell? ⟨gb179, 1, none⟩ = some (.slice A0_1 l0_1.length c0_1) ∧ w'.cell? ⟨gb179, 2, none⟩ = some (.int .i64 a0_2) ∧ w'.cell? ⟨gb179, 3, none⟩ = some (.int .i64 a0_3) ∧ w'.cell? ⟨gb179, 4, none⟩ = some (.slice A0_4 l0_4.length c0_4) ∧ w'.cell? ⟨gb179, 5, none⟩ = some (.int .i64 a0_5) ∧ w'.cell? ⟨gb179, 6, none⟩ = some (.string a0_6) ∧ w'.cell? ⟨gb179, 7, none⟩ = some (.string a0_7) ∧ w'.cell? ⟨gb179, 8, none⟩ = some (.int .i64 a0_8) ∧ w'.cell? ⟨gb179, 9, none⟩ = some (.int .i64 a0_9) ∧ w'.cell? ⟨gb179, 10, none⟩ = some (.slice (some ad194) l0_10.length c0_10) ∧ w'.cell? ad194 = some (.int .i64 (rd l0_10 0))) (ds := []) #[false, false, false, false, false, false, false, false, false, false, false, false, false] (by kernel_rfl) rfl rfl ⟨(zaa BK179.o 0).trans rfl, (zaa BK179.o 1).trans rfl, (zaa BK179.o 2).trans rfl, (zaa BK179.o 3).trans rfl, (zaa BK179.o 4).trans rfl, (zaa BK179.o 5).trans rfl, (zaa BK179.o 6).trans rfl, (zaa BK179.o 7).trans rfl, (zaa BK179.o 8).trans rfl, (zaa BK179.o 9).trans rfl, (zaa BK179.o 10).trans rfl, ((HB.o.cell (World.block_lt_of_cell? w _ hw194_0)).trans hw194_0)⟩ (fun hHeld => ?_); refine zaP posmap_place_unwrap.tab10 posmap_place_unwrap.bits10 (fun HT_ HW_ => ?_)
            generalize wc.drew = w43 at BK179 HB HR198 hx194_0 hHeld ⊢
            refine pure_ (i := 1) (N := some 64) (v := ?_) (a' := ?_) #[false, true, false, false, false, false, false, false, false, false, false, false, false] rfl rfl (zan HT_.out (by kernel_rfl)) (fun _ _ _ h => h) (Or.inl ⟨by rfl, ?_⟩) ?_ ?_
            rotate_left
            ·intro w'
             go_simp
             with_reducible rfl
            rotate_left
            ·simp only [Act.put, List.setIfInBounds_toArray, List.set_cons_zero, List.set_cons_succ, i64_w, i32_w]
             rfl
            refine pure_ (i := 2) (N := some 65) (v := ?_) (a' := ?_) #[false, true, true, false, false, false, false, false, false, false, false, false, false] rfl rfl (zan HT_.out (by kernel_rfl)) (fun _ _ _ h => h) (Or.inl ⟨by rfl, ?_⟩) ?_ ?_
            rotate_left
            ·intro w'
             go_simp
             with_reducible rfl
            rotate_left
            ·simp only [Act.put, List.setIfInBounds_toArray, List.set_cons_zero, List.set_cons_succ, i64_w, i32_w]
             rfl
            refine pure_ (i := 8) (N := some 71) (v := ?_) (a' := ?_) #[false, true, true, false, false, false, false, false, true, false, false, false, false] rfl rfl (zan HT_.out (by kernel_rfl)) (fun _ _ _ h => h) (Or.inl ⟨by rfl, ?_⟩) ?_ ?_
            rotate_left
            ·intro w'
             go_simp
             with_reducible rfl
            rotate_left
            ·simp only [Act.put, List.setIfInBounds_toArray, List.set_cons_zero, List.set_cons_succ, i64_w, i32_w]
             rfl
            refine take_ (i := 0) (N := some 63) (v := ?_) (a' := ?_) #[true, true, true, false, false, false, false, false, true, false, false, false, false] rfl rfl (zav HT_.out HW_.out (by kernel_rfl)) (fun _ _ _ h => h) (Or.inl ⟨by rfl, ?_⟩) hHeld ?_ ?_
            rotate_left
            ·rintro w' ⟨s0, s1, s2, s3, s4, s5, s6, s7, s8, s9, s10, s11⟩
             go_simp
             with_reducible rfl
            rotate_left
            ·simp only [Act.put, List.setIfInBounds_toArray, List.set_cons_zero, List.set_cons_succ, i64_w, i32_w]
             rfl
            refine take_ (i := 3) (N := some 66) (v := ?_) (a' := ?_) #[true, true, true, true, false, false, false, false, true, false, false, false, false] rfl rfl (zav HT_.out HW_.out (by kernel_rfl)) (fun _ _ _ h => h) (Or.inl ⟨by rfl, ?_⟩) hHeld ?_ ?_
            rotate_left
            ·rintro w' ⟨s0, s1, s2, s3, s4, s5, s6, s7, s8, s9, s10, s11⟩
             go_simp
             with_reducible rfl
            rotate_left
            ·simp only [Act.put, List.setIfInBounds_toArray, List.set_cons_zero, List.set_cons_succ, i64_w, i32_w]
             rfl
            refine pure_ (i := 4) (N := some 67) (v := ?_) (a' := ?_) #[true, true, true, true, true, false, false, false, true, false, false, false, false] rfl rfl (zan HT_.out (by kernel_rfl)) (fun _ _ _ h => h) (Or.inl ⟨by rfl, ?_⟩) ?_ ?_
            rotate_left
            ·intro w'
             go_simp
             with_reducible rfl
            rotate_left
            ·simp only [Act.put, List.setIfInBounds_toArray, List.set_cons_zero, List.set_cons_succ, i64_w, i32_w]
             rfl
            refine take_ (i := 5) (N := some 68) (v := ?_) (a' := ?_) #[true, true, true, true, true, true, false, false, true, false, false, false, false] rfl rfl (zav HT_.out HW_.out (by kernel_rfl)) (fun _ _ _ h => h) (Or.inl ⟨by rfl, ?_⟩) hHeld ?_ ?_
            rotate_left
            ·rintro w' ⟨s0, s1, s2, s3, s4, s5, s6, s7, s8, s9, s10, s11⟩
             go_simp
             with_reducible rfl
            rotate_left
            ·simp only [Act.put, List.setIfInBounds_toArray, List.set_cons_zero, List.set_cons_succ, i64_w, i32_w]
             rfl
            refine pure_ (i := 6) (N := some 69) (v := ?_) (a' := ?_) #[true, true, true, true, true, true, true, false, true, false, false, false, false] rfl rfl (zan HT_.out (by kernel_rfl)) (fun _ _ _ h => h) (Or.inl ⟨by rfl, ?_⟩) ?_ ?_
            rotate_left
            ·intro w'
             go_simp
             with_reducible rfl
            rotate_left
            ·simp only [Act.put, List.setIfInBounds_toArray, List.set_cons_zero, List.set_cons_succ, i64_w, i32_w]
             rfl
            refine take_ (i := 9) (N := some 72) (v := ?_) (a' := ?_) #[true, true, true, true, true, true, true, false, true, true, false, false, false] rfl rfl (zav HT_.out HW_.out (by kernel_rfl)) (fun _ _ _ h => h) (Or.inl ⟨by rfl, ?_⟩) hHeld ?_ ?_
            rotate_left
            ·rintro w' ⟨s0, s1, s2, s3, s4, s5, s6, s7, s8, s9, s10, s11⟩
             go_simp
             with_reducible rfl
            rotate_left
            ·simp only [Act.put, List.setIfInBounds_toArray, List.set_cons_zero, List.set_cons_succ, i64_w, i32_w]
             rfl
            refine pure_ (i := 10) (N := some 73) (v := ?_) (a' := ?_) #[true, true, true, true, true, true, true, false, true, true, true, false, false] rfl rfl (zan HT_.out (by kernel_rfl)) (fun _ _ _ h => h) (Or.inl ⟨by rfl, ?_⟩) ?_ ?_
            rotate_left
            ·intro w'
             go_simp
             with_reducible rfl
            rotate_left
            ·simp only [Act.put, List.setIfInBounds_toArray, List.set_cons_zero, List.set_cons_succ, i64_w, i32_w]
             rfl
            refine one_ (i := 7) (N := some 70) #[true, true, true, true, true, true, true, true, true, true, true, false, false] rfl rfl (zaJ HT_.out (by kernel_rfl)) (by decide) (fun K hK => ?_)
            refine goes_ Try.func62 (by kernel_rfl) rfl #[.agg #[.int .i64 a0_0, .slice A0_1 l0_1.length c0_1, .int .i64 a0_2, .int .i64 a0_3, .slice A0_4 l0_4.length c0_4, .int .i64 a0_5, .string a0_6, .string a0_7, .int .i64 a0_8, .int .i64 a0_9, .slice (some ad194) l0_10.length c0_10], .int .i64 (wrap64 (a0_2 + (rd l0_10 0)))] (by rfl) rfl rfl (by (try simp only [List.map_toArray, List.map_cons, List.map_nil]); first | done | rfl | (simp only [List.length_drop, List.length_take]; rfl)) ?_
            with_reducible refine (posmap_place_at.calls a0_0 _ _ l0_1 a0_2 a0_3 _ _ l0_4 a0_5 a0_6 a0_7 a0_8 a0_9 _ _ l0_10 (wrap64 (a0_2 + (rd l0_10 0))) t195 _ ?side1 ?side2 ?side3 ?side4 ?side5 ?side6 A39.o).mono ?_
            (case side1 => repeat (first | exact (Kd.C_below HR0_1.o HB.o) | (with_reducible first | refine Kd.C_alloc ?_ _ | refine Kd.C_drewN ?_ _ | refine Kd.C_drew ?_)))
            (case side2 => exact HC0_1.out)
            (case side3 => repeat (first | exact (Kd.C_below HR0_4.o HB.o) | (with_reducible first | refine Kd.C_alloc ?_ _ | refine Kd.C_drewN ?_ _ | refine Kd.C_drew ?_)))
            (case side4 => exact HC0_4.out)
            (case side5 => repeat (first | exact (Kd.C_below HR0_10.o HB.o) | (with_reducible first | refine Kd.C_alloc ?_ _ | refine Kd.C_drewN ?_ _ | refine Kd.C_drew ?_)))
            (case side6 => exact HC0_10.out)
            rintro e w45 ⟨v196, rfl, ho0, hb⟩
            refine ⟨_, rfl, ?_⟩
            have n0_ := zab.mk (Kd.R_lower ho0 (zak (by repeat (first | (with_reducible first | exact HB.o | apply zad | apply zaf | apply zae | refine zag ?_ GE179.o) | exact HB.o))))
            have n1_ := zab.mk (zam (by (with_reducible repeat (first | refine zaj ?_ _ | refine zah ?_ | refine zai ?_ _)); exact BK179.o) hb)
            have n2_ := zab.mk (zal (by repeat (first | (with_reducible first | exact HB.o | apply zad | apply zaf | apply zae | refine zag ?_ GE179.o) | exact HB.o)) hb)
            clear BK179
            clear HB
            have HO197 := n0_
            have BK179 := n1_
            have HB := n2_
            clear n0_ n1_ n2_
            (try clear hb)
            (try clear hb2)
            (try clear hk)
            (try clear hi)
            (try clear ho0)
            refine hK.out _ _ ⟨(zaa BK179.o 0).trans rfl, (zaa BK179.o 1).trans rfl, (zaa BK179.o 2).trans rfl, (zaa BK179.o 3).trans rfl, (zaa BK179.o 4).trans rfl, (zaa BK179.o 5).trans rfl, (zaa BK179.o 6).trans rfl, (zaa BK179.o 7).trans rfl, (zaa BK179.o 8).trans rfl, (zaa BK179.o 9).trans rfl, (zaa BK179.o 10).trans rfl, ((HB.o.cell (World.block_lt_of_cell? w _ hw194_0)).trans hw194_0)⟩ (fun hHeld => ?_)
            clear hK K
            refine norm_ (a' := ?_) ?_ ?_
            rotate_left
            ·show Act.put _ (some 70) _ = _
             simp only [Act.put, List.setIfInBounds_toArray, List.set_cons_zero, List.set_cons_succ, i64_w, i32_w]
             rfl
            refine one_ (i := 11) (N := some 74) #[true, true, true, true, true, true, true, true, true, true, true, true, false] rfl rfl (zaJ HT_.out (by kernel_rfl)) (by decide) (fun K hK => ?_)
            refine Kd.R_append_rows_step (Kd.int .i64) (w0 := w) w.heap.size (by rfl) (.tmp 70) (.tmp 73) 25 3 (.int .i64 0) 8 rfl Try.underlying25 info3 rfl (by decide) (by omega) v196 t195 (l0_10.drop 1) _ _ _ (fun _ => True) (fun _ => False) rfl rfl ?aO ?aR (fun _ _ h => h) (fun _ h => h.elim) ?aF ?aB ?aS ?aL ?_
            (case aR => first | (rw [← show (l0_10.drop 1).length = (l0_10.length - 1) from List.length_drop]; repeat (first | exact (Kd.C_below HR198.o HB.o) | (with_reducible first | refine Kd.C_alloc ?_ _ | refine Kd.C_drewN ?_ _ | refine Kd.C_drew ?_))) | (repeat (first | exact (Kd.C_below HR198.o HB.o) | (with_reducible first | refine Kd.C_alloc ?_ _ | refine Kd.C_drewN ?_ _ | refine Kd.C_drew ?_))))
            (case aB => exact (by repeat (first | (with_reducible first | exact HB.o | apply zad | apply zaf | apply zae | refine zag ?_ GE179.o) | exact HB.o)))
            (case aF => exact (fun _ _ => trivial))
            (case aO => exact (by (with_reducible repeat (first | apply Kd.R_alloc | apply Kd.R_drewN | apply Kd.R_drew)); exact HO197.o))
            (case aS => exact (zak (by repeat (first | (with_reducible first | exact HB.o | apply zad | apply zaf | apply zae | refine zag ?_ GE179.o) | exact HB.o))))
            (case aL => have := LMc41.out; have hlx_ := (show (l0_10.drop 1).length = (l0_10.length - 1) from List.length_drop); omega)
            intro v200 w46 ho hb hg hat
            rw [← Ny199.out] at ho
            have n0_ := zab.mk (zaK (by (with_reducible repeat (first | refine zaj ?_ _ | refine zah ?_ | refine zai ?_ _)); exact BK179.o) hg (Kd.R_ne HO197.o BK179.o (by decide)))
            have n1_ := zab.mk (hb)
            have n2_ := zab.mk (ho)
            clear BK179
            clear HB
            clear HO197
            have BK179 := n0_
            have HB := n1_
            have HO201 := n2_
            clear n0_ n1_ n2_
            clear ho hb hg hat
            refine hK.out _ _ ⟨(zaa BK179.o 0).trans rfl, (zaa BK179.o 1).trans rfl, (zaa BK179.o 2).trans rfl, (zaa BK179.o 3).trans rfl, (zaa BK179.o 4).trans rfl, (zaa BK179.o 5).trans rfl, (zaa BK179.o 6).trans rfl, (zaa BK179.o 7).trans rfl, (zaa BK179.o 8).trans rfl, (zaa BK179.o 9).trans rfl, (zaa BK179.o 10).trans rfl, ((HB.o.cell (World.block_lt_of_cell? w _ hw194_0)).trans hw194_0)⟩ (fun hHeld => ?_)
            clear hK K
            refine norm_ (a' := ?_) ?_ ?_
            rotate_left
            ·show Act.put _ (some 74) _ = _
             simp only [Act.put, List.setIfInBounds_toArray, List.set_cons_zero, List.set_cons_succ, i64_w, i32_w]
             rfl
            refine pure_ (i := 12) (N := some 2) (v := ?_) (a' := ?_) #[true, true, true, true, true, true, true, true, true, true, true, true, true] rfl rfl (zan HT_.out (by kernel_rfl)) (fun _ _ _ h => h) (Or.inl ⟨by rfl, ?_⟩) ?_ ?_
            rotate_left
            ·intro w'
             go_simp
             with_reducible rfl
            rotate_left
            ·simp only [Act.put, List.setIfInBounds_toArray, List.set_cons_zero, List.set_cons_succ, i64_w, i32_w]
             rfl
            refine done_ (zaQ HT_.out (by kernel_rfl)) ?_
            try go_wp2
            go_ret
            exact ⟨_, by first | rfl | (simp [errW_none, errW_some] <;> rfl) | (simp [*, errW_none, errW_some] <;> rfl), by (with_reducible repeat (first | apply Kd.R_alloc | apply Kd.R_drewN | apply Kd.R_drew)); exact HO201.o, by repeat (first | (with_reducible first | exact HB.o | apply zad | apply zaf | apply zae | refine zag ?_ GE179.o) | exact HB.o)⟩
           ·rw [if_neg c41] at H
            exact absurd H (by simp)
          ·rw [if_neg c40] at H
           exact absurd H (by simp)
         ·rw [if_neg c38] at H
          exact absurd H (by simp)

end Go.Proofs.Ytikgflpobacndaa.P
