--m
/- Written by wip/tool/hprint.py (the kit's print.py with hand-proved contracts set in): contracts of the functions that the statements of this seat reach, without conditions beyond those named in each theorem. -/
import Derived.Test.YtoieknocpphjoaaDoorP0
import Derived.Test.YtoieknocpphjoaaDoorP7
import Derived.Test.YtoieknocpphjoaaDoorP8
namespace Go.Proofs.YtoieknocpphjoaaDoor.P
open Go.RowKit Go.Proofs.YtoieknocpphjoaaDoorW.PrintWords Go.Proofs.YtoieknocpphjoaaDoorW.PrintLast Go.Proofs.YtoieknocpphjoaaDoorW.PrintMore
attribute [local go_sem] zay zaz zaA zaB zaC zaD zaE zaF   -- for this text's walks alone
set_option linter.unusedVariables false
set_option linter.unusedSimpArgs false

/-! ### rational_Text: function 16 -/
def rational_Text.f (k : Nat) (a0_0 : Int) (a0_1 : Int) : Option (ByteArray) := (rational_Valid.f k a0_0 a0_1).bind fun t109 => (if t109 = true then (if a0_1 = 1 then ((strconv_Itoa_45.f a0_0).bind fun t110 => (some t110)) else ((strconv_Itoa_45.f a0_0).bind fun t111 => (if t111.size + 1 ≤ 9223372036854775807 then ((strconv_Itoa_45.f a0_1).bind fun t112 => (if (t111 ++ (⟨#[47]⟩ : ByteArray)).size + t112.size ≤ 9223372036854775807 then (some ((t111 ++ (⟨#[47]⟩ : ByteArray)) ++ t112)) else (none))) else (none)))) else (some (⟨#[]⟩ : ByteArray)))
theorem rational_Text.mono : ∀ a0 a1 k, LeO (rational_Text.f k a0 a1) (rational_Text.f (k + 1) a0 a1) := by
 intro a0 a1 k
 unfold rational_Text.f
 repeat' first
   | (with_reducible exact rational_Valid.mono _ _ _)
   | (with_reducible exact LeO.refl _)
   | (with_reducible exact LeO.none _)
   | (with_reducible refine LeO.ite ?_ ?_)
   | (with_reducible refine LeO.bind ?_ (fun _ => ?_))
   | exact rational_Valid.mono _ _ _
   | exact LeO.none _
   | refine LeO.ite ?_ ?_
   | refine LeO.bind ?_ (fun _ => ?_)
def rational_Text.T5 : Bool × List (List Nat × List Nat) := (true, [([], []), ([0], [0]), ([1], [1]), ([2], [2]), ([], []), ([4], [4]), ([5, 2], [5]), ([3, 6], [3, 6]), ([7, 6, 0, 1, 2, 3, 4, 5, 6, 7], [7])])
def rational_Text.B5 : List Nat := [0, 1, 3, 7, 0, 16, 55, 127, 255]
theorem rational_Text.tab5 : rtab .any (opsOf Tryd.f16 5) = rational_Text.T5 := by kernel_rfl
theorem rational_Text.bits5 : waitsOk rational_Text.T5.2 rational_Text.B5 = true := by kernel_rfl
set_option maxHeartbeats 8000000 in
set_option maxRecDepth 100000 in
theorem rational_Text.calls (k : Nat) (a0_0 : Int) (a0_1 : Int) (r : ByteArray) (w : World) (htab : TB w) (h : rational_Text.f k a0_0 a0_1 = some r) :
  Calls Tryd.prog 16 #[.agg #[.int .i64 a0_0, .int .i64 a0_1]] w fun e w' => e = .returned (.string r) ∧ Below w.heap.size w w' := by
 have hu24 := Tryd.underlying24
 have HB := zaa.mk (Below.refl w.heap.size w)
 have HT9 := zaa.mk htab.stays
 clear htab
 have H : ((rational_Valid.f k a0_0 a0_1).bind fun t109 => (if t109 = true then (if a0_1 = 1 then ((strconv_Itoa_45.f a0_0).bind fun t110 => (some t110)) else ((strconv_Itoa_45.f a0_0).bind fun t111 => (if t111.size + 1 ≤ 9223372036854775807 then ((strconv_Itoa_45.f a0_1).bind fun t112 => (if (t111 ++ (⟨#[47]⟩ : ByteArray)).size + t112.size ≤ 9223372036854775807 then (some ((t111 ++ (⟨#[47]⟩ : ByteArray)) ++ t112)) else (none))) else (none)))) else (some (⟨#[]⟩ : ByteArray)))) = some r := h
 clear h
 replace H := Option.bind_eq_some_iff.mp H
 obtain ⟨t109, A20, H⟩ := H
 replace H : (if t109 = true then (if a0_1 = 1 then ((strconv_Itoa_45.f a0_0).bind fun t110 => (some t110)) else ((strconv_Itoa_45.f a0_0).bind fun t111 => (if t111.size + 1 ≤ 9223372036854775807 then ((strconv_Itoa_45.f a0_1).bind fun t112 => (if (t111 ++ (⟨#[47]⟩ : ByteArray)).size + t112.size ≤ 9223372036854775807 then (some ((t111 ++ (⟨#[47]⟩ : ByteArray)) ++ t112)) else (none))) else (none)))) else (some (⟨#[]⟩ : ByteArray))) = some r := H
 have A2 := zaa.mk A20
 clear A20
 by_cases c3 : t109 = true
 ·subst c3
  have H1 : (if a0_1 = 1 then ((strconv_Itoa_45.f a0_0).bind fun t110 => (some t110)) else ((strconv_Itoa_45.f a0_0).bind fun t111 => (if t111.size + 1 ≤ 9223372036854775807 then ((strconv_Itoa_45.f a0_1).bind fun t112 => (if (t111 ++ (⟨#[47]⟩ : ByteArray)).size + t112.size ≤ 9223372036854775807 then (some ((t111 ++ (⟨#[47]⟩ : ByteArray)) ++ t112)) else (none))) else (none)))) = some r := by rw [if_pos rfl] at H; exact H
  clear H
  have H := H1
  clear H1
  by_cases c4 : a0_1 = 1
  ·rw [if_pos c4] at H
   have c4b0 : (a0_1 == 1) = true := beq_iff_eq.mpr c4
   have c4b1 : (a0_1 != 1) = false := bne_eq_false_iff_eq.mpr c4
   clear c4
   replace H := Option.bind_eq_some_iff.mp H
   obtain ⟨t110, A50, H⟩ := H
   replace H : (some t110) = some r := H
   have A5 := zaa.mk A50
   clear A50
   obtain rfl := Option.some.inj H
   go_enter Tryd.func16, Tryd.ntmps16
   go_wp2_with (first | ((with_reducible refine zaq (N := 1) rfl ?_); refine zar ?hg (N := 1) ?hd (cs := #[.int .i64 a0_0, .int .i64 a0_1]) (t := 24) ?hr ?_; (case hd => rfl); (case hg => rfl); (case hr => first | (go_simp; done) | (go_simp; rfl)); intro gb108 hg w6 hbox hb; have n0_ := zaa.mk (zao (by repeat (first | (with_reducible first | exact HB.o | apply zaf | apply zah | apply zag) | exact HB.o)) hb); have n1_ := zaa.mk (hbox); have n2_ := zaa.mk ((by rw [hg]; exact (zan (by repeat (first | (with_reducible first | exact HB.o | apply zaf | apply zah | apply zag) | exact HB.o))) : w.heap.size ≤ gb108)); have n3_ := zaa.mk ((by rw [hg]; exact (zan (by repeat (first | (with_reducible first | exact HB.o | apply zaf | apply zah | apply zag) | exact HB.o))) : w.heap.size ≤ gb108)); clear HB; have HB := n0_; have BK108 := n1_; have GW108 := n2_; have GE108 := n3_; clear n0_ n1_ n2_ n3_; clear hb hbox hg; obtain ⟨hcz7_0, hcz7_1⟩ := cz2 BK108.o; obtain ⟨hfz7_0, hfz7_1⟩ := fz2 BK108.o) | ((with_reducible refine zas (f := 18) rfl ?_); refine zat (some 4) rfl rfl Tryd.func18 (by kernel_rfl) rfl #[.agg #[.int .i64 a0_0, .int .i64 a0_1]] rfl (by (try simp only [List.map_toArray, List.map_cons, List.map_nil]); first | done | rfl | (simp only [List.length_drop, List.length_take]; rfl)) ?_; (with_reducible refine (rational_Valid.calls k a0_0 a0_1 true _ A2.o).mono ?_); rintro e w8 ⟨rfl, hb⟩; refine ⟨_, rfl, ?_⟩; have n0_ := zaa.mk (zaj (by (with_reducible repeat (first | refine zad ?_ _ | refine zab ?_ | refine zac ?_ _)); exact BK108.o) hb); have n1_ := zaa.mk (zao (by repeat (first | (with_reducible first | exact HB.o | apply zaf | apply zah | apply zag | refine zae ?_ GE108.o) | exact HB.o)) hb); clear BK108; clear HB; have BK108 := n0_; have HB := n1_; clear n0_ n1_; (try clear hb); (try clear hb2); (try clear hk); (try clear hi); obtain ⟨hcz9_0, hcz9_1⟩ := cz2 BK108.o; obtain ⟨hfz9_0, hfz9_1⟩ := fz2 BK108.o) | ((with_reducible refine zas (f := 45) rfl ?_); refine zat (some 11) rfl rfl Tryd.func45 (by kernel_rfl) rfl #[.int .i64 a0_0] rfl (by (try simp only [List.map_toArray, List.map_cons, List.map_nil]); first | done | rfl | (simp only [List.length_drop, List.length_take]; rfl)) ?_; (with_reducible refine (strconv_Itoa_45.calls a0_0 t110 _ (HT9.out _ (by repeat (first | (with_reducible first | exact HB.o | apply zaf | apply zah | apply zag | refine zae ?_ GE108.o) | exact HB.o))) A5.o).mono ?_); rintro e w10 ⟨rfl, hb⟩; refine ⟨_, rfl, ?_⟩; have n0_ := zaa.mk (zaj (by (with_reducible repeat (first | refine zad ?_ _ | refine zab ?_ | refine zac ?_ _)); exact BK108.o) hb); have n1_ := zaa.mk (zao (by repeat (first | (with_reducible first | exact HB.o | apply zaf | apply zah | apply zag | refine zae ?_ GE108.o) | exact HB.o)) hb); clear BK108; clear HB; have BK108 := n0_; have HB := n1_; clear n0_ n1_; (try clear hb); (try clear hb2); (try clear hk); (try clear hi)))
   go_ret
   exact ⟨by first | rfl | (simp [errW_none, errW_some] <;> rfl) | (simp [*, errW_none, errW_some] <;> rfl), by repeat (first | (with_reducible first | exact HB.o | apply zaf | apply zah | apply zag | refine zae ?_ GE108.o) | exact HB.o)⟩
  ·rw [if_neg c4] at H
   have c4b0 : (a0_1 == 1) = false := beq_eq_false_iff_ne.mpr c4
   have c4b1 : (a0_1 != 1) = true := bne_iff_ne.mpr c4
   replace H := Option.bind_eq_some_iff.mp H
   obtain ⟨t111, A110, H⟩ := H
   replace H : (if t111.size + 1 ≤ 9223372036854775807 then ((strconv_Itoa_45.f a0_1).bind fun t112 => (if (t111 ++ (⟨#[47]⟩ : ByteArray)).size + t112.size ≤ 9223372036854775807 then (some ((t111 ++ (⟨#[47]⟩ : ByteArray)) ++ t112)) else (none))) else (none)) = some r := H
   have A11 := zaa.mk A110
   clear A110
   by_cases c12 : t111.size + 1 ≤ 9223372036854775807
   ·rw [if_pos c12] at H
    have c12b0 := eq_true c12
    have c12b1 : decide (t111.size + 1 ≤ 9223372036854775807) = true := decide_eq_true c12
    try have c12b2 : (9223372036854775807 < t111.size + 1) = False := eq_false (Nat.not_lt.2 c12)
    replace H := Option.bind_eq_some_iff.mp H
    obtain ⟨t112, A130, H⟩ := H
    replace H : (if (t111 ++ (⟨#[47]⟩ : ByteArray)).size + t112.size ≤ 9223372036854775807 then (some ((t111 ++ (⟨#[47]⟩ : ByteArray)) ++ t112)) else (none)) = some r := H
    have A13 := zaa.mk A130
    clear A130
    by_cases c14 : (t111 ++ (⟨#[47]⟩ : ByteArray)).size + t112.size ≤ 9223372036854775807
    ·rw [if_pos c14] at H
     have c14b0 := eq_true c14
     have c14b1 : decide ((t111 ++ (⟨#[47]⟩ : ByteArray)).size + t112.size ≤ 9223372036854775807) = true := decide_eq_true c14
     try have c14b2 : (9223372036854775807 < (t111 ++ (⟨#[47]⟩ : ByteArray)).size + t112.size) = False := eq_false (Nat.not_lt.2 c14)
     have c14b3 : (9223372036854775807 < t111.size + 1 + t112.size) = False := by
      have e_ : (t111 ++ (⟨#[47]⟩ : ByteArray)).size = t111.size + 1 := by rw [ByteArray.size_append]; rfl
      rw [← e_]; exact c14b2
     obtain rfl := Option.some.inj H
     go_enter Tryd.func16, Tryd.ntmps16
     try go_wp2_with (first | ((with_reducible refine zaq (N := 1) rfl ?_); refine zar ?hg (N := 1) ?hd (cs := #[.int .i64 a0_0, .int .i64 a0_1]) (t := 24) ?hr ?_; (case hd => rfl); (case hg => rfl); (case hr => first | (go_simp; done) | (go_simp; rfl)); intro gb108 hg w15 hbox hb; have n0_ := zaa.mk (zao (by repeat (first | (with_reducible first | exact HB.o | apply zaf | apply zah | apply zag) | exact HB.o)) hb); have n1_ := zaa.mk (hbox); have n2_ := zaa.mk ((by rw [hg]; exact (zan (by repeat (first | (with_reducible first | exact HB.o | apply zaf | apply zah | apply zag) | exact HB.o))) : w.heap.size ≤ gb108)); have n3_ := zaa.mk ((by rw [hg]; exact (zan (by repeat (first | (with_reducible first | exact HB.o | apply zaf | apply zah | apply zag) | exact HB.o))) : w.heap.size ≤ gb108)); clear HB; have HB := n0_; have BK108 := n1_; have GW108 := n2_; have GE108 := n3_; clear n0_ n1_ n2_ n3_; clear hb hbox hg; obtain ⟨hcz16_0, hcz16_1⟩ := cz2 BK108.o; obtain ⟨hfz16_0, hfz16_1⟩ := fz2 BK108.o) | ((with_reducible refine zas (f := 18) rfl ?_); refine zat (some 4) rfl rfl Tryd.func18 (by kernel_rfl) rfl #[.agg #[.int .i64 a0_0, .int .i64 a0_1]] rfl (by (try simp only [List.map_toArray, List.map_cons, List.map_nil]); first | done | rfl | (simp only [List.length_drop, List.length_take]; rfl)) ?_; (with_reducible refine (rational_Valid.calls k a0_0 a0_1 true _ A2.o).mono ?_); rintro e w17 ⟨rfl, hb⟩; refine ⟨_, rfl, ?_⟩; have n0_ := zaa.mk (zaj (by (with_reducible repeat (first | refine zad ?_ _ | refine zab ?_ | refine zac ?_ _)); exact BK108.o) hb); have n1_ := zaa.mk (zao (by repeat (first | (with_reducible first | exact HB.o | apply zaf | apply zah | apply zag | refine zae ?_ GE108.o) | exact HB.o)) hb); clear BK108; clear HB; have BK108 := n0_; have HB := n1_; clear n0_ n1_; (try clear hb); (try clear hb2); (try clear hk); (try clear hi); obtain ⟨hcz18_0, hcz18_1⟩ := cz2 BK108.o; obtain ⟨hfz18_0, hfz18_1⟩ := fz2 BK108.o))
     have n0_ := zaa.mk (zab BK108.o)
     have n1_ := zaa.mk (zag HB.o)
     clear BK108
     clear HB
     have BK108 := n0_
     have HB := n1_
     clear n0_ n1_
     refine start_ (n := 9) (S := fun w' => w'.cell? ⟨gb108, 0, none⟩ = some (.int .i64 a0_0) ∧ w'.cell? ⟨gb108, 1, none⟩ = some (.int .i64 a0_1)) (ds := []) #[false, false, false, false, false, false, false, false, false] (by kernel_rfl) rfl rfl (cz2 BK108.o) (fun hHeld => ?_); refine with_tabW rational_Text.tab5 rational_Text.bits5 (fun HT_ HW_ => ?_)
     generalize w17.drew = w19 at BK108 HB hHeld ⊢
     refine pure_ (i := 0) (N := some 12) (v := ?_) (a' := ?_) #[true, false, false, false, false, false, false, false, false] rfl rfl (zaI HT_.out (by kernel_rfl)) (fun _ _ _ h => h) (Or.inl ⟨by rfl, ?_⟩) ?_ ?_
     rotate_left
     ·intro w'
      go_simp
      with_reducible rfl
     rotate_left
     ·simp only [Act.put, List.setIfInBounds_toArray, List.set_cons_zero, List.set_cons_succ, i64_w, i32_w]
      rfl
     refine pure_ (i := 4) (N := some 16) (v := ?_) (a' := ?_) #[true, false, false, false, true, false, false, false, false] rfl rfl (zaI HT_.out (by kernel_rfl)) (fun _ _ _ h => h) (Or.inl ⟨by rfl, ?_⟩) ?_ ?_
     rotate_left
     ·intro w'
      go_simp
      with_reducible rfl
     rotate_left
     ·simp only [Act.put, List.setIfInBounds_toArray, List.set_cons_zero, List.set_cons_succ, i64_w, i32_w]
      rfl
     refine take_ (i := 1) (N := some 13) (v := ?_) (a' := ?_) #[true, true, false, false, true, false, false, false, false] rfl rfl (zaO HT_.out HW_.out (by kernel_rfl)) (fun _ _ _ h => h) (Or.inl ⟨by rfl, ?_⟩) hHeld ?_ ?_
     rotate_left
     ·rintro w' ⟨s0, s1⟩
      go_simp
      with_reducible rfl
     rotate_left
     ·simp only [Act.put, List.setIfInBounds_toArray, List.set_cons_zero, List.set_cons_succ, i64_w, i32_w]
      rfl
     refine take_ (i := 5) (N := some 17) (v := ?_) (a' := ?_) #[true, true, false, false, true, true, false, false, false] rfl rfl (zaO HT_.out HW_.out (by kernel_rfl)) (fun _ _ _ h => h) (Or.inl ⟨by rfl, ?_⟩) hHeld ?_ ?_
     rotate_left
     ·rintro w' ⟨s0, s1⟩
      go_simp
      with_reducible rfl
     rotate_left
     ·simp only [Act.put, List.setIfInBounds_toArray, List.set_cons_zero, List.set_cons_succ, i64_w, i32_w]
      rfl
     refine one_ (i := 2) (N := some 14) #[true, true, true, false, true, true, false, false, false] rfl rfl (zaL HT_.out (by kernel_rfl)) (by decide) (fun K hK => ?_)
     refine goes_ Tryd.func45 (by kernel_rfl) rfl #[.int .i64 a0_0] (by rfl) rfl rfl (by (try simp only [List.map_toArray, List.map_cons, List.map_nil]); first | done | rfl | (simp only [List.length_drop, List.length_take]; rfl)) ?_
     with_reducible refine (strconv_Itoa_45.calls a0_0 t111 _ (HT9.out _ (by repeat (first | (with_reducible first | exact HB.o | apply zaf | apply zah | apply zag) | exact HB.o))) A11.o).mono ?_
     rintro e w20 ⟨rfl, hb⟩
     refine ⟨_, rfl, ?_⟩
     have n0_ := zaa.mk (zaj (by (with_reducible repeat (first | refine zad ?_ _ | refine zab ?_ | refine zac ?_ _)); exact BK108.o) hb)
     have n1_ := zaa.mk (zao (by repeat (first | (with_reducible first | exact HB.o | apply zaf | apply zah | apply zag | refine zae ?_ GE108.o) | exact HB.o)) hb)
     clear BK108
     clear HB
     have BK108 := n0_
     have HB := n1_
     clear n0_ n1_
     (try clear hb)
     (try clear hb2)
     (try clear hk)
     (try clear hi)
     refine hK.out _ _ (cz2 BK108.o) (fun hHeld => ?_)
     clear hK K
     refine norm_ (a' := ?_) ?_ ?_
     rotate_left
     ·show Act.put _ (some 14) _ = _
      simp only [Act.put, List.setIfInBounds_toArray, List.set_cons_zero, List.set_cons_succ, i64_w, i32_w]
      rfl
     refine pure_ (i := 3) (N := some 15) (v := ?_) (a' := ?_) #[true, true, true, true, true, true, false, false, false] rfl rfl (zaI HT_.out (by kernel_rfl)) (fun _ _ _ h => h) (Or.inl ⟨by rfl, ?_⟩) ?_ ?_
     rotate_left
     ·intro w'
      go_simp
      with_reducible rfl
     rotate_left
     ·simp only [Act.put, List.setIfInBounds_toArray, List.set_cons_zero, List.set_cons_succ, i64_w, i32_w]
      rfl
     refine one_ (i := 6) (N := some 18) #[true, true, true, true, true, true, true, false, false] rfl rfl (zaL HT_.out (by kernel_rfl)) (by decide) (fun K hK => ?_)
     refine goes_ Tryd.func45 (by kernel_rfl) rfl #[.int .i64 a0_1] (by rfl) rfl rfl (by (try simp only [List.map_toArray, List.map_cons, List.map_nil]); first | done | rfl | (simp only [List.length_drop, List.length_take]; rfl)) ?_
     with_reducible refine (strconv_Itoa_45.calls a0_1 t112 _ (HT9.out _ (by repeat (first | (with_reducible first | exact HB.o | apply zaf | apply zah | apply zag) | exact HB.o))) A13.o).mono ?_
     rintro e w21 ⟨rfl, hb⟩
     refine ⟨_, rfl, ?_⟩
     have n0_ := zaa.mk (zaj (by (with_reducible repeat (first | refine zad ?_ _ | refine zab ?_ | refine zac ?_ _)); exact BK108.o) hb)
     have n1_ := zaa.mk (zao (by repeat (first | (with_reducible first | exact HB.o | apply zaf | apply zah | apply zag | refine zae ?_ GE108.o) | exact HB.o)) hb)
     clear BK108
     clear HB
     have BK108 := n0_
     have HB := n1_
     clear n0_ n1_
     (try clear hb)
     (try clear hb2)
     (try clear hk)
     (try clear hi)
     refine hK.out _ _ (cz2 BK108.o) (fun hHeld => ?_)
     clear hK K
     refine norm_ (a' := ?_) ?_ ?_
     rotate_left
     ·show Act.put _ (some 18) _ = _
      simp only [Act.put, List.setIfInBounds_toArray, List.set_cons_zero, List.set_cons_succ, i64_w, i32_w]
      rfl
     refine pure_ (i := 7) (N := some 19) (v := ?_) (a' := ?_) #[true, true, true, true, true, true, true, true, false] rfl rfl (zaI HT_.out (by kernel_rfl)) (fun _ _ _ h => h) (Or.inl ⟨by rfl, ?_⟩) ?_ ?_
     rotate_left
     ·intro w'
      go_simp
      with_reducible rfl
     rotate_left
     ·simp only [Act.put, List.setIfInBounds_toArray, List.set_cons_zero, List.set_cons_succ, i64_w, i32_w]
      rfl
     refine pure_ (i := 8) (N := some 2) (v := ?_) (a' := ?_) #[true, true, true, true, true, true, true, true, true] rfl rfl (zaI HT_.out (by kernel_rfl)) (fun _ _ _ h => h) (Or.inl ⟨by rfl, ?_⟩) ?_ ?_
     rotate_left
     ·intro w'
      go_simp
      with_reducible rfl
     rotate_left
     ·simp only [Act.put, List.setIfInBounds_toArray, List.set_cons_zero, List.set_cons_succ, i64_w, i32_w]
      rfl
     refine done_ (done_of HT_.out (by kernel_rfl)) ?_
     try go_wp2
     go_ret
     exact ⟨by first | rfl | (simp [errW_none, errW_some] <;> rfl) | (simp [*, errW_none, errW_some] <;> rfl), by repeat (first | (with_reducible first | exact HB.o | apply zaf | apply zah | apply zag | refine zae ?_ GE108.o) | exact HB.o)⟩
    ·rw [if_neg c14] at H
     exact absurd H (by simp)
   ·rw [if_neg c12] at H
    exact absurd H (by simp)
 ·replace c3 := Bool.eq_false_iff.mpr c3
  subst c3
  have H1 : (some (⟨#[]⟩ : ByteArray)) = some r := by rw [if_neg (show ¬ (false = true) by decide)] at H; exact H
  clear H
  have H := H1
  clear H1
  obtain rfl := Option.some.inj H
  go_enter Tryd.func16, Tryd.ntmps16
  go_wp2_with (first | ((with_reducible refine zaq (N := 1) rfl ?_); refine zar ?hg (N := 1) ?hd (cs := #[.int .i64 a0_0, .int .i64 a0_1]) (t := 24) ?hr ?_; (case hd => rfl); (case hg => rfl); (case hr => first | (go_simp; done) | (go_simp; rfl)); intro gb108 hg w22 hbox hb; have n0_ := zaa.mk (zao (by repeat (first | (with_reducible first | exact HB.o | apply zaf | apply zah | apply zag) | exact HB.o)) hb); have n1_ := zaa.mk (hbox); have n2_ := zaa.mk ((by rw [hg]; exact (zan (by repeat (first | (with_reducible first | exact HB.o | apply zaf | apply zah | apply zag) | exact HB.o))) : w.heap.size ≤ gb108)); have n3_ := zaa.mk ((by rw [hg]; exact (zan (by repeat (first | (with_reducible first | exact HB.o | apply zaf | apply zah | apply zag) | exact HB.o))) : w.heap.size ≤ gb108)); clear HB; have HB := n0_; have BK108 := n1_; have GW108 := n2_; have GE108 := n3_; clear n0_ n1_ n2_ n3_; clear hb hbox hg; obtain ⟨hcz23_0, hcz23_1⟩ := cz2 BK108.o; obtain ⟨hfz23_0, hfz23_1⟩ := fz2 BK108.o) | ((with_reducible refine zas (f := 18) rfl ?_); refine zat (some 4) rfl rfl Tryd.func18 (by kernel_rfl) rfl #[.agg #[.int .i64 a0_0, .int .i64 a0_1]] rfl (by (try simp only [List.map_toArray, List.map_cons, List.map_nil]); first | done | rfl | (simp only [List.length_drop, List.length_take]; rfl)) ?_; (with_reducible refine (rational_Valid.calls k a0_0 a0_1 false _ A2.o).mono ?_); rintro e w24 ⟨rfl, hb⟩; refine ⟨_, rfl, ?_⟩; have n0_ := zaa.mk (zaj (by (with_reducible repeat (first | refine zad ?_ _ | refine zab ?_ | refine zac ?_ _)); exact BK108.o) hb); have n1_ := zaa.mk (zao (by repeat (first | (with_reducible first | exact HB.o | apply zaf | apply zah | apply zag | refine zae ?_ GE108.o) | exact HB.o)) hb); clear BK108; clear HB; have BK108 := n0_; have HB := n1_; clear n0_ n1_; (try clear hb); (try clear hb2); (try clear hk); (try clear hi)))
  go_ret
  exact ⟨by first | rfl | (simp [errW_none, errW_some] <;> rfl) | (simp [*, errW_none, errW_some] <;> rfl), by repeat (first | (with_reducible first | exact HB.o | apply zaf | apply zah | apply zag | refine zae ?_ GE108.o) | exact HB.o)⟩

end Go.Proofs.YtoieknocpphjoaaDoor.P
