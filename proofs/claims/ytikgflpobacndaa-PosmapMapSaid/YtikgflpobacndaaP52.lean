--m
/- Written by wip/tool/hprint.py (the kit's print.py with hand-proved contracts set in): contracts of the functions that the statements of this seat reach, without conditions beyond those named in each theorem. -/
import Derived.Test.YtikgflpobacndaaP0
namespace Go.Proofs.Ytikgflpobacndaa.P
open Go.RowKit Go.Proofs.YtikgflpobacndaaW.PrintWords Go.Proofs.YtikgflpobacndaaW.PrintLast Go.Proofs.YtikgflpobacndaaW.PrintMore
attribute [local go_sem] zaz zaA zaB zaC zaD zaE zaF zaG   -- for this text's walks alone
set_option linter.unusedVariables false
set_option linter.unusedSimpArgs false

/-! ### vinculumref13_offset: function 46 -/
mutual
def vinculumref13_offset.j0 : Nat → Int → Int → Bool → Int → List Int → Int → Int → List (S24) → Int → ByteArray → ByteArray → Option (List Int)
 | 0, _, _, _, _, _, _, _, _, _, _, _ => none
 | k + 1, x1, x7, x45, x542000, x542001, x542002, x542003, x542004, x542005, x542006, x542007 => if x45 = true then (some (([x542002] : List Int))) else (if x1 > x542002 then (some (([wrap64 (x1 - x7)] : List Int))) else (some (([x1] : List Int))))
def vinculumref13_offset.j1 : Nat → Int → Bool → Bool → Int → List Int → Int → Int → List (S24) → Int → ByteArray → ByteArray → Option (List Int)
 | 0, _, _, _, _, _, _, _, _, _, _, _ => none
 | k + 1, x1, x2, x71, x542000, x542001, x542002, x542003, x542004, x542005, x542006, x542007 => if x71 = true then (some (([x542002, x542005, wrap64 (x1 - x542002)] : List Int))) else (if x1 > x542002 then (some (([wrap64 ((wrap64 (x1 - x542003)) + 1)] : List Int))) else (if x1 = x542002 then (if x542003 = 0 then (if x2 = true then (some (([wrap64 (x542002 + 1)] : List Int))) else (some (([x1] : List Int)))) else (some (([x1] : List Int)))) else (some (([x1] : List Int)))))
end
def vinculumref13_offset.f (k : Nat) (a0_0 : Int) (l0_1 : List Int) (a0_2 : Int) (a0_3 : Int) (l0_4 : List (S24)) (a0_5 : Int) (a0_6 : ByteArray) (a0_7 : ByteArray) (a1 : Int) (a2 : Bool) : Option (List Int) := if a0_0 = 1 then (if a1 > a0_2 then (some (([wrap64 (a1 + (l0_4.length : Int))] : List Int))) else (if a1 = a0_2 then (if a2 = true then (some (([wrap64 (a1 + (l0_4.length : Int))] : List Int))) else (some (([a1] : List Int)))) else (some (([a1] : List Int))))) else (if a0_0 = 2 then (if a1 > a0_2 then (vinculumref13_offset.j0 k a1 (l0_4.length : Int) (decide (a1 < (wrap64 (a0_2 + (l0_4.length : Int))))) a0_0 l0_1 a0_2 a0_3 l0_4 a0_5 a0_6 a0_7) else (vinculumref13_offset.j0 k a1 (l0_4.length : Int) false a0_0 l0_1 a0_2 a0_3 l0_4 a0_5 a0_6 a0_7)) else (if a0_0 = 3 then (if a1 > a0_2 then (vinculumref13_offset.j1 k a1 a2 (decide (a1 < (wrap64 (a0_2 + a0_3)))) a0_0 l0_1 a0_2 a0_3 l0_4 a0_5 a0_6 a0_7) else (vinculumref13_offset.j1 k a1 a2 false a0_0 l0_1 a0_2 a0_3 l0_4 a0_5 a0_6 a0_7)) else (if a0_0 = 4 then (if a1 > a0_2 then (some (([wrap64 ((wrap64 (a1 - 1)) + a0_3)] : List Int))) else (some (([a1] : List Int)))) else (some (([a1] : List Int))))))
theorem vinculumref13_offset.mono_l : ∀ k, (∀ y0 y1 y2 y3 y4 y5 y6 y7 y8 y9 y10, LeO (vinculumref13_offset.j0 k y0 y1 y2 y3 y4 y5 y6 y7 y8 y9 y10) (vinculumref13_offset.j0 (k + 1) y0 y1 y2 y3 y4 y5 y6 y7 y8 y9 y10)) ∧ (∀ y0 y1 y2 y3 y4 y5 y6 y7 y8 y9 y10, LeO (vinculumref13_offset.j1 k y0 y1 y2 y3 y4 y5 y6 y7 y8 y9 y10) (vinculumref13_offset.j1 (k + 1) y0 y1 y2 y3 y4 y5 y6 y7 y8 y9 y10))
 | 0 => ⟨fun _ _ _ _ _ _ _ _ _ _ _ r h => by simp [vinculumref13_offset.j0] at h, fun _ _ _ _ _ _ _ _ _ _ _ r h => by simp [vinculumref13_offset.j1] at h⟩
 | k + 1 => by
  obtain ⟨ih0, ih1⟩ := vinculumref13_offset.mono_l k
  refine ⟨?_, ?_⟩
  ·intro y0 y1 y2 y3 y4 y5 y6 y7 y8 y9 y10
   unfold vinculumref13_offset.j0
   repeat' first
   | (with_reducible exact ih0 _ _ _ _ _ _ _ _ _ _ _)
   | (with_reducible exact ih1 _ _ _ _ _ _ _ _ _ _ _)
   | (with_reducible exact LeO.refl _)
   | (with_reducible exact LeO.none _)
   | (with_reducible refine LeO.ite ?_ ?_)
   | (with_reducible refine LeO.bind ?_ (fun _ => ?_))
   | exact ih0 _ _ _ _ _ _ _ _ _ _ _
   | exact ih1 _ _ _ _ _ _ _ _ _ _ _
   | exact LeO.none _
   | refine LeO.ite ?_ ?_
   | refine LeO.bind ?_ (fun _ => ?_)
  ·intro y0 y1 y2 y3 y4 y5 y6 y7 y8 y9 y10
   unfold vinculumref13_offset.j1
   repeat' first
   | (with_reducible exact ih0 _ _ _ _ _ _ _ _ _ _ _)
   | (with_reducible exact ih1 _ _ _ _ _ _ _ _ _ _ _)
   | (with_reducible exact LeO.refl _)
   | (with_reducible exact LeO.none _)
   | (with_reducible refine LeO.ite ?_ ?_)
   | (with_reducible refine LeO.bind ?_ (fun _ => ?_))
   | exact ih0 _ _ _ _ _ _ _ _ _ _ _
   | exact ih1 _ _ _ _ _ _ _ _ _ _ _
   | exact LeO.none _
   | refine LeO.ite ?_ ?_
   | refine LeO.bind ?_ (fun _ => ?_)
theorem vinculumref13_offset.mono : ∀ a0 a1 a2 a3 a4 a5 a6 a7 a8 a9 k, LeO (vinculumref13_offset.f k a0 a1 a2 a3 a4 a5 a6 a7 a8 a9) (vinculumref13_offset.f (k + 1) a0 a1 a2 a3 a4 a5 a6 a7 a8 a9) := by
 intro a0 a1 a2 a3 a4 a5 a6 a7 a8 a9 k
 obtain ⟨ih0, ih1⟩ := vinculumref13_offset.mono_l k
 unfold vinculumref13_offset.f
 repeat' first
   | (with_reducible exact ih0 _ _ _ _ _ _ _ _ _ _ _)
   | (with_reducible exact ih1 _ _ _ _ _ _ _ _ _ _ _)
   | (with_reducible exact LeO.refl _)
   | (with_reducible exact LeO.none _)
   | (with_reducible refine LeO.ite ?_ ?_)
   | (with_reducible refine LeO.bind ?_ (fun _ => ?_))
   | exact ih0 _ _ _ _ _ _ _ _ _ _ _
   | exact ih1 _ _ _ _ _ _ _ _ _ _ _
   | exact LeO.none _
   | refine LeO.ite ?_ ?_
   | refine LeO.bind ?_ (fun _ => ?_)

section
variable (a0 : Int) (A1 : Option Addr) (c1 : Nat) (l1 : List Int) (a2 a3 : Int) (A4 : Option Addr) (c4 : Nat) (l4 : List S24) (a5 : Int) (a6 a7 : ByteArray) (i : Int) (after : Bool) (w : World)
def OffC (v : List Int) : Prop := Calls Try.prog 46 #[.agg #[.int .i64 a0, .slice A1 l1.length c1, .int .i64 a2, .int .i64 a3, .slice A4 l4.length c4, .int .i64 a5, .string a6, .string a7], .int .i64 i, .bool after] w fun e w' => ∃ v0_ : Value, e = .returned (v0_) ∧ Kd.R (Kd.int .i64) 3 w' w.heap.size (fun _ => True) v0_ v ∧ Below w.heap.size w w'
set_option maxRecDepth 100000 in
set_option maxHeartbeats 4000000 in
theorem off_1a (k1 : a0 = 1) (g1 : i > a2) : OffC a0 A1 c1 l1 a2 a3 A4 c4 l4 a5 a6 a7 i after w [wrap64 (i + (l4.length : Int))] := by
 have hu := Try.underlying27
 have z1 : (a0 == 1) = true := by simpa using (by omega : a0 = 1)
 have d1 : decide (a2 < i) = true := decide_eq_true (by omega)
 clear k1 g1
 unfold OffC
 go_enter Try.func46, Try.ntmps46
 go_wp2_with (refine Kd.R_lit (Kd.int .i64) _ 3 ?hg (N := 31) ?hd (xs := [wrap64 (i + (l4.length : Int))]) (inner := [.int .i64 (wrap64 (i + (l4.length : Int)))]) (ok := fun _ => True) (okp := fun _ => True) ?hr ?hp (fun _ hk => hk) trivial (Below.refl _ _) (Nat.le_refl _) (by simp) ?_; (case hd => rfl); (case hg => rfl); (case hr => first | (go_simp; done) | (go_simp; rfl)); (case hp => exact (Reps.one (show Kd.M (Kd.int .i64) _ _ _ (wrap64 (i + (l4.length : Int))) [.int .i64 (wrap64 (i + (l4.length : Int)))] from rfl) (Reps.none _ _))); intro v0 w8 ho9 hb _ _)
 go_ret
 exact ⟨v0, rfl, Kd.R_lower ho9 (by simp), zal (zad (Below.refl _ _) _) hb⟩
set_option maxRecDepth 100000 in
set_option maxHeartbeats 4000000 in
theorem off_1b (k1 : a0 = 1) (g2 : i = a2) (g3 : after = true) : OffC a0 A1 c1 l1 a2 a3 A4 c4 l4 a5 a6 a7 i after w [wrap64 (i + (l4.length : Int))] := by
 have hu := Try.underlying27
 have z1 : (a0 == 1) = true := by simpa using (by omega : a0 = 1)
 have d1 : decide (a2 < i) = false := decide_eq_false (by omega)
 have d2 : (i == a2) = true := by simpa using (by omega : i = a2)
 subst g3
 clear k1 g2
 unfold OffC
 go_enter Try.func46, Try.ntmps46
 go_wp2_with (refine Kd.R_lit (Kd.int .i64) _ 3 ?hg (N := 31) ?hd (xs := [wrap64 (i + (l4.length : Int))]) (inner := [.int .i64 (wrap64 (i + (l4.length : Int)))]) (ok := fun _ => True) (okp := fun _ => True) ?hr ?hp (fun _ hk => hk) trivial (Below.refl _ _) (Nat.le_refl _) (by simp) ?_; (case hd => rfl); (case hg => rfl); (case hr => first | (go_simp; done) | (go_simp; rfl)); (case hp => exact (Reps.one (show Kd.M (Kd.int .i64) _ _ _ (wrap64 (i + (l4.length : Int))) [.int .i64 (wrap64 (i + (l4.length : Int)))] from rfl) (Reps.none _ _))); intro v0 w8 ho9 hb _ _)
 go_ret
 exact ⟨v0, rfl, Kd.R_lower ho9 (by simp), zal (zad (Below.refl _ _) _) hb⟩
set_option maxRecDepth 100000 in
set_option maxHeartbeats 4000000 in
theorem off_1c (k1 : a0 = 1) (g2 : i = a2) (g3 : ¬ after = true) : OffC a0 A1 c1 l1 a2 a3 A4 c4 l4 a5 a6 a7 i after w [i] := by
 have hu := Try.underlying27
 have z1 : (a0 == 1) = true := by simpa using (by omega : a0 = 1)
 have d1 : decide (a2 < i) = false := decide_eq_false (by omega)
 have d2 : (i == a2) = true := by simpa using (by omega : i = a2)
 have g4 := Bool.eq_false_iff.2 g3
 subst g4
 clear k1 g2 g3
 unfold OffC
 go_enter Try.func46, Try.ntmps46
 go_wp2_with (refine Kd.R_lit (Kd.int .i64) _ 3 ?hg (N := 120) ?hd (xs := [i]) (inner := [.int .i64 (i)]) (ok := fun _ => True) (okp := fun _ => True) ?hr ?hp (fun _ hk => hk) trivial (Below.refl _ _) (Nat.le_refl _) (by simp) ?_; (case hd => rfl); (case hg => rfl); (case hr => first | (go_simp; done) | (go_simp; rfl)); (case hp => exact (Reps.one (show Kd.M (Kd.int .i64) _ _ _ (i) [.int .i64 (i)] from rfl) (Reps.none _ _))); intro v0 w8 ho9 hb _ _)
 go_ret
 exact ⟨v0, rfl, Kd.R_lower ho9 (by simp), zal (zad (Below.refl _ _) _) hb⟩
set_option maxRecDepth 100000 in
set_option maxHeartbeats 4000000 in
theorem off_1d (k1 : a0 = 1) (g1 : ¬ i > a2) (g2 : ¬ i = a2) : OffC a0 A1 c1 l1 a2 a3 A4 c4 l4 a5 a6 a7 i after w [i] := by
 have hu := Try.underlying27
 have z1 : (a0 == 1) = true := by simpa using (by omega : a0 = 1)
 have d1 : decide (a2 < i) = false := decide_eq_false (by omega)
 have d2 : (i == a2) = false := by simpa using (by omega : ¬ i = a2)
 clear k1 g1 g2
 unfold OffC
 go_enter Try.func46, Try.ntmps46
 go_wp2_with (refine Kd.R_lit (Kd.int .i64) _ 3 ?hg (N := 120) ?hd (xs := [i]) (inner := [.int .i64 (i)]) (ok := fun _ => True) (okp := fun _ => True) ?hr ?hp (fun _ hk => hk) trivial (Below.refl _ _) (Nat.le_refl _) (by simp) ?_; (case hd => rfl); (case hg => rfl); (case hr => first | (go_simp; done) | (go_simp; rfl)); (case hp => exact (Reps.one (show Kd.M (Kd.int .i64) _ _ _ (i) [.int .i64 (i)] from rfl) (Reps.none _ _))); intro v0 w8 ho9 hb _ _)
 go_ret
 exact ⟨v0, rfl, Kd.R_lower ho9 (by simp), zal (zad (Below.refl _ _) _) hb⟩
set_option maxRecDepth 100000 in
set_option maxHeartbeats 4000000 in
theorem off_2a (k1 : a0 = 2) (g1 : i > a2) (g2 : i < wrap64 (a2 + (l4.length : Int))) : OffC a0 A1 c1 l1 a2 a3 A4 c4 l4 a5 a6 a7 i after w [a2] := by
 have hu := Try.underlying27
 have z1 : (a0 == 1) = false := by simpa using (by omega : ¬ a0 = 1)
 have z2 : (a0 == 2) = true := by simpa using (by omega : a0 = 2)
 have d1 : decide (a2 < i) = true := decide_eq_true (by omega)
 have d2 : decide (i < wrap64 (a2 + (l4.length : Int))) = true := decide_eq_true g2
 clear k1 g1 g2
 unfold OffC
 go_enter Try.func46, Try.ntmps46
 go_wp2_with (refine Kd.R_lit (Kd.int .i64) _ 3 ?hg (N := 48) ?hd (xs := [a2]) (inner := [.int .i64 (a2)]) (ok := fun _ => True) (okp := fun _ => True) ?hr ?hp (fun _ hk => hk) trivial (Below.refl _ _) (Nat.le_refl _) (by simp) ?_; (case hd => rfl); (case hg => rfl); (case hr => first | (go_simp; done) | (go_simp; rfl)); (case hp => exact (Reps.one (show Kd.M (Kd.int .i64) _ _ _ (a2) [.int .i64 (a2)] from rfl) (Reps.none _ _))); intro v0 w8 ho9 hb _ _)
 go_ret
 exact ⟨v0, rfl, Kd.R_lower ho9 (by simp), zal (zad (Below.refl _ _) _) hb⟩
set_option maxRecDepth 100000 in
set_option maxHeartbeats 4000000 in
theorem off_2b (k1 : a0 = 2) (g1 : i > a2) (g2 : ¬ i < wrap64 (a2 + (l4.length : Int))) : OffC a0 A1 c1 l1 a2 a3 A4 c4 l4 a5 a6 a7 i after w [wrap64 (i - (l4.length : Int))] := by
 have hu := Try.underlying27
 have z1 : (a0 == 1) = false := by simpa using (by omega : ¬ a0 = 1)
 have z2 : (a0 == 2) = true := by simpa using (by omega : a0 = 2)
 have d1 : decide (a2 < i) = true := decide_eq_true (by omega)
 have d2 : decide (i < wrap64 (a2 + (l4.length : Int))) = false := decide_eq_false g2
 clear k1 g1 g2
 unfold OffC
 go_enter Try.func46, Try.ntmps46
 go_wp2_with (refine Kd.R_lit (Kd.int .i64) _ 3 ?hg (N := 56) ?hd (xs := [wrap64 (i - (l4.length : Int))]) (inner := [.int .i64 (wrap64 (i - (l4.length : Int)))]) (ok := fun _ => True) (okp := fun _ => True) ?hr ?hp (fun _ hk => hk) trivial (Below.refl _ _) (Nat.le_refl _) (by simp) ?_; (case hd => rfl); (case hg => rfl); (case hr => first | (go_simp; done) | (go_simp; rfl)); (case hp => exact (Reps.one (show Kd.M (Kd.int .i64) _ _ _ (wrap64 (i - (l4.length : Int))) [.int .i64 (wrap64 (i - (l4.length : Int)))] from rfl) (Reps.none _ _))); intro v0 w8 ho9 hb _ _)
 go_ret
 exact ⟨v0, rfl, Kd.R_lower ho9 (by simp), zal (zad (Below.refl _ _) _) hb⟩
set_option maxRecDepth 100000 in
set_option maxHeartbeats 4000000 in
theorem off_2c (k1 : a0 = 2) (g1 : ¬ i > a2) : OffC a0 A1 c1 l1 a2 a3 A4 c4 l4 a5 a6 a7 i after w [i] := by
 have hu := Try.underlying27
 have z1 : (a0 == 1) = false := by simpa using (by omega : ¬ a0 = 1)
 have z2 : (a0 == 2) = true := by simpa using (by omega : a0 = 2)
 have d1 : decide (a2 < i) = false := decide_eq_false (by omega)
 clear k1 g1
 unfold OffC
 go_enter Try.func46, Try.ntmps46
 go_wp2_with (refine Kd.R_lit (Kd.int .i64) _ 3 ?hg (N := 120) ?hd (xs := [i]) (inner := [.int .i64 (i)]) (ok := fun _ => True) (okp := fun _ => True) ?hr ?hp (fun _ hk => hk) trivial (Below.refl _ _) (Nat.le_refl _) (by simp) ?_; (case hd => rfl); (case hg => rfl); (case hr => first | (go_simp; done) | (go_simp; rfl)); (case hp => exact (Reps.one (show Kd.M (Kd.int .i64) _ _ _ (i) [.int .i64 (i)] from rfl) (Reps.none _ _))); intro v0 w8 ho9 hb _ _)
 go_ret
 exact ⟨v0, rfl, Kd.R_lower ho9 (by simp), zal (zad (Below.refl _ _) _) hb⟩
set_option maxRecDepth 100000 in
set_option maxHeartbeats 4000000 in
theorem off_3a (k1 : a0 = 3) (g1 : i > a2) (g2 : i < wrap64 (a2 + a3)) : OffC a0 A1 c1 l1 a2 a3 A4 c4 l4 a5 a6 a7 i after w [a2, a5, wrap64 (i - a2)] := by
 have hu := Try.underlying27
 have z1 : (a0 == 1) = false := by simpa using (by omega : ¬ a0 = 1)
 have z2 : (a0 == 2) = false := by simpa using (by omega : ¬ a0 = 2)
 have z3 : (a0 == 3) = true := by simpa using (by omega : a0 = 3)
 have d1 : decide (a2 < i) = true := decide_eq_true (by omega)
 have d2 : decide (i < wrap64 (a2 + a3)) = true := decide_eq_true g2
 clear k1 g1 g2
 unfold OffC
 go_enter Try.func46, Try.ntmps46
 go_wp2_with (refine Kd.R_lit (Kd.int .i64) _ 3 ?hg (N := 80) ?hd (xs := [a2, a5, wrap64 (i - a2)]) (inner := [.int .i64 (a2), .int .i64 (a5), .int .i64 (wrap64 (i - a2))]) (ok := fun _ => True) (okp := fun _ => True) ?hr ?hp (fun _ hk => hk) trivial (Below.refl _ _) (Nat.le_refl _) (by simp) ?_; (case hd => rfl); (case hg => rfl); (case hr => first | (go_simp; done) | (go_simp; rfl)); (case hp => exact (Reps.one (show Kd.M (Kd.int .i64) _ _ _ (a2) [.int .i64 (a2)] from rfl) (Reps.one (show Kd.M (Kd.int .i64) _ _ _ (a5) [.int .i64 (a5)] from rfl) (Reps.one (show Kd.M (Kd.int .i64) _ _ _ (wrap64 (i - a2)) [.int .i64 (wrap64 (i - a2))] from rfl) (Reps.none _ _))))); intro v0 w8 ho9 hb _ _)
 go_ret
 exact ⟨v0, rfl, Kd.R_lower ho9 (by simp), zal (zad (Below.refl _ _) _) hb⟩
set_option maxRecDepth 100000 in
set_option maxHeartbeats 4000000 in
theorem off_3b (k1 : a0 = 3) (g1 : i > a2) (g2 : ¬ i < wrap64 (a2 + a3)) : OffC a0 A1 c1 l1 a2 a3 A4 c4 l4 a5 a6 a7 i after w [wrap64 (wrap64 (i - a3) + 1)] := by
 have hu := Try.underlying27
 have z1 : (a0 == 1) = false := by simpa using (by omega : ¬ a0 = 1)
 have z2 : (a0 == 2) = false := by simpa using (by omega : ¬ a0 = 2)
 have z3 : (a0 == 3) = true := by simpa using (by omega : a0 = 3)
 have d1 : decide (a2 < i) = true := decide_eq_true (by omega)
 have d2 : decide (i < wrap64 (a2 + a3)) = false := decide_eq_false g2
 clear k1 g1 g2
 unfold OffC
 go_enter Try.func46, Try.ntmps46
 go_wp2_with (refine Kd.R_lit (Kd.int .i64) _ 3 ?hg (N := 90) ?hd (xs := [wrap64 (wrap64 (i - a3) + 1)]) (inner := [.int .i64 (wrap64 (wrap64 (i - a3) + 1))]) (ok := fun _ => True) (okp := fun _ => True) ?hr ?hp (fun _ hk => hk) trivial (Below.refl _ _) (Nat.le_refl _) (by simp) ?_; (case hd => rfl); (case hg => rfl); (case hr => first | (go_simp; done) | (go_simp; rfl)); (case hp => exact (Reps.one (show Kd.M (Kd.int .i64) _ _ _ (wrap64 (wrap64 (i - a3) + 1)) [.int .i64 (wrap64 (wrap64 (i - a3) + 1))] from rfl) (Reps.none _ _))); intro v0 w8 ho9 hb _ _)
 go_ret
 exact ⟨v0, rfl, Kd.R_lower ho9 (by simp), zal (zad (Below.refl _ _) _) hb⟩
set_option maxRecDepth 100000 in
set_option maxHeartbeats 4000000 in
theorem off_3c (k1 : a0 = 3) (g1 : i = a2) (g2 : a3 = 0) (g3 : after = true) : OffC a0 A1 c1 l1 a2 a3 A4 c4 l4 a5 a6 a7 i after w [wrap64 (a2 + 1)] := by
 have hu := Try.underlying27
 have z1 : (a0 == 1) = false := by simpa using (by omega : ¬ a0 = 1)
 have z2 : (a0 == 2) = false := by simpa using (by omega : ¬ a0 = 2)
 have z3 : (a0 == 3) = true := by simpa using (by omega : a0 = 3)
 have d1 : decide (a2 < i) = false := decide_eq_false (by omega)
 have d2 : (i == a2) = true := by simpa using (by omega : i = a2)
 have d3 : (a3 == 0) = true := by simpa using g2
 subst g3
 clear k1 g1 g2
 unfold OffC
 go_enter Try.func46, Try.ntmps46
 go_wp2_with (refine Kd.R_lit (Kd.int .i64) _ 3 ?hg (N := 106) ?hd (xs := [wrap64 (a2 + 1)]) (inner := [.int .i64 (wrap64 (a2 + 1))]) (ok := fun _ => True) (okp := fun _ => True) ?hr ?hp (fun _ hk => hk) trivial (Below.refl _ _) (Nat.le_refl _) (by simp) ?_; (case hd => rfl); (case hg => rfl); (case hr => first | (go_simp; done) | (go_simp; rfl)); (case hp => exact (Reps.one (show Kd.M (Kd.int .i64) _ _ _ (wrap64 (a2 + 1)) [.int .i64 (wrap64 (a2 + 1))] from rfl) (Reps.none _ _))); intro v0 w8 ho9 hb _ _)
 go_ret
 exact ⟨v0, rfl, Kd.R_lower ho9 (by simp), zal (zad (Below.refl _ _) _) hb⟩
set_option maxRecDepth 100000 in
set_option maxHeartbeats 4000000 in
theorem off_3d (k1 : a0 = 3) (g1 : i = a2) (g2 : a3 = 0) (g3 : ¬ after = true) : OffC a0 A1 c1 l1 a2 a3 A4 c4 l4 a5 a6 a7 i after w [i] := by
 have hu := Try.underlying27
 have z1 : (a0 == 1) = false := by simpa using (by omega : ¬ a0 = 1)
 have z2 : (a0 == 2) = false := by simpa using (by omega : ¬ a0 = 2)
 have z3 : (a0 == 3) = true := by simpa using (by omega : a0 = 3)
 have d1 : decide (a2 < i) = false := decide_eq_false (by omega)
 have d2 : (i == a2) = true := by simpa using (by omega : i = a2)
 have d3 : (a3 == 0) = true := by simpa using g2
 have g4 := Bool.eq_false_iff.2 g3
 subst g4
 clear k1 g1 g2 g3
 unfold OffC
 go_enter Try.func46, Try.ntmps46
 go_wp2_with (refine Kd.R_lit (Kd.int .i64) _ 3 ?hg (N := 120) ?hd (xs := [i]) (inner := [.int .i64 (i)]) (ok := fun _ => True) (okp := fun _ => True) ?hr ?hp (fun _ hk => hk) trivial (Below.refl _ _) (Nat.le_refl _) (by simp) ?_; (case hd => rfl); (case hg => rfl); (case hr => first | (go_simp; done) | (go_simp; rfl)); (case hp => exact (Reps.one (show Kd.M (Kd.int .i64) _ _ _ (i) [.int .i64 (i)] from rfl) (Reps.none _ _))); intro v0 w8 ho9 hb _ _)
 go_ret
 exact ⟨v0, rfl, Kd.R_lower ho9 (by simp), zal (zad (Below.refl _ _) _) hb⟩
set_option maxRecDepth 100000 in
set_option maxHeartbeats 4000000 in
theorem off_3e (k1 : a0 = 3) (g1 : i = a2) (g2 : ¬ a3 = 0) : OffC a0 A1 c1 l1 a2 a3 A4 c4 l4 a5 a6 a7 i after w [i] := by
 have hu := Try.underlying27
 have z1 : (a0 == 1) = false := by simpa using (by omega : ¬ a0 = 1)
 have z2 : (a0 == 2) = false := by simpa using (by omega : ¬ a0 = 2)
 have z3 : (a0 == 3) = true := by simpa using (by omega : a0 = 3)
 have d1 : decide (a2 < i) = false := decide_eq_false (by omega)
 have d2 : (i == a2) = true := by simpa using (by omega : i = a2)
 have d3 : (a3 == 0) = false := by simpa using g2
 clear k1 g1 g2
 unfold OffC
 go_enter Try.func46, Try.ntmps46
 go_wp2_with (refine Kd.R_lit (Kd.int .i64) _ 3 ?hg (N := 120) ?hd (xs := [i]) (inner := [.int .i64 (i)]) (ok := fun _ => True) (okp := fun _ => True) ?hr ?hp (fun _ hk => hk) trivial (Below.refl _ _) (Nat.le_refl _) (by simp) ?_; (case hd => rfl); (case hg => rfl); (case hr => first | (go_simp; done) | (go_simp; rfl)); (case hp => exact (Reps.one (show Kd.M (Kd.int .i64) _ _ _ (i) [.int .i64 (i)] from rfl) (Reps.none _ _))); intro v0 w8 ho9 hb _ _)
 go_ret
 exact ⟨v0, rfl, Kd.R_lower ho9 (by simp), zal (zad (Below.refl _ _) _) hb⟩
set_option maxRecDepth 100000 in
set_option maxHeartbeats 4000000 in
theorem off_3f (k1 : a0 = 3) (g0 : ¬ i > a2) (g1 : ¬ i = a2) : OffC a0 A1 c1 l1 a2 a3 A4 c4 l4 a5 a6 a7 i after w [i] := by
 have hu := Try.underlying27
 have z1 : (a0 == 1) = false := by simpa using (by omega : ¬ a0 = 1)
 have z2 : (a0 == 2) = false := by simpa using (by omega : ¬ a0 = 2)
 have z3 : (a0 == 3) = true := by simpa using (by omega : a0 = 3)
 have d1 : decide (a2 < i) = false := decide_eq_false (by omega)
 have d2 : (i == a2) = false := by simpa using (by omega : ¬ i = a2)
 clear k1 g0 g1
 unfold OffC
 go_enter Try.func46, Try.ntmps46
 go_wp2_with (refine Kd.R_lit (Kd.int .i64) _ 3 ?hg (N := 120) ?hd (xs := [i]) (inner := [.int .i64 (i)]) (ok := fun _ => True) (okp := fun _ => True) ?hr ?hp (fun _ hk => hk) trivial (Below.refl _ _) (Nat.le_refl _) (by simp) ?_; (case hd => rfl); (case hg => rfl); (case hr => first | (go_simp; done) | (go_simp; rfl)); (case hp => exact (Reps.one (show Kd.M (Kd.int .i64) _ _ _ (i) [.int .i64 (i)] from rfl) (Reps.none _ _))); intro v0 w8 ho9 hb _ _)
 go_ret
 exact ⟨v0, rfl, Kd.R_lower ho9 (by simp), zal (zad (Below.refl _ _) _) hb⟩
set_option maxRecDepth 100000 in
set_option maxHeartbeats 4000000 in
theorem off_4a (k1 : a0 = 4) (g1 : i > a2) : OffC a0 A1 c1 l1 a2 a3 A4 c4 l4 a5 a6 a7 i after w [wrap64 (wrap64 (i - 1) + a3)] := by
 have hu := Try.underlying27
 have z1 : (a0 == 1) = false := by simpa using (by omega : ¬ a0 = 1)
 have z2 : (a0 == 2) = false := by simpa using (by omega : ¬ a0 = 2)
 have z3 : (a0 == 3) = false := by simpa using (by omega : ¬ a0 = 3)
 have z4 : (a0 == 4) = true := by simpa using (by omega : a0 = 4)
 have d1 : decide (a2 < i) = true := decide_eq_true (by omega)
 clear k1 g1
 unfold OffC
 go_enter Try.func46, Try.ntmps46
 go_wp2_with (refine Kd.R_lit (Kd.int .i64) _ 3 ?hg (N := 118) ?hd (xs := [wrap64 (wrap64 (i - 1) + a3)]) (inner := [.int .i64 (wrap64 (wrap64 (i - 1) + a3))]) (ok := fun _ => True) (okp := fun _ => True) ?hr ?hp (fun _ hk => hk) trivial (Below.refl _ _) (Nat.le_refl _) (by simp) ?_; (case hd => rfl); (case hg => rfl); (case hr => first | (go_simp; done) | (go_simp; rfl)); (case hp => exact (Reps.one (show Kd.M (Kd.int .i64) _ _ _ (wrap64 (wrap64 (i - 1) + a3)) [.int .i64 (wrap64 (wrap64 (i - 1) + a3))] from rfl) (Reps.none _ _))); intro v0 w8 ho9 hb _ _)
 go_ret
 exact ⟨v0, rfl, Kd.R_lower ho9 (by simp), zal (zad (Below.refl _ _) _) hb⟩
set_option maxRecDepth 100000 in
set_option maxHeartbeats 4000000 in
theorem off_4b (k1 : a0 = 4) (g1 : ¬ i > a2) : OffC a0 A1 c1 l1 a2 a3 A4 c4 l4 a5 a6 a7 i after w [i] := by
 have hu := Try.underlying27
 have z1 : (a0 == 1) = false := by simpa using (by omega : ¬ a0 = 1)
 have z2 : (a0 == 2) = false := by simpa using (by omega : ¬ a0 = 2)
 have z3 : (a0 == 3) = false := by simpa using (by omega : ¬ a0 = 3)
 have z4 : (a0 == 4) = true := by simpa using (by omega : a0 = 4)
 have d1 : decide (a2 < i) = false := decide_eq_false (by omega)
 clear k1 g1
 unfold OffC
 go_enter Try.func46, Try.ntmps46
 go_wp2_with (refine Kd.R_lit (Kd.int .i64) _ 3 ?hg (N := 120) ?hd (xs := [i]) (inner := [.int .i64 (i)]) (ok := fun _ => True) (okp := fun _ => True) ?hr ?hp (fun _ hk => hk) trivial (Below.refl _ _) (Nat.le_refl _) (by simp) ?_; (case hd => rfl); (case hg => rfl); (case hr => first | (go_simp; done) | (go_simp; rfl)); (case hp => exact (Reps.one (show Kd.M (Kd.int .i64) _ _ _ (i) [.int .i64 (i)] from rfl) (Reps.none _ _))); intro v0 w8 ho9 hb _ _)
 go_ret
 exact ⟨v0, rfl, Kd.R_lower ho9 (by simp), zal (zad (Below.refl _ _) _) hb⟩
set_option maxRecDepth 100000 in
set_option maxHeartbeats 4000000 in
theorem off_x (k1 : ¬ a0 = 1) (k2 : ¬ a0 = 2) (k3 : ¬ a0 = 3) (k4 : ¬ a0 = 4) : OffC a0 A1 c1 l1 a2 a3 A4 c4 l4 a5 a6 a7 i after w [i] := by
 have hu := Try.underlying27
 have z1 : (a0 == 1) = false := by simpa using (by omega : ¬ a0 = 1)
 have z2 : (a0 == 2) = false := by simpa using (by omega : ¬ a0 = 2)
 have z3 : (a0 == 3) = false := by simpa using (by omega : ¬ a0 = 3)
 have z4 : (a0 == 4) = false := by simpa using (by omega : ¬ a0 = 4)
 clear k1 k2 k3 k4
 unfold OffC
 go_enter Try.func46, Try.ntmps46
 go_wp2_with (refine Kd.R_lit (Kd.int .i64) _ 3 ?hg (N := 120) ?hd (xs := [i]) (inner := [.int .i64 (i)]) (ok := fun _ => True) (okp := fun _ => True) ?hr ?hp (fun _ hk => hk) trivial (Below.refl _ _) (Nat.le_refl _) (by simp) ?_; (case hd => rfl); (case hg => rfl); (case hr => first | (go_simp; done) | (go_simp; rfl)); (case hp => exact (Reps.one (show Kd.M (Kd.int .i64) _ _ _ (i) [.int .i64 (i)] from rfl) (Reps.none _ _))); intro v0 w8 ho9 hb _ _)
 go_ret
 exact ⟨v0, rfl, Kd.R_lower ho9 (by simp), zal (zad (Below.refl _ _) _) hb⟩
end
theorem vinculumref13_offset.calls (k : Nat) (a0_0 : Int) (A0_1 : Option Addr) (c0_1 : Nat) (l0_1 : List Int) (a0_2 : Int) (a0_3 : Int) (A0_4 : Option Addr) (c0_4 : Nat) (l0_4 : List (S24)) (a0_5 : Int) (a0_6 : ByteArray) (a0_7 : ByteArray) (a1 : Int) (a2 : Bool) (r : List Int) (w : World) (hr0_1 : Kd.C (Kd.int .i64) w A0_1 l0_1.length l0_1) (hc0_1 : l0_1.length ≤ c0_1) (hr0_4 : Kd.C k24 w A0_4 l0_4.length l0_4) (hc0_4 : l0_4.length ≤ c0_4) (h : vinculumref13_offset.f k a0_0 l0_1 a0_2 a0_3 l0_4 a0_5 a0_6 a0_7 a1 a2 = some r) :
  Calls Try.prog 46 #[.agg #[.int .i64 a0_0, .slice A0_1 l0_1.length c0_1, .int .i64 a0_2, .int .i64 a0_3, .slice A0_4 l0_4.length c0_4, .int .i64 a0_5, .string a0_6, .string a0_7], .int .i64 a1, .bool a2] w fun e w' => ∃ v0_ : Value, e = .returned (v0_) ∧ Kd.R (Kd.int .i64) 3 w' w.heap.size (fun _ => True) v0_ r ∧ Below w.heap.size w w' := by
 show OffC a0_0 A0_1 c0_1 l0_1 a0_2 a0_3 A0_4 c0_4 l0_4 a0_5 a0_6 a0_7 a1 a2 w r
 unfold vinculumref13_offset.f at h
 split at h
 ·rename_i k1
  split at h
  ·rename_i g1
   obtain rfl := Option.some.inj h
   exact off_1a a0_0 A0_1 c0_1 l0_1 a0_2 a0_3 A0_4 c0_4 l0_4 a0_5 a0_6 a0_7 a1 a2 w k1 g1
  ·rename_i g1
   split at h
   ·rename_i g2
    split at h
    ·rename_i g3
     obtain rfl := Option.some.inj h
     exact off_1b a0_0 A0_1 c0_1 l0_1 a0_2 a0_3 A0_4 c0_4 l0_4 a0_5 a0_6 a0_7 a1 a2 w k1 g2 g3
    ·rename_i g3
     obtain rfl := Option.some.inj h
     exact off_1c a0_0 A0_1 c0_1 l0_1 a0_2 a0_3 A0_4 c0_4 l0_4 a0_5 a0_6 a0_7 a1 a2 w k1 g2 g3
   ·rename_i g2
    obtain rfl := Option.some.inj h
    exact off_1d a0_0 A0_1 c0_1 l0_1 a0_2 a0_3 A0_4 c0_4 l0_4 a0_5 a0_6 a0_7 a1 a2 w k1 g1 g2
 ·rename_i k1
  split at h
  ·rename_i k2
   have key : ∀ b, vinculumref13_offset.j0 k a1 (l0_4.length : Int) b a0_0 l0_1 a0_2 a0_3 l0_4 a0_5 a0_6 a0_7 = some r → b = decide (a1 > a0_2 ∧ a1 < wrap64 (a0_2 + (l0_4.length : Int))) → OffC a0_0 A0_1 c0_1 l0_1 a0_2 a0_3 A0_4 c0_4 l0_4 a0_5 a0_6 a0_7 a1 a2 w r := by
    intro b hb he
    cases k with
    | zero => simp [vinculumref13_offset.j0] at hb
    | succ k =>
     simp only [vinculumref13_offset.j0] at hb
     split at hb
     ·rename_i hb1
      obtain rfl := Option.some.inj hb
      have hg := of_decide_eq_true (he.symm.trans hb1)
      exact off_2a a0_0 A0_1 c0_1 l0_1 a0_2 a0_3 A0_4 c0_4 l0_4 a0_5 a0_6 a0_7 a1 a2 w k2 hg.1 hg.2
     ·rename_i hb1
      have hg := of_decide_eq_false (he.symm.trans (Bool.eq_false_iff.2 hb1))
      split at hb
      ·rename_i g1
       obtain rfl := Option.some.inj hb
       exact off_2b a0_0 A0_1 c0_1 l0_1 a0_2 a0_3 A0_4 c0_4 l0_4 a0_5 a0_6 a0_7 a1 a2 w k2 g1 (fun h_ => hg ⟨g1, h_⟩)
      ·rename_i g1
       obtain rfl := Option.some.inj hb
       exact off_2c a0_0 A0_1 c0_1 l0_1 a0_2 a0_3 A0_4 c0_4 l0_4 a0_5 a0_6 a0_7 a1 a2 w k2 g1
   split at h
   ·rename_i g1
    exact key _ h (by simp [g1])
   ·rename_i g1
    exact key _ h (by simp [g1])
  ·rename_i k2
   split at h
   ·rename_i k3
    have key : ∀ b, vinculumref13_offset.j1 k a1 a2 b a0_0 l0_1 a0_2 a0_3 l0_4 a0_5 a0_6 a0_7 = some r → b = decide (a1 > a0_2 ∧ a1 < wrap64 (a0_2 + a0_3)) → OffC a0_0 A0_1 c0_1 l0_1 a0_2 a0_3 A0_4 c0_4 l0_4 a0_5 a0_6 a0_7 a1 a2 w r := by
     intro b hb he
     cases k with
     | zero => simp [vinculumref13_offset.j1] at hb
     | succ k =>
      simp only [vinculumref13_offset.j1] at hb
      split at hb
      ·rename_i hb1
       obtain rfl := Option.some.inj hb
       have hg := of_decide_eq_true (he.symm.trans hb1)
       exact off_3a a0_0 A0_1 c0_1 l0_1 a0_2 a0_3 A0_4 c0_4 l0_4 a0_5 a0_6 a0_7 a1 a2 w k3 hg.1 hg.2
      ·rename_i hb1
       have hg := of_decide_eq_false (he.symm.trans (Bool.eq_false_iff.2 hb1))
       split at hb
       ·rename_i g1
        obtain rfl := Option.some.inj hb
        exact off_3b a0_0 A0_1 c0_1 l0_1 a0_2 a0_3 A0_4 c0_4 l0_4 a0_5 a0_6 a0_7 a1 a2 w k3 g1 (fun h_ => hg ⟨g1, h_⟩)
       ·rename_i g1
        split at hb
        ·rename_i g2
         split at hb
         ·rename_i g3
          split at hb
          ·rename_i g4
           obtain rfl := Option.some.inj hb
           exact off_3c a0_0 A0_1 c0_1 l0_1 a0_2 a0_3 A0_4 c0_4 l0_4 a0_5 a0_6 a0_7 a1 a2 w k3 g2 g3 g4
          ·rename_i g4
           obtain rfl := Option.some.inj hb
           exact off_3d a0_0 A0_1 c0_1 l0_1 a0_2 a0_3 A0_4 c0_4 l0_4 a0_5 a0_6 a0_7 a1 a2 w k3 g2 g3 g4
         ·rename_i g3
          obtain rfl := Option.some.inj hb
          exact off_3e a0_0 A0_1 c0_1 l0_1 a0_2 a0_3 A0_4 c0_4 l0_4 a0_5 a0_6 a0_7 a1 a2 w k3 g2 g3
        ·rename_i g2
         obtain rfl := Option.some.inj hb
         exact off_3f a0_0 A0_1 c0_1 l0_1 a0_2 a0_3 A0_4 c0_4 l0_4 a0_5 a0_6 a0_7 a1 a2 w k3 g1 g2
    split at h
    ·rename_i g1
     exact key _ h (by simp [g1])
    ·rename_i g1
     exact key _ h (by simp [g1])
   ·rename_i k3
    split at h
    ·rename_i k4
     split at h
     ·rename_i g1
      obtain rfl := Option.some.inj h
      exact off_4a a0_0 A0_1 c0_1 l0_1 a0_2 a0_3 A0_4 c0_4 l0_4 a0_5 a0_6 a0_7 a1 a2 w k4 g1
     ·rename_i g1
      obtain rfl := Option.some.inj h
      exact off_4b a0_0 A0_1 c0_1 l0_1 a0_2 a0_3 A0_4 c0_4 l0_4 a0_5 a0_6 a0_7 a1 a2 w k4 g1
    ·rename_i k4
     obtain rfl := Option.some.inj h
     exact off_x a0_0 A0_1 c0_1 l0_1 a0_2 a0_3 A0_4 c0_4 l0_4 a0_5 a0_6 a0_7 a1 a2 w k1 k2 k3 k4

end Go.Proofs.Ytikgflpobacndaa.P
