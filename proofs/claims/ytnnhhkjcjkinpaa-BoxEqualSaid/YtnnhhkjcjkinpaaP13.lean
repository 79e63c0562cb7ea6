/- Written by wip/tool/hprint.py (the kit's print.py with hand-proved contracts set in): contracts of the functions that the statements of this seat reach, without conditions beyond those named in each theorem. -/
import Derived.Test.YtnnhhkjcjkinpaaP0
import Derived.Test.YtnnhhkjcjkinpaaP12
namespace Go.Proofs.Ytnnhhkjcjkinpaa.P
open Go.RowKit Go.Proofs.YtnnhhkjcjkinpaaW.PrintWords Go.Proofs.YtnnhhkjcjkinpaaW.PrintLast Go.Proofs.YtnnhhkjcjkinpaaW.PrintMore
attribute [local go_sem] max2_int min2_int max_two min_two max_three min_three max_four min_four   -- for this text's walks alone
set_option linter.unusedVariables false
set_option linter.unusedSimpArgs false

/-! ### vinculumref28_proper: function 46 -/
mutual
def vinculumref28_proper.l0 : Nat → List Int → Int → Int → ByteArray → Int → Int → Int → Int → Int → Int → List (S28) → Int → List Int → Option (Bool)
  | 0, _, _, _, _, _, _, _, _, _, _, _, _, _ => none
  | k + 1, x3, x4, x212000, x212001, x212002, x212003, x212004, x212005, x212006, x212007, x212008, x212009, x212010 => if x4 < (x3.length : Int) then (if 0 ≤ x4 then (if (rd x3 x4) < (-1073741824) then (some false) else (if (rd x3 x4) > 1073741824 then (some false) else (vinculumref28_proper.l0 k x3 (wrap64 (x4 + 1)) x212000 x212001 x212002 x212003 x212004 x212005 x212006 x212007 x212008 x212009 x212010))) else (none)) else (if x212000 = 1 then ((vinculumref05_Name.f k x212001).bind fun t217 => (if t217 = true then (if x212002 < 1 then (some false) else (if x212002 > 1000 then (some false) else (if (x212008.length : Int) > 0 then (some false) else (vinculumref28_proper.j2 k x212000 x212001 x212002 x212003 x212004 x212005 x212006 x212007 x212008 x212009 x212010)))) else (some false))) else (if x212000 = 2 then (vinculumref28_proper.j1 k (x212000 == 2) x212000 x212001 x212002 x212003 x212004 x212005 x212006 x212007 x212008 x212009 x212010) else (vinculumref28_proper.j1 k (x212000 == 3) x212000 x212001 x212002 x212003 x212004 x212005 x212006 x212007 x212008 x212009 x212010)))
def vinculumref28_proper.j2 : Nat → Int → ByteArray → Int → Int → Int → Int → Int → Int → List (S28) → Int → List Int → Option (Bool)
  | 0, _, _, _, _, _, _, _, _, _, _, _ => none
  | k + 1, x212000, x212001, x212002, x212003, x212004, x212005, x212006, x212007, x212008, x212009, x212010 => vinculumref28_proper.l1 k 0 x212000 x212001 x212002 x212003 x212004 x212005 x212006 x212007 x212008 x212009 x212010
def vinculumref28_proper.l1 : Nat → Int → Int → ByteArray → Int → Int → Int → Int → Int → Int → List (S28) → Int → List Int → Option (Bool)
  | 0, _, _, _, _, _, _, _, _, _, _, _, _ => none
  | k + 1, x5, x212000, x212001, x212002, x212003, x212004, x212005, x212006, x212007, x212008, x212009, x212010 => if x5 < (x212008.length : Int) then (if 0 ≤ x5 then ((vinculumref28_proper.f k ((rd_T28 x212008 x5).f0) ((rd_T28 x212008 x5).f1) ((rd_T28 x212008 x5).f2) ((rd_T28 x212008 x5).f3) ((rd_T28 x212008 x5).f4) ((rd_T28 x212008 x5).f5) ((rd_T28 x212008 x5).f6) ((rd_T28 x212008 x5).f7) ((rd_T28 x212008 x5).f8) ((rd_T28 x212008 x5).f9) ((rd_T28 x212008 x5).f10)).bind fun t219 => (if t219 = true then (vinculumref28_proper.l1 k (wrap64 (x5 + 1)) x212000 x212001 x212002 x212003 x212004 x212005 x212006 x212007 x212008 x212009 x212010) else (some false))) else (none)) else ((vinculumref28_source.f k x212000 x212001 x212002 x212003 x212004 x212005 x212006 x212007 x212008 x212009 x212010).bind fun t220 => (some t220))
def vinculumref28_proper.j1 : Nat → Bool → Int → ByteArray → Int → Int → Int → Int → Int → Int → List (S28) → Int → List Int → Option (Bool)
  | 0, _, _, _, _, _, _, _, _, _, _, _, _ => none
  | k + 1, x59, x212000, x212001, x212002, x212003, x212004, x212005, x212006, x212007, x212008, x212009, x212010 => if x59 = true then (if x212001.toList = ([] : List UInt8) then (if x212002 = 0 then (if x212000 = 2 then (if (x212008.length : Int) > 0 then (some false) else (vinculumref28_proper.j2 k x212000 x212001 x212002 x212003 x212004 x212005 x212006 x212007 x212008 x212009 x212010)) else (vinculumref28_proper.j2 k x212000 x212001 x212002 x212003 x212004 x212005 x212006 x212007 x212008 x212009 x212010)) else (some false)) else (some false)) else (some false)
def vinculumref28_proper.f : Nat → Int → ByteArray → Int → Int → Int → Int → Int → Int → List (S28) → Int → List Int → Option (Bool)
  | 0, _, _, _, _, _, _, _, _, _, _, _ => none
  | k + 1, a0_0, a0_1, a0_2, a0_3, a0_4, a0_5, a0_6, a0_7, l0_8, a0_9, l0_10 => vinculumref28_proper.l0 k (([a0_3, a0_4, a0_5, a0_6, a0_7] : List Int)) 0 a0_0 a0_1 a0_2 a0_3 a0_4 a0_5 a0_6 a0_7 l0_8 a0_9 l0_10
end
theorem vinculumref28_proper.mono_l : ∀ k, (∀ y0 y1 y2 y3 y4 y5 y6 y7 y8 y9 y10, LeO (vinculumref28_proper.f k y0 y1 y2 y3 y4 y5 y6 y7 y8 y9 y10) (vinculumref28_proper.f (k + 1) y0 y1 y2 y3 y4 y5 y6 y7 y8 y9 y10)) ∧ (∀ y0 y1 y2 y3 y4 y5 y6 y7 y8 y9 y10 y11 y12, LeO (vinculumref28_proper.l0 k y0 y1 y2 y3 y4 y5 y6 y7 y8 y9 y10 y11 y12) (vinculumref28_proper.l0 (k + 1) y0 y1 y2 y3 y4 y5 y6 y7 y8 y9 y10 y11 y12)) ∧ (∀ y0 y1 y2 y3 y4 y5 y6 y7 y8 y9 y10, LeO (vinculumref28_proper.j2 k y0 y1 y2 y3 y4 y5 y6 y7 y8 y9 y10) (vinculumref28_proper.j2 (k + 1) y0 y1 y2 y3 y4 y5 y6 y7 y8 y9 y10)) ∧ (∀ y0 y1 y2 y3 y4 y5 y6 y7 y8 y9 y10 y11, LeO (vinculumref28_proper.l1 k y0 y1 y2 y3 y4 y5 y6 y7 y8 y9 y10 y11) (vinculumref28_proper.l1 (k + 1) y0 y1 y2 y3 y4 y5 y6 y7 y8 y9 y10 y11)) ∧ (∀ y0 y1 y2 y3 y4 y5 y6 y7 y8 y9 y10 y11, LeO (vinculumref28_proper.j1 k y0 y1 y2 y3 y4 y5 y6 y7 y8 y9 y10 y11) (vinculumref28_proper.j1 (k + 1) y0 y1 y2 y3 y4 y5 y6 y7 y8 y9 y10 y11))
  | 0 => ⟨fun _ _ _ _ _ _ _ _ _ _ _ r h => by simp [vinculumref28_proper.f] at h, fun _ _ _ _ _ _ _ _ _ _ _ _ _ r h => by simp [vinculumref28_proper.l0] at h, fun _ _ _ _ _ _ _ _ _ _ _ r h => by simp [vinculumref28_proper.j2] at h, fun _ _ _ _ _ _ _ _ _ _ _ _ r h => by simp [vinculumref28_proper.l1] at h, fun _ _ _ _ _ _ _ _ _ _ _ _ r h => by simp [vinculumref28_proper.j1] at h⟩
  | k + 1 => by
    obtain ⟨ih0, ih1, ih2, ih3, ih4⟩ := vinculumref28_proper.mono_l k
    refine ⟨?_, ?_, ?_, ?_, ?_⟩
    · intro y0 y1 y2 y3 y4 y5 y6 y7 y8 y9 y10
      unfold vinculumref28_proper.f
      repeat' first
      | (with_reducible exact ih0 _ _ _ _ _ _ _ _ _ _ _)
      | (with_reducible exact ih1 _ _ _ _ _ _ _ _ _ _ _ _ _)
      | (with_reducible exact ih2 _ _ _ _ _ _ _ _ _ _ _)
      | (with_reducible exact ih3 _ _ _ _ _ _ _ _ _ _ _ _)
      | (with_reducible exact ih4 _ _ _ _ _ _ _ _ _ _ _ _)
      | (with_reducible exact vinculumref05_Name.mono _ _)
      | (with_reducible exact vinculumref28_source.mono _ _ _ _ _ _ _ _ _ _ _ _)
      | (with_reducible exact LeO.refl _)
      | (with_reducible exact LeO.none _)
      | (with_reducible refine LeO.ite ?_ ?_)
      | (with_reducible refine LeO.bind ?_ (fun _ => ?_))
      | exact ih0 _ _ _ _ _ _ _ _ _ _ _
      | exact ih1 _ _ _ _ _ _ _ _ _ _ _ _ _
      | exact ih2 _ _ _ _ _ _ _ _ _ _ _
      | exact ih3 _ _ _ _ _ _ _ _ _ _ _ _
      | exact ih4 _ _ _ _ _ _ _ _ _ _ _ _
      | exact vinculumref05_Name.mono _ _
      | exact vinculumref28_source.mono _ _ _ _ _ _ _ _ _ _ _ _
      | exact LeO.none _
      | refine LeO.ite ?_ ?_
      | refine LeO.bind ?_ (fun _ => ?_)
    · intro y0 y1 y2 y3 y4 y5 y6 y7 y8 y9 y10 y11 y12
      unfold vinculumref28_proper.l0
      repeat' first
      | (with_reducible exact ih0 _ _ _ _ _ _ _ _ _ _ _)
      | (with_reducible exact ih1 _ _ _ _ _ _ _ _ _ _ _ _ _)
      | (with_reducible exact ih2 _ _ _ _ _ _ _ _ _ _ _)
      | (with_reducible exact ih3 _ _ _ _ _ _ _ _ _ _ _ _)
      | (with_reducible exact ih4 _ _ _ _ _ _ _ _ _ _ _ _)
      | (with_reducible exact vinculumref05_Name.mono _ _)
      | (with_reducible exact vinculumref28_source.mono _ _ _ _ _ _ _ _ _ _ _ _)
      | (with_reducible exact LeO.refl _)
      | (with_reducible exact LeO.none _)
      | (with_reducible refine LeO.ite ?_ ?_)
      | (with_reducible refine LeO.bind ?_ (fun _ => ?_))
      | exact ih0 _ _ _ _ _ _ _ _ _ _ _
      | exact ih1 _ _ _ _ _ _ _ _ _ _ _ _ _
      | exact ih2 _ _ _ _ _ _ _ _ _ _ _
      | exact ih3 _ _ _ _ _ _ _ _ _ _ _ _
      | exact ih4 _ _ _ _ _ _ _ _ _ _ _ _
      | exact vinculumref05_Name.mono _ _
      | exact vinculumref28_source.mono _ _ _ _ _ _ _ _ _ _ _ _
      | exact LeO.none _
      | refine LeO.ite ?_ ?_
      | refine LeO.bind ?_ (fun _ => ?_)
    · intro y0 y1 y2 y3 y4 y5 y6 y7 y8 y9 y10
      unfold vinculumref28_proper.j2
      repeat' first
      | (with_reducible exact ih0 _ _ _ _ _ _ _ _ _ _ _)
      | (with_reducible exact ih1 _ _ _ _ _ _ _ _ _ _ _ _ _)
      | (with_reducible exact ih2 _ _ _ _ _ _ _ _ _ _ _)
      | (with_reducible exact ih3 _ _ _ _ _ _ _ _ _ _ _ _)
      | (with_reducible exact ih4 _ _ _ _ _ _ _ _ _ _ _ _)
      | (with_reducible exact vinculumref05_Name.mono _ _)
      | (with_reducible exact vinculumref28_source.mono _ _ _ _ _ _ _ _ _ _ _ _)
      | (with_reducible exact LeO.refl _)
      | (with_reducible exact LeO.none _)
      | (with_reducible refine LeO.ite ?_ ?_)
      | (with_reducible refine LeO.bind ?_ (fun _ => ?_))
      | exact ih0 _ _ _ _ _ _ _ _ _ _ _
      | exact ih1 _ _ _ _ _ _ _ _ _ _ _ _ _
      | exact ih2 _ _ _ _ _ _ _ _ _ _ _
      | exact ih3 _ _ _ _ _ _ _ _ _ _ _ _
      | exact ih4 _ _ _ _ _ _ _ _ _ _ _ _
      | exact vinculumref05_Name.mono _ _
      | exact vinculumref28_source.mono _ _ _ _ _ _ _ _ _ _ _ _
      | exact LeO.none _
      | refine LeO.ite ?_ ?_
      | refine LeO.bind ?_ (fun _ => ?_)
    · intro y0 y1 y2 y3 y4 y5 y6 y7 y8 y9 y10 y11
      unfold vinculumref28_proper.l1
      repeat' first
      | (with_reducible exact ih0 _ _ _ _ _ _ _ _ _ _ _)
      | (with_reducible exact ih1 _ _ _ _ _ _ _ _ _ _ _ _ _)
      | (with_reducible exact ih2 _ _ _ _ _ _ _ _ _ _ _)
      | (with_reducible exact ih3 _ _ _ _ _ _ _ _ _ _ _ _)
      | (with_reducible exact ih4 _ _ _ _ _ _ _ _ _ _ _ _)
      | (with_reducible exact vinculumref05_Name.mono _ _)
      | (with_reducible exact vinculumref28_source.mono _ _ _ _ _ _ _ _ _ _ _ _)
      | (with_reducible exact LeO.refl _)
      | (with_reducible exact LeO.none _)
      | (with_reducible refine LeO.ite ?_ ?_)
      | (with_reducible refine LeO.bind ?_ (fun _ => ?_))
      | exact ih0 _ _ _ _ _ _ _ _ _ _ _
      | exact ih1 _ _ _ _ _ _ _ _ _ _ _ _ _
      | exact ih2 _ _ _ _ _ _ _ _ _ _ _
      | exact ih3 _ _ _ _ _ _ _ _ _ _ _ _
      | exact ih4 _ _ _ _ _ _ _ _ _ _ _ _
      | exact vinculumref05_Name.mono _ _
      | exact vinculumref28_source.mono _ _ _ _ _ _ _ _ _ _ _ _
      | exact LeO.none _
      | refine LeO.ite ?_ ?_
      | refine LeO.bind ?_ (fun _ => ?_)
    · intro y0 y1 y2 y3 y4 y5 y6 y7 y8 y9 y10 y11
      unfold vinculumref28_proper.j1
      repeat' first
      | (with_reducible exact ih0 _ _ _ _ _ _ _ _ _ _ _)
      | (with_reducible exact ih1 _ _ _ _ _ _ _ _ _ _ _ _ _)
      | (with_reducible exact ih2 _ _ _ _ _ _ _ _ _ _ _)
      | (with_reducible exact ih3 _ _ _ _ _ _ _ _ _ _ _ _)
      | (with_reducible exact ih4 _ _ _ _ _ _ _ _ _ _ _ _)
      | (with_reducible exact vinculumref05_Name.mono _ _)
      | (with_reducible exact vinculumref28_source.mono _ _ _ _ _ _ _ _ _ _ _ _)
      | (with_reducible exact LeO.refl _)
      | (with_reducible exact LeO.none _)
      | (with_reducible refine LeO.ite ?_ ?_)
      | (with_reducible refine LeO.bind ?_ (fun _ => ?_))
      | exact ih0 _ _ _ _ _ _ _ _ _ _ _
      | exact ih1 _ _ _ _ _ _ _ _ _ _ _ _ _
      | exact ih2 _ _ _ _ _ _ _ _ _ _ _
      | exact ih3 _ _ _ _ _ _ _ _ _ _ _ _
      | exact ih4 _ _ _ _ _ _ _ _ _ _ _ _
      | exact vinculumref05_Name.mono _ _
      | exact vinculumref28_source.mono _ _ _ _ _ _ _ _ _ _ _ _
      | exact LeO.none _
      | refine LeO.ite ?_ ?_
      | refine LeO.bind ?_ (fun _ => ?_)
theorem vinculumref28_proper.mono : ∀ a0 a1 a2 a3 a4 a5 a6 a7 a8 a9 a10 k, LeO (vinculumref28_proper.f k a0 a1 a2 a3 a4 a5 a6 a7 a8 a9 a10) (vinculumref28_proper.f (k + 1) a0 a1 a2 a3 a4 a5 a6 a7 a8 a9 a10) := by
  intro a0 a1 a2 a3 a4 a5 a6 a7 a8 a9 a10 k
  obtain ⟨ih0, ih1, ih2, ih3, ih4⟩ := vinculumref28_proper.mono_l k
  exact ih0 a0 a1 a2 a3 a4 a5 a6 a7 a8 a9 a10
set_option maxHeartbeats 8000000 in
set_option maxRecDepth 100000 in
theorem vinculumref28_proper.calls (k : Nat) : ∀ (a0_0 : Int) (a0_1 : ByteArray) (a0_2 : Int) (a0_3 : Int) (a0_4 : Int) (a0_5 : Int) (a0_6 : Int) (a0_7 : Int) (A0_8 : Option Addr) (c0_8 : Nat) (l0_8 : List (S28)) (a0_9 : Int) (A0_10 : Option Addr) (c0_10 : Nat) (l0_10 : List Int) (r : Bool) (w : World) (hr0_8 : Kd.C k28 w A0_8 l0_8.length l0_8) (hc0_8 : l0_8.length ≤ c0_8) (hr0_10 : Kd.C (Kd.int .i64) w A0_10 l0_10.length l0_10) (hc0_10 : l0_10.length ≤ c0_10) (h : vinculumref28_proper.f k a0_0 a0_1 a0_2 a0_3 a0_4 a0_5 a0_6 a0_7 l0_8 a0_9 l0_10 = some r),
    Calls Try.prog 46 #[.agg #[.int .i64 a0_0, .string a0_1, .int .i64 a0_2, .int .i64 a0_3, .int .i64 a0_4, .int .i64 a0_5, .int .i64 a0_6, .int .i64 a0_7, .slice A0_8 l0_8.length c0_8, .int .i64 a0_9, .slice A0_10 l0_10.length c0_10]] w fun e w' => e = .returned (.bool r) ∧ Below w.heap.size w w' := by
  induction k using Nat.strongRecOn with
  | _ k ih =>
  intro a0_0 a0_1 a0_2 a0_3 a0_4 a0_5 a0_6 a0_7 A0_8 c0_8 l0_8 a0_9 A0_10 c0_10 l0_10 r w hr0_8 hc0_8 hr0_10 hc0_10 h
  cases k with
  | zero => exact absurd h (by simp [vinculumref28_proper.f])
  | succ k =>
  simp only [vinculumref28_proper.f] at h
  have hu28 := Try.underlying28
  have HR0_8 := Aside0.mk hr0_8
  have HC0_8 := Aside0.mk hc0_8
  clear hr0_8 hc0_8
  have HR0_10 := Aside0.mk hr0_10
  have HC0_10 := Aside0.mk hc0_10
  clear hr0_10 hc0_10
  have HB := Aside0.mk (Below.refl w.heap.size w)
  have H : (vinculumref28_proper.l0 k (([a0_3, a0_4, a0_5, a0_6, a0_7] : List Int)) 0 a0_0 a0_1 a0_2 a0_3 a0_4 a0_5 a0_6 a0_7 l0_8 a0_9 l0_10) = some r := h
  clear h
  obtain ⟨y212, hy212⟩ : ∃ y_ : List Int, y_ = (([a0_3, a0_4, a0_5, a0_6, a0_7] : List Int)) := ⟨_, rfl⟩
  replace H : (vinculumref28_proper.l0 k y212 0 a0_0 a0_1 a0_2 a0_3 a0_4 a0_5 a0_6 a0_7 l0_8 a0_9 l0_10) = some r := by first | (rw [hy212]; with_reducible exact H) | (have H2_ := (Option.bind_some _ _).symm.trans H; rw [hy212]; with_reducible exact H2_) | (have H2_ := (Option.bind_some _ _).symm.trans H; with_reducible exact H2_) | with_reducible exact H | (rw [hy212]; exact H) | exact H
  have Ny212 := Aside0.mk hy212
  clear hy212
  have H' := Aside0.mk H
  clear H
  go_enter Try.func46, Try.ntmps46
  go_wp2_with (first | ((with_reducible refine gate_dst (N := 1) rfl ?_); (try (refine gate_guard (by rfl) ?_; dsimp only)); refine box_event ?hg (N := 1) ?hd (cs := #[.int .i64 a0_0, .string a0_1, .int .i64 a0_2, .int .i64 a0_3, .int .i64 a0_4, .int .i64 a0_5, .int .i64 a0_6, .int .i64 a0_7, .slice A0_8 l0_8.length c0_8, .int .i64 a0_9, .slice A0_10 l0_10.length c0_10]) (t := 28) ?hr ?_; (case hd => rfl); (case hg => rfl); (case hr => first | (go_simp; done) | (go_simp; rfl)); intro gb211 hg w2 hbox hb; have n0_ := Aside0.mk (below_step (by repeat (first | (with_reducible first | exact HB.out | apply below_alloc | apply pw_below_drewN | apply below_drew1) | exact HB.out)) hb); have n1_ := Aside0.mk (hbox); have n2_ := Aside0.mk ((by rw [hg]; exact (below_size (by repeat (first | (with_reducible first | exact HB.out | apply below_alloc | apply pw_below_drewN | apply below_drew1) | exact HB.out))) : w.heap.size ≤ gb211)); have n3_ := Aside0.mk ((by rw [hg]; exact (below_size (by repeat (first | (with_reducible first | exact HB.out | apply below_alloc | apply pw_below_drewN | apply below_drew1) | exact HB.out))) : w.heap.size ≤ gb211)); clear HB; have HB := n0_; have BK211 := n1_; have GW211 := n2_; have GE211 := n3_; clear n0_ n1_ n2_ n3_; clear hb hbox hg; have hcz3_0 : w2.cell? ⟨gb211, 0, none⟩ = some (.int .i64 a0_0) := (blk_cell BK211.out 0).trans rfl; have hcz3_1 : w2.cell? ⟨gb211, 1, none⟩ = some (.string a0_1) := (blk_cell BK211.out 1).trans rfl; have hcz3_2 : w2.cell? ⟨gb211, 2, none⟩ = some (.int .i64 a0_2) := (blk_cell BK211.out 2).trans rfl; have hcz3_3 : w2.cell? ⟨gb211, 3, none⟩ = some (.int .i64 a0_3) := (blk_cell BK211.out 3).trans rfl; have hcz3_4 : w2.cell? ⟨gb211, 4, none⟩ = some (.int .i64 a0_4) := (blk_cell BK211.out 4).trans rfl; have hcz3_5 : w2.cell? ⟨gb211, 5, none⟩ = some (.int .i64 a0_5) := (blk_cell BK211.out 5).trans rfl; have hcz3_6 : w2.cell? ⟨gb211, 6, none⟩ = some (.int .i64 a0_6) := (blk_cell BK211.out 6).trans rfl; have hcz3_7 : w2.cell? ⟨gb211, 7, none⟩ = some (.int .i64 a0_7) := (blk_cell BK211.out 7).trans rfl; have hcz3_8 : w2.cell? ⟨gb211, 8, none⟩ = some (.slice A0_8 l0_8.length c0_8) := (blk_cell BK211.out 8).trans rfl; have hcz3_9 : w2.cell? ⟨gb211, 9, none⟩ = some (.int .i64 a0_9) := (blk_cell BK211.out 9).trans rfl; have hcz3_10 : w2.cell? ⟨gb211, 10, none⟩ = some (.slice A0_10 l0_10.length c0_10) := (blk_cell BK211.out 10).trans rfl; have hfz3_0 := blk_frozen BK211.out 0; have hfz3_1 := blk_frozen BK211.out 1; have hfz3_2 := blk_frozen BK211.out 2; have hfz3_3 := blk_frozen BK211.out 3; have hfz3_4 := blk_frozen BK211.out 4; have hfz3_5 := blk_frozen BK211.out 5; have hfz3_6 := blk_frozen BK211.out 6; have hfz3_7 := blk_frozen BK211.out 7; have hfz3_8 := blk_frozen BK211.out 8; have hfz3_9 := blk_frozen BK211.out 9; have hfz3_10 := blk_frozen BK211.out 10) | ((with_reducible refine gate_dst (N := 16) rfl ?_); (try (refine gate_guard (by rfl) ?_; dsimp only)); refine Kd.R_lit (Kd.int .i64) _ 3 ?hg (N := 16) ?hd (xs := ([a0_3, a0_4, a0_5, a0_6, a0_7] : List Int)) (inner := [.int .i64 a0_3, .int .i64 a0_4, .int .i64 a0_5, .int .i64 a0_6, .int .i64 a0_7]) (ok := fun _ => True) (okp := fun _ => True) ?hr ?hp (fun _ hk => hk) trivial (Below.refl _ _) (Nat.le_refl _) (by simp) ?_; (case hd => rfl); (case hg => rfl); (case hr => first | (go_simp; done) | (go_simp; rfl)); (case hp => exact (Reps.one (show Kd.M (Kd.int .i64) _ _ _ a0_3 [.int .i64 a0_3] from rfl) (Reps.one (show Kd.M (Kd.int .i64) _ _ _ a0_4 [.int .i64 a0_4] from rfl) (Reps.one (show Kd.M (Kd.int .i64) _ _ _ a0_5 [.int .i64 a0_5] from rfl) (Reps.one (show Kd.M (Kd.int .i64) _ _ _ a0_6 [.int .i64 a0_6] from rfl) (Reps.one (show Kd.M (Kd.int .i64) _ _ _ a0_7 [.int .i64 a0_7] from rfl) (Reps.none _ _))))))); intro v213 w4 ho5 hb hg_ hnew_; clear hg_ hnew_; (first | rw [← Ny212.out] at ho5 | (simp only [Int.reduceToNat] at ho5; rw [← Ny212.out] at ho5)); have n0_ := Aside0.mk (Kd.R_lower ho5 (below_size (by repeat (first | (with_reducible first | exact HB.out | apply below_alloc | apply pw_below_drewN | apply below_drew1 | refine below_set ?_ GE211.out) | exact HB.out)))); have n1_ := Aside0.mk (blk_below (g := gb211) (o := .cells #[.int .i64 a0_0, .string a0_1, .int .i64 a0_2, .int .i64 a0_3, .int .i64 a0_4, .int .i64 a0_5, .int .i64 a0_6, .int .i64 a0_7, .slice A0_8 l0_8.length c0_8, .int .i64 a0_9, .slice A0_10 l0_10.length c0_10] 28 (0, 0)) (by (with_reducible repeat (first | refine blk_drewN ?_ _ | refine blk_drew ?_ | refine blk_alloc ?_ _)); exact BK211.out) hb); have n2_ := Aside0.mk (below_step (by repeat (first | (with_reducible first | exact HB.out | apply below_alloc | apply pw_below_drewN | apply below_drew1 | refine below_set ?_ GE211.out) | exact HB.out)) hb); clear BK211; clear HB; have HO214 := n0_; have BK211 := n1_; have HB := n2_; clear n0_ n1_ n2_; clear hb ho5))
  go_loopg [4] k (fun kq v4 w' => ∃ (x4_1 : Int), v4 = .int .i64 x4_1 ∧ Aside0 (vinculumref28_proper.l0 kq y212 x4_1 a0_0 a0_1 a0_2 a0_3 a0_4 a0_5 a0_6 a0_7 l0_8 a0_9 l0_10 = some r) ∧ Aside0 (kq ≤ k) ∧ Aside0 (Kd.R (Kd.int .i64) 3 w' w.heap.size (fun _ => True) v213 y212) ∧ Aside0 (w'.heap[gb211]? = some (.cells #[.int .i64 a0_0, .string a0_1, .int .i64 a0_2, .int .i64 a0_3, .int .i64 a0_4, .int .i64 a0_5, .int .i64 a0_6, .int .i64 a0_7, (.slice A0_8 l0_8.length c0_8), .int .i64 a0_9, (.slice A0_10 l0_10.length c0_10)] 28 (0, 0))) ∧ Aside0 (Below w.heap.size w w'))
  case atStart => exact ⟨(0), (by first | rfl | (simp; done) | (simp [*]; done)), H', ⟨Nat.le_refl _⟩, ⟨by (with_reducible repeat (first | apply Kd.R_alloc | apply Kd.R_drewN | apply Kd.R_drew)); exact HO214.out⟩, ⟨by (with_reducible repeat (first | refine blk_drewN ?_ _ | refine blk_drew ?_ | refine blk_alloc ?_ _)); exact BK211.out⟩, ⟨by repeat (first | (with_reducible first | exact HB.out | apply below_alloc | apply pw_below_drewN | apply below_drew1 | refine below_set ?_ GE211.out) | exact HB.out)⟩⟩
  case round =>
    clear H'
    try clear p2
    try clear c4
    try clear hcz3_0
    try clear hcz3_1
    try clear hcz3_10
    try clear hcz3_2
    try clear hcz3_3
    try clear hcz3_4
    try clear hcz3_5
    try clear hcz3_6
    try clear hcz3_7
    try clear hcz3_8
    try clear hcz3_9
    try clear hfz3_0
    try clear hfz3_1
    try clear hfz3_10
    try clear hfz3_2
    try clear hfz3_3
    try clear hfz3_4
    try clear hfz3_5
    try clear hfz3_6
    try clear hfz3_7
    try clear hfz3_8
    try clear hfz3_9
    obtain ⟨x4_1, rfl, HA, HK1, HO_3, BK211, HB⟩ := hrel
    cases gk with
    | zero => exact absurd HA.out (by simp [vinculumref28_proper.l0])
    | succ k1 =>
      have H := HA.out
      clear HA
      simp only [vinculumref28_proper.l0] at H
      by_cases c6 : x4_1 < (y212.length : Int)
      · rw [if_pos c6] at H
        have c6b0 : decide (x4_1 < (y212.length : Int)) = true := decide_eq_true c6
        clear c6
        by_cases c7 : 0 ≤ x4_1
        · rw [if_pos c7] at H
          have c7b0 : decide (0 ≤ x4_1) = true := decide_eq_true c7
          clear c7
          by_cases c8 : (rd y212 x4_1) < (-1073741824)
          · rw [if_pos c8] at H
            have c8b0 : decide ((rd y212 x4_1) < (-1073741824)) = true := decide_eq_true c8
            clear c8
            obtain rfl := Option.some.inj H
            obtain ⟨Ao9, co9, eo9⟩ := Kd.R_slice HO_3.out
            subst eo9
            have p215 : 0 ≤ (x4_1 : Int) := of_decide_eq_true (by first | (with_reducible assumption) | assumption)
            have q215 : x4_1 < (y212.length : Int) := of_decide_eq_true (by first | (with_reducible assumption) | assumption)
            obtain ⟨ad215, e215, hx215_0⟩ := Kd.at_int (Kd.R_reads' HO_3.out).2.2 x4_1 p215 q215
            cases e215
            replace p215 := eq_true p215
            replace q215 := eq_true q215
            go_wp2
            go_ret
            exact ⟨by first | rfl | (simp [errW_none, errW_some] <;> rfl) | (simp [*, errW_none, errW_some] <;> rfl), by repeat (first | (with_reducible first | exact HB.out | apply below_alloc | apply pw_below_drewN | apply below_drew1 | refine below_set ?_ GE211.out) | exact HB.out)⟩
          · rw [if_neg c8] at H
            have c8b0 : decide ((rd y212 x4_1) < (-1073741824)) = false := decide_eq_false c8
            clear c8
            by_cases c10 : (rd y212 x4_1) > 1073741824
            · rw [if_pos c10] at H
              have c10b0 : decide (1073741824 < (rd y212 x4_1)) = true := decide_eq_true c10
              clear c10
              obtain rfl := Option.some.inj H
              obtain ⟨Ao11, co11, eo11⟩ := Kd.R_slice HO_3.out
              subst eo11
              have p215 : 0 ≤ (x4_1 : Int) := of_decide_eq_true (by first | (with_reducible assumption) | assumption)
              have q215 : x4_1 < (y212.length : Int) := of_decide_eq_true (by first | (with_reducible assumption) | assumption)
              obtain ⟨ad215, e215, hx215_0⟩ := Kd.at_int (Kd.R_reads' HO_3.out).2.2 x4_1 p215 q215
              cases e215
              replace p215 := eq_true p215
              replace q215 := eq_true q215
              have p216 : 0 ≤ (x4_1 : Int) := of_decide_eq_true (by first | (with_reducible assumption) | assumption)
              have q216 : x4_1 < (y212.length : Int) := of_decide_eq_true (by first | (with_reducible assumption) | assumption)
              obtain ⟨ad216, e216, hx216_0⟩ := Kd.at_int (Kd.R_reads' HO_3.out).2.2 x4_1 p216 q216
              obtain rfl : ad215 = ad216 := (by injection e216)
              replace p216 := eq_true p216
              replace q216 := eq_true q216
              go_wp2
              go_ret
              exact ⟨by first | rfl | (simp [errW_none, errW_some] <;> rfl) | (simp [*, errW_none, errW_some] <;> rfl), by repeat (first | (with_reducible first | exact HB.out | apply below_alloc | apply pw_below_drewN | apply below_drew1 | refine below_set ?_ GE211.out) | exact HB.out)⟩
            · rw [if_neg c10] at H
              have c10b0 : decide (1073741824 < (rd y212 x4_1)) = false := decide_eq_false c10
              clear c10
              have H' := Aside0.mk H
              clear H
              obtain ⟨Ao12, co12, eo12⟩ := Kd.R_slice HO_3.out
              subst eo12
              have p215 : 0 ≤ (x4_1 : Int) := of_decide_eq_true (by first | (with_reducible assumption) | assumption)
              have q215 : x4_1 < (y212.length : Int) := of_decide_eq_true (by first | (with_reducible assumption) | assumption)
              obtain ⟨ad215, e215, hx215_0⟩ := Kd.at_int (Kd.R_reads' HO_3.out).2.2 x4_1 p215 q215
              cases e215
              replace p215 := eq_true p215
              replace q215 := eq_true q215
              have p216 : 0 ≤ (x4_1 : Int) := of_decide_eq_true (by first | (with_reducible assumption) | assumption)
              have q216 : x4_1 < (y212.length : Int) := of_decide_eq_true (by first | (with_reducible assumption) | assumption)
              obtain ⟨ad216, e216, hx216_0⟩ := Kd.at_int (Kd.R_reads' HO_3.out).2.2 x4_1 p216 q216
              obtain rfl : ad215 = ad216 := (by injection e216)
              replace p216 := eq_true p216
              replace q216 := eq_true q216
              go_wp2
              go_roundg k1
              case measure => have := HK1.out; omega
              case rel => exact ⟨(wrap64 (x4_1 + 1)), (by first | rfl | (simp; done) | (simp [*]; done)), H', ⟨by have := HK1.out; omega⟩, ⟨by (with_reducible repeat (first | apply Kd.R_alloc | apply Kd.R_drewN | apply Kd.R_drew)); exact HO_3.out⟩, ⟨by (with_reducible repeat (first | refine blk_drewN ?_ _ | refine blk_drew ?_ | refine blk_alloc ?_ _)); exact BK211.out⟩, ⟨by repeat (first | (with_reducible first | exact HB.out | apply below_alloc | apply pw_below_drewN | apply below_drew1 | refine below_set ?_ GE211.out) | exact HB.out)⟩⟩
        · rw [if_neg c7] at H
          exact absurd H (by simp)
      · rw [if_neg c6] at H
        have c6b0 : decide (x4_1 < (y212.length : Int)) = false := decide_eq_false c6
        clear c6
        have HC13 := Aside0.mk H
        clear H
        obtain ⟨Ao14, co14, eo14⟩ := Kd.R_slice HO_3.out
        subst eo14
        have hcz15_0 : wr.cell? ⟨gb211, 0, none⟩ = some (.int .i64 a0_0) := (blk_cell BK211.out 0).trans rfl
        have hcz15_1 : wr.cell? ⟨gb211, 1, none⟩ = some (.string a0_1) := (blk_cell BK211.out 1).trans rfl
        have hcz15_2 : wr.cell? ⟨gb211, 2, none⟩ = some (.int .i64 a0_2) := (blk_cell BK211.out 2).trans rfl
        have hcz15_3 : wr.cell? ⟨gb211, 3, none⟩ = some (.int .i64 a0_3) := (blk_cell BK211.out 3).trans rfl
        have hcz15_4 : wr.cell? ⟨gb211, 4, none⟩ = some (.int .i64 a0_4) := (blk_cell BK211.out 4).trans rfl
        have hcz15_5 : wr.cell? ⟨gb211, 5, none⟩ = some (.int .i64 a0_5) := (blk_cell BK211.out 5).trans rfl
        have hcz15_6 : wr.cell? ⟨gb211, 6, none⟩ = some (.int .i64 a0_6) := (blk_cell BK211.out 6).trans rfl
        have hcz15_7 : wr.cell? ⟨gb211, 7, none⟩ = some (.int .i64 a0_7) := (blk_cell BK211.out 7).trans rfl
        have hcz15_8 : wr.cell? ⟨gb211, 8, none⟩ = some (.slice A0_8 l0_8.length c0_8) := (blk_cell BK211.out 8).trans rfl
        have hcz15_9 : wr.cell? ⟨gb211, 9, none⟩ = some (.int .i64 a0_9) := (blk_cell BK211.out 9).trans rfl
        have hcz15_10 : wr.cell? ⟨gb211, 10, none⟩ = some (.slice A0_10 l0_10.length c0_10) := (blk_cell BK211.out 10).trans rfl
        have hfz15_0 := blk_frozen BK211.out 0
        have hfz15_1 := blk_frozen BK211.out 1
        have hfz15_2 := blk_frozen BK211.out 2
        have hfz15_3 := blk_frozen BK211.out 3
        have hfz15_4 := blk_frozen BK211.out 4
        have hfz15_5 := blk_frozen BK211.out 5
        have hfz15_6 := blk_frozen BK211.out 6
        have hfz15_7 := blk_frozen BK211.out 7
        have hfz15_8 := blk_frozen BK211.out 8
        have hfz15_9 := blk_frozen BK211.out 9
        have hfz15_10 := blk_frozen BK211.out 10
        go_upto_block 2 with (fail)
        go_cut [] (fun wc => ∃ (kq : Nat), Aside0 (vinculumref28_proper.j2 kq a0_0 a0_1 a0_2 a0_3 a0_4 a0_5 a0_6 a0_7 l0_8 a0_9 l0_10 = some r) ∧ Aside0 (kq ≤ k1) ∧ Aside0 (wc.heap[gb211]? = some (.cells #[.int .i64 a0_0, .string a0_1, .int .i64 a0_2, .int .i64 a0_3, .int .i64 a0_4, .int .i64 a0_5, .int .i64 a0_6, .int .i64 a0_7, (.slice A0_8 l0_8.length c0_8), .int .i64 a0_9, (.slice A0_10 l0_10.length c0_10)] 28 (0, 0))) ∧ Aside0 (Below w.heap.size w wc))
        case first =>
          have H := HC13.out
          clear HC13
          by_cases c16 : a0_0 = 1
          · rw [if_pos c16] at H
            have c16b0 : (a0_0 == 1) = true := beq_iff_eq.mpr c16
            have c16b1 : (a0_0 != 1) = false := bne_eq_false_iff_eq.mpr c16
            clear c16
            (first | rw [c16b0] | (simp only [i64_w, i32_w]; rw [c16b0]) | skip)
            replace H := Option.bind_eq_some_iff.mp H
            obtain ⟨t217, A170, H⟩ := H
            replace H : (if t217 = true then (if a0_2 < 1 then (some false) else (if a0_2 > 1000 then (some false) else (if (l0_8.length : Int) > 0 then (some false) else (vinculumref28_proper.j2 k1 a0_0 a0_1 a0_2 a0_3 a0_4 a0_5 a0_6 a0_7 l0_8 a0_9 l0_10)))) else (some false)) = some r := H
            have A17 := Aside0.mk A170
            clear A170
            by_cases c18 : t217 = true
            · subst c18
              have H1 : (if a0_2 < 1 then (some false) else (if a0_2 > 1000 then (some false) else (if (l0_8.length : Int) > 0 then (some false) else (vinculumref28_proper.j2 k1 a0_0 a0_1 a0_2 a0_3 a0_4 a0_5 a0_6 a0_7 l0_8 a0_9 l0_10)))) = some r := by rw [if_pos rfl] at H; exact H
              clear H
              have H := H1
              clear H1
              by_cases c19 : a0_2 < 1
              · rw [if_pos c19] at H
                have c19b0 : decide (a0_2 < 1) = true := decide_eq_true c19
                clear c19
                obtain rfl := Option.some.inj H
                have hcz20_0 : wr.cell? ⟨gb211, 0, none⟩ = some (.int .i64 a0_0) := (blk_cell BK211.out 0).trans rfl
                have hcz20_1 : wr.cell? ⟨gb211, 1, none⟩ = some (.string a0_1) := (blk_cell BK211.out 1).trans rfl
                have hcz20_2 : wr.cell? ⟨gb211, 2, none⟩ = some (.int .i64 a0_2) := (blk_cell BK211.out 2).trans rfl
                have hcz20_3 : wr.cell? ⟨gb211, 3, none⟩ = some (.int .i64 a0_3) := (blk_cell BK211.out 3).trans rfl
                have hcz20_4 : wr.cell? ⟨gb211, 4, none⟩ = some (.int .i64 a0_4) := (blk_cell BK211.out 4).trans rfl
                have hcz20_5 : wr.cell? ⟨gb211, 5, none⟩ = some (.int .i64 a0_5) := (blk_cell BK211.out 5).trans rfl
                have hcz20_6 : wr.cell? ⟨gb211, 6, none⟩ = some (.int .i64 a0_6) := (blk_cell BK211.out 6).trans rfl
                have hcz20_7 : wr.cell? ⟨gb211, 7, none⟩ = some (.int .i64 a0_7) := (blk_cell BK211.out 7).trans rfl
                have hcz20_8 : wr.cell? ⟨gb211, 8, none⟩ = some (.slice A0_8 l0_8.length c0_8) := (blk_cell BK211.out 8).trans rfl
                have hcz20_9 : wr.cell? ⟨gb211, 9, none⟩ = some (.int .i64 a0_9) := (blk_cell BK211.out 9).trans rfl
                have hcz20_10 : wr.cell? ⟨gb211, 10, none⟩ = some (.slice A0_10 l0_10.length c0_10) := (blk_cell BK211.out 10).trans rfl
                have hfz20_0 := blk_frozen BK211.out 0
                have hfz20_1 := blk_frozen BK211.out 1
                have hfz20_2 := blk_frozen BK211.out 2
                have hfz20_3 := blk_frozen BK211.out 3
                have hfz20_4 := blk_frozen BK211.out 4
                have hfz20_5 := blk_frozen BK211.out 5
                have hfz20_6 := blk_frozen BK211.out 6
                have hfz20_7 := blk_frozen BK211.out 7
                have hfz20_8 := blk_frozen BK211.out 8
                have hfz20_9 := blk_frozen BK211.out 9
                have hfz20_10 := blk_frozen BK211.out 10
                go_wp2_with (first | ((with_reducible refine gate_callee (f := 66) rfl ?_); refine goesL_ (some 41) rfl rfl Try.func66 (by kernel_rfl) rfl #[.string a0_1] rfl (by (try simp only [List.map_toArray, List.map_cons, List.map_nil]); first | done | rfl | (simp only [List.length_drop, List.length_take]; rfl)) ?_; (with_reducible refine (vinculumref05_Name.calls k1 a0_1 true _ A17.out).mono ?_); rintro e w' ⟨rfl, ⟨nd, rfl⟩⟩; refine ⟨_, rfl, ?_⟩))
                go_ret
                exact ⟨by first | rfl | (simp [errW_none, errW_some] <;> rfl) | (simp [*, errW_none, errW_some] <;> rfl), by repeat (first | (with_reducible first | exact HB.out | apply below_alloc | apply pw_below_drewN | apply below_drew1 | refine below_set ?_ GE211.out) | exact HB.out)⟩
              · rw [if_neg c19] at H
                have c19b0 : decide (a0_2 < 1) = false := decide_eq_false c19
                clear c19
                by_cases c21 : a0_2 > 1000
                · rw [if_pos c21] at H
                  have c21b0 : decide (1000 < a0_2) = true := decide_eq_true c21
                  clear c21
                  obtain rfl := Option.some.inj H
                  have hcz22_0 : wr.cell? ⟨gb211, 0, none⟩ = some (.int .i64 a0_0) := (blk_cell BK211.out 0).trans rfl
                  have hcz22_1 : wr.cell? ⟨gb211, 1, none⟩ = some (.string a0_1) := (blk_cell BK211.out 1).trans rfl
                  have hcz22_2 : wr.cell? ⟨gb211, 2, none⟩ = some (.int .i64 a0_2) := (blk_cell BK211.out 2).trans rfl
                  have hcz22_3 : wr.cell? ⟨gb211, 3, none⟩ = some (.int .i64 a0_3) := (blk_cell BK211.out 3).trans rfl
                  have hcz22_4 : wr.cell? ⟨gb211, 4, none⟩ = some (.int .i64 a0_4) := (blk_cell BK211.out 4).trans rfl
                  have hcz22_5 : wr.cell? ⟨gb211, 5, none⟩ = some (.int .i64 a0_5) := (blk_cell BK211.out 5).trans rfl
                  have hcz22_6 : wr.cell? ⟨gb211, 6, none⟩ = some (.int .i64 a0_6) := (blk_cell BK211.out 6).trans rfl
                  have hcz22_7 : wr.cell? ⟨gb211, 7, none⟩ = some (.int .i64 a0_7) := (blk_cell BK211.out 7).trans rfl
                  have hcz22_8 : wr.cell? ⟨gb211, 8, none⟩ = some (.slice A0_8 l0_8.length c0_8) := (blk_cell BK211.out 8).trans rfl
                  have hcz22_9 : wr.cell? ⟨gb211, 9, none⟩ = some (.int .i64 a0_9) := (blk_cell BK211.out 9).trans rfl
                  have hcz22_10 : wr.cell? ⟨gb211, 10, none⟩ = some (.slice A0_10 l0_10.length c0_10) := (blk_cell BK211.out 10).trans rfl
                  have hfz22_0 := blk_frozen BK211.out 0
                  have hfz22_1 := blk_frozen BK211.out 1
                  have hfz22_2 := blk_frozen BK211.out 2
                  have hfz22_3 := blk_frozen BK211.out 3
                  have hfz22_4 := blk_frozen BK211.out 4
                  have hfz22_5 := blk_frozen BK211.out 5
                  have hfz22_6 := blk_frozen BK211.out 6
                  have hfz22_7 := blk_frozen BK211.out 7
                  have hfz22_8 := blk_frozen BK211.out 8
                  have hfz22_9 := blk_frozen BK211.out 9
                  have hfz22_10 := blk_frozen BK211.out 10
                  go_wp2_with (first | ((with_reducible refine gate_callee (f := 66) rfl ?_); refine goesL_ (some 41) rfl rfl Try.func66 (by kernel_rfl) rfl #[.string a0_1] rfl (by (try simp only [List.map_toArray, List.map_cons, List.map_nil]); first | done | rfl | (simp only [List.length_drop, List.length_take]; rfl)) ?_; (with_reducible refine (vinculumref05_Name.calls k1 a0_1 true _ A17.out).mono ?_); rintro e w' ⟨rfl, ⟨nd, rfl⟩⟩; refine ⟨_, rfl, ?_⟩))
                  go_ret
                  exact ⟨by first | rfl | (simp [errW_none, errW_some] <;> rfl) | (simp [*, errW_none, errW_some] <;> rfl), by repeat (first | (with_reducible first | exact HB.out | apply below_alloc | apply pw_below_drewN | apply below_drew1 | refine below_set ?_ GE211.out) | exact HB.out)⟩
                · rw [if_neg c21] at H
                  have c21b0 : decide (1000 < a0_2) = false := decide_eq_false c21
                  clear c21
                  by_cases c23 : (l0_8.length : Int) > 0
                  · rw [if_pos c23] at H
                    have c23b0 : decide (0 < (l0_8.length : Int)) = true := decide_eq_true c23
                    have c23b1 : decide (0 < l0_8.length) = true := decide_eq_true (by omega)
                    clear c23
                    obtain rfl := Option.some.inj H
                    have hcz24_0 : wr.cell? ⟨gb211, 0, none⟩ = some (.int .i64 a0_0) := (blk_cell BK211.out 0).trans rfl
                    have hcz24_1 : wr.cell? ⟨gb211, 1, none⟩ = some (.string a0_1) := (blk_cell BK211.out 1).trans rfl
                    have hcz24_2 : wr.cell? ⟨gb211, 2, none⟩ = some (.int .i64 a0_2) := (blk_cell BK211.out 2).trans rfl
                    have hcz24_3 : wr.cell? ⟨gb211, 3, none⟩ = some (.int .i64 a0_3) := (blk_cell BK211.out 3).trans rfl
                    have hcz24_4 : wr.cell? ⟨gb211, 4, none⟩ = some (.int .i64 a0_4) := (blk_cell BK211.out 4).trans rfl
                    have hcz24_5 : wr.cell? ⟨gb211, 5, none⟩ = some (.int .i64 a0_5) := (blk_cell BK211.out 5).trans rfl
                    have hcz24_6 : wr.cell? ⟨gb211, 6, none⟩ = some (.int .i64 a0_6) := (blk_cell BK211.out 6).trans rfl
                    have hcz24_7 : wr.cell? ⟨gb211, 7, none⟩ = some (.int .i64 a0_7) := (blk_cell BK211.out 7).trans rfl
                    have hcz24_8 : wr.cell? ⟨gb211, 8, none⟩ = some (.slice A0_8 l0_8.length c0_8) := (blk_cell BK211.out 8).trans rfl
                    have hcz24_9 : wr.cell? ⟨gb211, 9, none⟩ = some (.int .i64 a0_9) := (blk_cell BK211.out 9).trans rfl
                    have hcz24_10 : wr.cell? ⟨gb211, 10, none⟩ = some (.slice A0_10 l0_10.length c0_10) := (blk_cell BK211.out 10).trans rfl
                    have hfz24_0 := blk_frozen BK211.out 0
                    have hfz24_1 := blk_frozen BK211.out 1
                    have hfz24_2 := blk_frozen BK211.out 2
                    have hfz24_3 := blk_frozen BK211.out 3
                    have hfz24_4 := blk_frozen BK211.out 4
                    have hfz24_5 := blk_frozen BK211.out 5
                    have hfz24_6 := blk_frozen BK211.out 6
                    have hfz24_7 := blk_frozen BK211.out 7
                    have hfz24_8 := blk_frozen BK211.out 8
                    have hfz24_9 := blk_frozen BK211.out 9
                    have hfz24_10 := blk_frozen BK211.out 10
                    go_wp2_with (first | ((with_reducible refine gate_callee (f := 66) rfl ?_); refine goesL_ (some 41) rfl rfl Try.func66 (by kernel_rfl) rfl #[.string a0_1] rfl (by (try simp only [List.map_toArray, List.map_cons, List.map_nil]); first | done | rfl | (simp only [List.length_drop, List.length_take]; rfl)) ?_; (with_reducible refine (vinculumref05_Name.calls k1 a0_1 true _ A17.out).mono ?_); rintro e w' ⟨rfl, ⟨nd, rfl⟩⟩; refine ⟨_, rfl, ?_⟩))
                    go_ret
                    exact ⟨by first | rfl | (simp [errW_none, errW_some] <;> rfl) | (simp [*, errW_none, errW_some] <;> rfl), by repeat (first | (with_reducible first | exact HB.out | apply below_alloc | apply pw_below_drewN | apply below_drew1 | refine below_set ?_ GE211.out) | exact HB.out)⟩
                  · rw [if_neg c23] at H
                    have c23b0 : decide (0 < (l0_8.length : Int)) = false := decide_eq_false c23
                    have c23b1 : decide (0 < l0_8.length) = false := decide_eq_false (by omega)
                    clear c23
                    have H' := Aside0.mk H
                    clear H
                    have hcz25_0 : wr.cell? ⟨gb211, 0, none⟩ = some (.int .i64 a0_0) := (blk_cell BK211.out 0).trans rfl
                    have hcz25_1 : wr.cell? ⟨gb211, 1, none⟩ = some (.string a0_1) := (blk_cell BK211.out 1).trans rfl
                    have hcz25_2 : wr.cell? ⟨gb211, 2, none⟩ = some (.int .i64 a0_2) := (blk_cell BK211.out 2).trans rfl
                    have hcz25_3 : wr.cell? ⟨gb211, 3, none⟩ = some (.int .i64 a0_3) := (blk_cell BK211.out 3).trans rfl
                    have hcz25_4 : wr.cell? ⟨gb211, 4, none⟩ = some (.int .i64 a0_4) := (blk_cell BK211.out 4).trans rfl
                    have hcz25_5 : wr.cell? ⟨gb211, 5, none⟩ = some (.int .i64 a0_5) := (blk_cell BK211.out 5).trans rfl
                    have hcz25_6 : wr.cell? ⟨gb211, 6, none⟩ = some (.int .i64 a0_6) := (blk_cell BK211.out 6).trans rfl
                    have hcz25_7 : wr.cell? ⟨gb211, 7, none⟩ = some (.int .i64 a0_7) := (blk_cell BK211.out 7).trans rfl
                    have hcz25_8 : wr.cell? ⟨gb211, 8, none⟩ = some (.slice A0_8 l0_8.length c0_8) := (blk_cell BK211.out 8).trans rfl
                    have hcz25_9 : wr.cell? ⟨gb211, 9, none⟩ = some (.int .i64 a0_9) := (blk_cell BK211.out 9).trans rfl
                    have hcz25_10 : wr.cell? ⟨gb211, 10, none⟩ = some (.slice A0_10 l0_10.length c0_10) := (blk_cell BK211.out 10).trans rfl
                    have hfz25_0 := blk_frozen BK211.out 0
                    have hfz25_1 := blk_frozen BK211.out 1
                    have hfz25_2 := blk_frozen BK211.out 2
                    have hfz25_3 := blk_frozen BK211.out 3
                    have hfz25_4 := blk_frozen BK211.out 4
                    have hfz25_5 := blk_frozen BK211.out 5
                    have hfz25_6 := blk_frozen BK211.out 6
                    have hfz25_7 := blk_frozen BK211.out 7
                    have hfz25_8 := blk_frozen BK211.out 8
                    have hfz25_9 := blk_frozen BK211.out 9
                    have hfz25_10 := blk_frozen BK211.out 10
                    go_wp2_with (first | ((with_reducible refine gate_callee (f := 66) rfl ?_); refine goesL_ (some 41) rfl rfl Try.func66 (by kernel_rfl) rfl #[.string a0_1] rfl (by (try simp only [List.map_toArray, List.map_cons, List.map_nil]); first | done | rfl | (simp only [List.length_drop, List.length_take]; rfl)) ?_; (with_reducible refine (vinculumref05_Name.calls k1 a0_1 true _ A17.out).mono ?_); rintro e w' ⟨rfl, ⟨nd, rfl⟩⟩; refine ⟨_, rfl, ?_⟩))
                    go_meet
                    case rel => exact ⟨_, H', ⟨by have := HK1.out; first | omega | exact Nat.le_refl _⟩, ⟨by (with_reducible repeat (first | refine blk_drewN ?_ _ | refine blk_drew ?_ | refine blk_alloc ?_ _)); exact BK211.out⟩, ⟨by repeat (first | (with_reducible first | exact HB.out | apply below_alloc | apply pw_below_drewN | apply below_drew1 | refine below_set ?_ GE211.out) | exact HB.out)⟩⟩
            · replace c18 := Bool.eq_false_iff.mpr c18
              subst c18
              have H1 : (some false) = some r := by rw [if_neg (show ¬ (false = true) by decide)] at H; exact H
              clear H
              have H := H1
              clear H1
              obtain rfl := Option.some.inj H
              have hcz26_0 : wr.cell? ⟨gb211, 0, none⟩ = some (.int .i64 a0_0) := (blk_cell BK211.out 0).trans rfl
              have hcz26_1 : wr.cell? ⟨gb211, 1, none⟩ = some (.string a0_1) := (blk_cell BK211.out 1).trans rfl
              have hcz26_2 : wr.cell? ⟨gb211, 2, none⟩ = some (.int .i64 a0_2) := (blk_cell BK211.out 2).trans rfl
              have hcz26_3 : wr.cell? ⟨gb211, 3, none⟩ = some (.int .i64 a0_3) := (blk_cell BK211.out 3).trans rfl
              have hcz26_4 : wr.cell? ⟨gb211, 4, none⟩ = some (.int .i64 a0_4) := (blk_cell BK211.out 4).trans rfl
              have hcz26_5 : wr.cell? ⟨gb211, 5, none⟩ = some (.int .i64 a0_5) := (blk_cell BK211.out 5).trans rfl
              have hcz26_6 : wr.cell? ⟨gb211, 6, none⟩ = some (.int .i64 a0_6) := (blk_cell BK211.out 6).trans rfl
              have hcz26_7 : wr.cell? ⟨gb211, 7, none⟩ = some (.int .i64 a0_7) := (blk_cell BK211.out 7).trans rfl
              have hcz26_8 : wr.cell? ⟨gb211, 8, none⟩ = some (.slice A0_8 l0_8.length c0_8) := (blk_cell BK211.out 8).trans rfl
              have hcz26_9 : wr.cell? ⟨gb211, 9, none⟩ = some (.int .i64 a0_9) := (blk_cell BK211.out 9).trans rfl
              have hcz26_10 : wr.cell? ⟨gb211, 10, none⟩ = some (.slice A0_10 l0_10.length c0_10) := (blk_cell BK211.out 10).trans rfl
              have hfz26_0 := blk_frozen BK211.out 0
              have hfz26_1 := blk_frozen BK211.out 1
              have hfz26_2 := blk_frozen BK211.out 2
              have hfz26_3 := blk_frozen BK211.out 3
              have hfz26_4 := blk_frozen BK211.out 4
              have hfz26_5 := blk_frozen BK211.out 5
              have hfz26_6 := blk_frozen BK211.out 6
              have hfz26_7 := blk_frozen BK211.out 7
              have hfz26_8 := blk_frozen BK211.out 8
              have hfz26_9 := blk_frozen BK211.out 9
              have hfz26_10 := blk_frozen BK211.out 10
              go_wp2_with (first | ((with_reducible refine gate_callee (f := 66) rfl ?_); refine goesL_ (some 41) rfl rfl Try.func66 (by kernel_rfl) rfl #[.string a0_1] rfl (by (try simp only [List.map_toArray, List.map_cons, List.map_nil]); first | done | rfl | (simp only [List.length_drop, List.length_take]; rfl)) ?_; (with_reducible refine (vinculumref05_Name.calls k1 a0_1 false _ A17.out).mono ?_); rintro e w' ⟨rfl, ⟨nd, rfl⟩⟩; refine ⟨_, rfl, ?_⟩))
              go_ret
              exact ⟨by first | rfl | (simp [errW_none, errW_some] <;> rfl) | (simp [*, errW_none, errW_some] <;> rfl), by repeat (first | (with_reducible first | exact HB.out | apply below_alloc | apply pw_below_drewN | apply below_drew1 | refine below_set ?_ GE211.out) | exact HB.out)⟩
          · rw [if_neg c16] at H
            have c16b0 : (a0_0 == 1) = false := beq_eq_false_iff_ne.mpr c16
            have c16b1 : (a0_0 != 1) = true := bne_iff_ne.mpr c16
            (first | rw [c16b0] | (simp only [i64_w, i32_w]; rw [c16b0]) | skip)
            have HC27 := Aside0.mk H
            clear H
            go_upto_if 59 with (fail)
            go_cut [59] (fun v59 wc => ∃ (kq : Nat) (x59_26 : Bool), v59 = .bool x59_26 ∧ Aside0 (vinculumref28_proper.j1 kq x59_26 a0_0 a0_1 a0_2 a0_3 a0_4 a0_5 a0_6 a0_7 l0_8 a0_9 l0_10 = some r) ∧ Aside0 (kq ≤ k1) ∧ Aside0 (wc.heap[gb211]? = some (.cells #[.int .i64 a0_0, .string a0_1, .int .i64 a0_2, .int .i64 a0_3, .int .i64 a0_4, .int .i64 a0_5, .int .i64 a0_6, .int .i64 a0_7, (.slice A0_8 l0_8.length c0_8), .int .i64 a0_9, (.slice A0_10 l0_10.length c0_10)] 28 (0, 0))) ∧ Aside0 (Below w.heap.size w wc))
            case first =>
              have H := HC27.out
              clear HC27
              by_cases c28 : a0_0 = 2
              · rw [if_pos c28] at H
                have c28b0 : (a0_0 == 2) = true := beq_iff_eq.mpr c28
                have c28b1 : (a0_0 != 2) = false := bne_eq_false_iff_eq.mpr c28
                clear c28
                (first | rw [c28b0] | (simp only [i64_w, i32_w]; rw [c28b0]) | skip)
                have H' := Aside0.mk H
                clear H
                go_wp2
                go_meet
                case rel => exact ⟨_, ((a0_0 == 2)), (by first | rfl | (simp; done) | (simp [*]; done)), H', ⟨by have := HK1.out; first | omega | exact Nat.le_refl _⟩, ⟨by (with_reducible repeat (first | refine blk_drewN ?_ _ | refine blk_drew ?_ | refine blk_alloc ?_ _)); exact BK211.out⟩, ⟨by repeat (first | (with_reducible first | exact HB.out | apply below_alloc | apply pw_below_drewN | apply below_drew1 | refine below_set ?_ GE211.out) | exact HB.out)⟩⟩
              · rw [if_neg c28] at H
                have c28b0 : (a0_0 == 2) = false := beq_eq_false_iff_ne.mpr c28
                have c28b1 : (a0_0 != 2) = true := bne_iff_ne.mpr c28
                (first | rw [c28b0] | (simp only [i64_w, i32_w]; rw [c28b0]) | skip)
                have H' := Aside0.mk H
                clear H
                go_wp2
                go_meet
                case rel => exact ⟨_, ((a0_0 == 3)), (by first | rfl | (simp; done) | (simp [*]; done)), H', ⟨by have := HK1.out; first | omega | exact Nat.le_refl _⟩, ⟨by (with_reducible repeat (first | refine blk_drewN ?_ _ | refine blk_drew ?_ | refine blk_alloc ?_ _)); exact BK211.out⟩, ⟨by repeat (first | (with_reducible first | exact HB.out | apply below_alloc | apply pw_below_drewN | apply below_drew1 | refine below_set ?_ GE211.out) | exact HB.out)⟩⟩
            case rest =>
              clear HC27
              try clear c1
              try clear c2
              try clear p2
              try clear q2
              try clear hx2
              try clear c4
              try clear c6
              try clear c6b0
              try clear p6
              try clear c7
              try clear c7b0
              try clear c8
              try clear c8b0
              try clear c10
              try clear c10b0
              try clear c16
              try clear c16b0
              try clear c16b1
              try clear c18
              try clear c19
              try clear c19b0
              try clear c21
              try clear c21b0
              try clear p21
              try clear q21
              try clear hx21
              try clear c23
              try clear c23b0
              try clear c23b1
              try clear c28
              try clear c28b0
              try clear c28b1
              try clear hcz15_0
              try clear hcz15_1
              try clear hcz15_10
              try clear hcz15_2
              try clear hcz15_3
              try clear hcz15_4
              try clear hcz15_5
              try clear hcz15_6
              try clear hcz15_7
              try clear hcz15_8
              try clear hcz15_9
              try clear hcz20_0
              try clear hcz20_1
              try clear hcz20_10
              try clear hcz20_2
              try clear hcz20_3
              try clear hcz20_4
              try clear hcz20_5
              try clear hcz20_6
              try clear hcz20_7
              try clear hcz20_8
              try clear hcz20_9
              try clear hcz22_0
              try clear hcz22_1
              try clear hcz22_10
              try clear hcz22_2
              try clear hcz22_3
              try clear hcz22_4
              try clear hcz22_5
              try clear hcz22_6
              try clear hcz22_7
              try clear hcz22_8
              try clear hcz22_9
              try clear hcz24_0
              try clear hcz24_1
              try clear hcz24_10
              try clear hcz24_2
              try clear hcz24_3
              try clear hcz24_4
              try clear hcz24_5
              try clear hcz24_6
              try clear hcz24_7
              try clear hcz24_8
              try clear hcz24_9
              try clear hcz25_0
              try clear hcz25_1
              try clear hcz25_10
              try clear hcz25_2
              try clear hcz25_3
              try clear hcz25_4
              try clear hcz25_5
              try clear hcz25_6
              try clear hcz25_7
              try clear hcz25_8
              try clear hcz25_9
              try clear hcz26_0
              try clear hcz26_1
              try clear hcz26_10
              try clear hcz26_2
              try clear hcz26_3
              try clear hcz26_4
              try clear hcz26_5
              try clear hcz26_6
              try clear hcz26_7
              try clear hcz26_8
              try clear hcz26_9
              try clear hcz3_0
              try clear hcz3_1
              try clear hcz3_10
              try clear hcz3_2
              try clear hcz3_3
              try clear hcz3_4
              try clear hcz3_5
              try clear hcz3_6
              try clear hcz3_7
              try clear hcz3_8
              try clear hcz3_9
              try clear hfz15_0
              try clear hfz15_1
              try clear hfz15_10
              try clear hfz15_2
              try clear hfz15_3
              try clear hfz15_4
              try clear hfz15_5
              try clear hfz15_6
              try clear hfz15_7
              try clear hfz15_8
              try clear hfz15_9
              try clear hfz20_0
              try clear hfz20_1
              try clear hfz20_10
              try clear hfz20_2
              try clear hfz20_3
              try clear hfz20_4
              try clear hfz20_5
              try clear hfz20_6
              try clear hfz20_7
              try clear hfz20_8
              try clear hfz20_9
              try clear hfz22_0
              try clear hfz22_1
              try clear hfz22_10
              try clear hfz22_2
              try clear hfz22_3
              try clear hfz22_4
              try clear hfz22_5
              try clear hfz22_6
              try clear hfz22_7
              try clear hfz22_8
              try clear hfz22_9
              try clear hfz24_0
              try clear hfz24_1
              try clear hfz24_10
              try clear hfz24_2
              try clear hfz24_3
              try clear hfz24_4
              try clear hfz24_5
              try clear hfz24_6
              try clear hfz24_7
              try clear hfz24_8
              try clear hfz24_9
              try clear hfz25_0
              try clear hfz25_1
              try clear hfz25_10
              try clear hfz25_2
              try clear hfz25_3
              try clear hfz25_4
              try clear hfz25_5
              try clear hfz25_6
              try clear hfz25_7
              try clear hfz25_8
              try clear hfz25_9
              try clear hfz26_0
              try clear hfz26_1
              try clear hfz26_10
              try clear hfz26_2
              try clear hfz26_3
              try clear hfz26_4
              try clear hfz26_5
              try clear hfz26_6
              try clear hfz26_7
              try clear hfz26_8
              try clear hfz26_9
              try clear hfz3_0
              try clear hfz3_1
              try clear hfz3_10
              try clear hfz3_2
              try clear hfz3_3
              try clear hfz3_4
              try clear hfz3_5
              try clear hfz3_6
              try clear hfz3_7
              try clear hfz3_8
              try clear hfz3_9
              try clear hx215_0
              try clear hx216_0
              try clear p2
              try clear p215
              try clear p216
              try clear q215
              try clear q216
              obtain ⟨kq, x59_26, rfl, HA, HJ26, BK211, HB⟩ := hcut
              cases kq with
              | zero => exact absurd HA.out (by simp [vinculumref28_proper.j1])
              | succ kj26 =>
                have H := HA.out
                clear HA
                simp only [vinculumref28_proper.j1] at H
                by_cases c29 : x59_26 = true
                · subst c29
                  have H1 : (if a0_1.toList = ([] : List UInt8) then (if a0_2 = 0 then (if a0_0 = 2 then (if (l0_8.length : Int) > 0 then (some false) else (vinculumref28_proper.j2 kj26 a0_0 a0_1 a0_2 a0_3 a0_4 a0_5 a0_6 a0_7 l0_8 a0_9 l0_10)) else (vinculumref28_proper.j2 kj26 a0_0 a0_1 a0_2 a0_3 a0_4 a0_5 a0_6 a0_7 l0_8 a0_9 l0_10)) else (some false)) else (some false)) = some r := by rw [if_pos rfl] at H; exact H
                  clear H
                  have H := H1
                  clear H1
                  by_cases c30 : a0_1.toList = ([] : List UInt8)
                  · rw [if_pos c30] at H
                    have c30b0 : (a0_1.toList == ([] : List UInt8)) = true := beq_iff_eq.mpr c30
                    have c30b1 : (a0_1.toList != ([] : List UInt8)) = false := bne_eq_false_iff_eq.mpr c30
                    clear c30
                    by_cases c31 : a0_2 = 0
                    · rw [if_pos c31] at H
                      have c31b0 : (a0_2 == 0) = true := beq_iff_eq.mpr c31
                      have c31b1 : (a0_2 != 0) = false := bne_eq_false_iff_eq.mpr c31
                      clear c31
                      by_cases c32 : a0_0 = 2
                      · rw [if_pos c32] at H
                        have c32b0 : (a0_0 == 2) = true := beq_iff_eq.mpr c32
                        have c32b1 : (a0_0 != 2) = false := bne_eq_false_iff_eq.mpr c32
                        clear c32
                        by_cases c33 : (l0_8.length : Int) > 0
                        · rw [if_pos c33] at H
                          have c33b0 : decide (0 < (l0_8.length : Int)) = true := decide_eq_true c33
                          have c33b1 : decide (0 < l0_8.length) = true := decide_eq_true (by omega)
                          clear c33
                          obtain rfl := Option.some.inj H
                          have hcz34_0 : wc.cell? ⟨gb211, 0, none⟩ = some (.int .i64 a0_0) := (blk_cell BK211.out 0).trans rfl
                          have hcz34_1 : wc.cell? ⟨gb211, 1, none⟩ = some (.string a0_1) := (blk_cell BK211.out 1).trans rfl
                          have hcz34_2 : wc.cell? ⟨gb211, 2, none⟩ = some (.int .i64 a0_2) := (blk_cell BK211.out 2).trans rfl
                          have hcz34_3 : wc.cell? ⟨gb211, 3, none⟩ = some (.int .i64 a0_3) := (blk_cell BK211.out 3).trans rfl
                          have hcz34_4 : wc.cell? ⟨gb211, 4, none⟩ = some (.int .i64 a0_4) := (blk_cell BK211.out 4).trans rfl
                          have hcz34_5 : wc.cell? ⟨gb211, 5, none⟩ = some (.int .i64 a0_5) := (blk_cell BK211.out 5).trans rfl
                          have hcz34_6 : wc.cell? ⟨gb211, 6, none⟩ = some (.int .i64 a0_6) := (blk_cell BK211.out 6).trans rfl
                          have hcz34_7 : wc.cell? ⟨gb211, 7, none⟩ = some (.int .i64 a0_7) := (blk_cell BK211.out 7).trans rfl
                          have hcz34_8 : wc.cell? ⟨gb211, 8, none⟩ = some (.slice A0_8 l0_8.length c0_8) := (blk_cell BK211.out 8).trans rfl
                          have hcz34_9 : wc.cell? ⟨gb211, 9, none⟩ = some (.int .i64 a0_9) := (blk_cell BK211.out 9).trans rfl
                          have hcz34_10 : wc.cell? ⟨gb211, 10, none⟩ = some (.slice A0_10 l0_10.length c0_10) := (blk_cell BK211.out 10).trans rfl
                          have hfz34_0 := blk_frozen BK211.out 0
                          have hfz34_1 := blk_frozen BK211.out 1
                          have hfz34_2 := blk_frozen BK211.out 2
                          have hfz34_3 := blk_frozen BK211.out 3
                          have hfz34_4 := blk_frozen BK211.out 4
                          have hfz34_5 := blk_frozen BK211.out 5
                          have hfz34_6 := blk_frozen BK211.out 6
                          have hfz34_7 := blk_frozen BK211.out 7
                          have hfz34_8 := blk_frozen BK211.out 8
                          have hfz34_9 := blk_frozen BK211.out 9
                          have hfz34_10 := blk_frozen BK211.out 10
                          go_wp2
                          go_ret
                          exact ⟨by first | rfl | (simp [errW_none, errW_some] <;> rfl) | (simp [*, errW_none, errW_some] <;> rfl), by repeat (first | (with_reducible first | exact HB.out | apply below_alloc | apply pw_below_drewN | apply below_drew1 | refine below_set ?_ GE211.out) | exact HB.out)⟩
                        · rw [if_neg c33] at H
                          have c33b0 : decide (0 < (l0_8.length : Int)) = false := decide_eq_false c33
                          have c33b1 : decide (0 < l0_8.length) = false := decide_eq_false (by omega)
                          clear c33
                          have H' := Aside0.mk H
                          clear H
                          have hcz35_0 : wc.cell? ⟨gb211, 0, none⟩ = some (.int .i64 a0_0) := (blk_cell BK211.out 0).trans rfl
                          have hcz35_1 : wc.cell? ⟨gb211, 1, none⟩ = some (.string a0_1) := (blk_cell BK211.out 1).trans rfl
                          have hcz35_2 : wc.cell? ⟨gb211, 2, none⟩ = some (.int .i64 a0_2) := (blk_cell BK211.out 2).trans rfl
                          have hcz35_3 : wc.cell? ⟨gb211, 3, none⟩ = some (.int .i64 a0_3) := (blk_cell BK211.out 3).trans rfl
                          have hcz35_4 : wc.cell? ⟨gb211, 4, none⟩ = some (.int .i64 a0_4) := (blk_cell BK211.out 4).trans rfl
                          have hcz35_5 : wc.cell? ⟨gb211, 5, none⟩ = some (.int .i64 a0_5) := (blk_cell BK211.out 5).trans rfl
                          have hcz35_6 : wc.cell? ⟨gb211, 6, none⟩ = some (.int .i64 a0_6) := (blk_cell BK211.out 6).trans rfl
                          have hcz35_7 : wc.cell? ⟨gb211, 7, none⟩ = some (.int .i64 a0_7) := (blk_cell BK211.out 7).trans rfl
                          have hcz35_8 : wc.cell? ⟨gb211, 8, none⟩ = some (.slice A0_8 l0_8.length c0_8) := (blk_cell BK211.out 8).trans rfl
                          have hcz35_9 : wc.cell? ⟨gb211, 9, none⟩ = some (.int .i64 a0_9) := (blk_cell BK211.out 9).trans rfl
                          have hcz35_10 : wc.cell? ⟨gb211, 10, none⟩ = some (.slice A0_10 l0_10.length c0_10) := (blk_cell BK211.out 10).trans rfl
                          have hfz35_0 := blk_frozen BK211.out 0
                          have hfz35_1 := blk_frozen BK211.out 1
                          have hfz35_2 := blk_frozen BK211.out 2
                          have hfz35_3 := blk_frozen BK211.out 3
                          have hfz35_4 := blk_frozen BK211.out 4
                          have hfz35_5 := blk_frozen BK211.out 5
                          have hfz35_6 := blk_frozen BK211.out 6
                          have hfz35_7 := blk_frozen BK211.out 7
                          have hfz35_8 := blk_frozen BK211.out 8
                          have hfz35_9 := blk_frozen BK211.out 9
                          have hfz35_10 := blk_frozen BK211.out 10
                          go_wp2
                          go_meet
                          case rel => exact ⟨_, H', ⟨by have := HK1.out; have := HJ26.out; first | omega | exact Nat.le_refl _⟩, ⟨by (with_reducible repeat (first | refine blk_drewN ?_ _ | refine blk_drew ?_ | refine blk_alloc ?_ _)); exact BK211.out⟩, ⟨by repeat (first | (with_reducible first | exact HB.out | apply below_alloc | apply pw_below_drewN | apply below_drew1 | refine below_set ?_ GE211.out) | exact HB.out)⟩⟩
                      · rw [if_neg c32] at H
                        have c32b0 : (a0_0 == 2) = false := beq_eq_false_iff_ne.mpr c32
                        have c32b1 : (a0_0 != 2) = true := bne_iff_ne.mpr c32
                        have H' := Aside0.mk H
                        clear H
                        have hcz36_0 : wc.cell? ⟨gb211, 0, none⟩ = some (.int .i64 a0_0) := (blk_cell BK211.out 0).trans rfl
                        have hcz36_1 : wc.cell? ⟨gb211, 1, none⟩ = some (.string a0_1) := (blk_cell BK211.out 1).trans rfl
                        have hcz36_2 : wc.cell? ⟨gb211, 2, none⟩ = some (.int .i64 a0_2) := (blk_cell BK211.out 2).trans rfl
                        have hcz36_3 : wc.cell? ⟨gb211, 3, none⟩ = some (.int .i64 a0_3) := (blk_cell BK211.out 3).trans rfl
                        have hcz36_4 : wc.cell? ⟨gb211, 4, none⟩ = some (.int .i64 a0_4) := (blk_cell BK211.out 4).trans rfl
                        have hcz36_5 : wc.cell? ⟨gb211, 5, none⟩ = some (.int .i64 a0_5) := (blk_cell BK211.out 5).trans rfl
                        have hcz36_6 : wc.cell? ⟨gb211, 6, none⟩ = some (.int .i64 a0_6) := (blk_cell BK211.out 6).trans rfl
                        have hcz36_7 : wc.cell? ⟨gb211, 7, none⟩ = some (.int .i64 a0_7) := (blk_cell BK211.out 7).trans rfl
                        have hcz36_8 : wc.cell? ⟨gb211, 8, none⟩ = some (.slice A0_8 l0_8.length c0_8) := (blk_cell BK211.out 8).trans rfl
                        have hcz36_9 : wc.cell? ⟨gb211, 9, none⟩ = some (.int .i64 a0_9) := (blk_cell BK211.out 9).trans rfl
                        have hcz36_10 : wc.cell? ⟨gb211, 10, none⟩ = some (.slice A0_10 l0_10.length c0_10) := (blk_cell BK211.out 10).trans rfl
                        have hfz36_0 := blk_frozen BK211.out 0
                        have hfz36_1 := blk_frozen BK211.out 1
                        have hfz36_2 := blk_frozen BK211.out 2
                        have hfz36_3 := blk_frozen BK211.out 3
                        have hfz36_4 := blk_frozen BK211.out 4
                        have hfz36_5 := blk_frozen BK211.out 5
                        have hfz36_6 := blk_frozen BK211.out 6
                        have hfz36_7 := blk_frozen BK211.out 7
                        have hfz36_8 := blk_frozen BK211.out 8
                        have hfz36_9 := blk_frozen BK211.out 9
                        have hfz36_10 := blk_frozen BK211.out 10
                        go_wp2
                        go_meet
                        case rel => exact ⟨_, H', ⟨by have := HK1.out; have := HJ26.out; first | omega | exact Nat.le_refl _⟩, ⟨by (with_reducible repeat (first | refine blk_drewN ?_ _ | refine blk_drew ?_ | refine blk_alloc ?_ _)); exact BK211.out⟩, ⟨by repeat (first | (with_reducible first | exact HB.out | apply below_alloc | apply pw_below_drewN | apply below_drew1 | refine below_set ?_ GE211.out) | exact HB.out)⟩⟩
                    · rw [if_neg c31] at H
                      have c31b0 : (a0_2 == 0) = false := beq_eq_false_iff_ne.mpr c31
                      have c31b1 : (a0_2 != 0) = true := bne_iff_ne.mpr c31
                      obtain rfl := Option.some.inj H
                      have hcz37_0 : wc.cell? ⟨gb211, 0, none⟩ = some (.int .i64 a0_0) := (blk_cell BK211.out 0).trans rfl
                      have hcz37_1 : wc.cell? ⟨gb211, 1, none⟩ = some (.string a0_1) := (blk_cell BK211.out 1).trans rfl
                      have hcz37_2 : wc.cell? ⟨gb211, 2, none⟩ = some (.int .i64 a0_2) := (blk_cell BK211.out 2).trans rfl
                      have hcz37_3 : wc.cell? ⟨gb211, 3, none⟩ = some (.int .i64 a0_3) := (blk_cell BK211.out 3).trans rfl
                      have hcz37_4 : wc.cell? ⟨gb211, 4, none⟩ = some (.int .i64 a0_4) := (blk_cell BK211.out 4).trans rfl
                      have hcz37_5 : wc.cell? ⟨gb211, 5, none⟩ = some (.int .i64 a0_5) := (blk_cell BK211.out 5).trans rfl
                      have hcz37_6 : wc.cell? ⟨gb211, 6, none⟩ = some (.int .i64 a0_6) := (blk_cell BK211.out 6).trans rfl
                      have hcz37_7 : wc.cell? ⟨gb211, 7, none⟩ = some (.int .i64 a0_7) := (blk_cell BK211.out 7).trans rfl
                      have hcz37_8 : wc.cell? ⟨gb211, 8, none⟩ = some (.slice A0_8 l0_8.length c0_8) := (blk_cell BK211.out 8).trans rfl
                      have hcz37_9 : wc.cell? ⟨gb211, 9, none⟩ = some (.int .i64 a0_9) := (blk_cell BK211.out 9).trans rfl
                      have hcz37_10 : wc.cell? ⟨gb211, 10, none⟩ = some (.slice A0_10 l0_10.length c0_10) := (blk_cell BK211.out 10).trans rfl
                      have hfz37_0 := blk_frozen BK211.out 0
                      have hfz37_1 := blk_frozen BK211.out 1
                      have hfz37_2 := blk_frozen BK211.out 2
                      have hfz37_3 := blk_frozen BK211.out 3
                      have hfz37_4 := blk_frozen BK211.out 4
                      have hfz37_5 := blk_frozen BK211.out 5
                      have hfz37_6 := blk_frozen BK211.out 6
                      have hfz37_7 := blk_frozen BK211.out 7
                      have hfz37_8 := blk_frozen BK211.out 8
                      have hfz37_9 := blk_frozen BK211.out 9
                      have hfz37_10 := blk_frozen BK211.out 10
                      go_wp2
                      go_ret
                      exact ⟨by first | rfl | (simp [errW_none, errW_some] <;> rfl) | (simp [*, errW_none, errW_some] <;> rfl), by repeat (first | (with_reducible first | exact HB.out | apply below_alloc | apply pw_below_drewN | apply below_drew1 | refine below_set ?_ GE211.out) | exact HB.out)⟩
                  · rw [if_neg c30] at H
                    have c30b0 : (a0_1.toList == ([] : List UInt8)) = false := beq_eq_false_iff_ne.mpr c30
                    have c30b1 : (a0_1.toList != ([] : List UInt8)) = true := bne_iff_ne.mpr c30
                    obtain rfl := Option.some.inj H
                    have hcz38_0 : wc.cell? ⟨gb211, 0, none⟩ = some (.int .i64 a0_0) := (blk_cell BK211.out 0).trans rfl
                    have hcz38_1 : wc.cell? ⟨gb211, 1, none⟩ = some (.string a0_1) := (blk_cell BK211.out 1).trans rfl
                    have hcz38_2 : wc.cell? ⟨gb211, 2, none⟩ = some (.int .i64 a0_2) := (blk_cell BK211.out 2).trans rfl
                    have hcz38_3 : wc.cell? ⟨gb211, 3, none⟩ = some (.int .i64 a0_3) := (blk_cell BK211.out 3).trans rfl
                    have hcz38_4 : wc.cell? ⟨gb211, 4, none⟩ = some (.int .i64 a0_4) := (blk_cell BK211.out 4).trans rfl
                    have hcz38_5 : wc.cell? ⟨gb211, 5, none⟩ = some (.int .i64 a0_5) := (blk_cell BK211.out 5).trans rfl
                    have hcz38_6 : wc.cell? ⟨gb211, 6, none⟩ = some (.int .i64 a0_6) := (blk_cell BK211.out 6).trans rfl
                    have hcz38_7 : wc.cell? ⟨gb211, 7, none⟩ = some (.int .i64 a0_7) := (blk_cell BK211.out 7).trans rfl
                    have hcz38_8 : wc.cell? ⟨gb211, 8, none⟩ = some (.slice A0_8 l0_8.length c0_8) := (blk_cell BK211.out 8).trans rfl
                    have hcz38_9 : wc.cell? ⟨gb211, 9, none⟩ = some (.int .i64 a0_9) := (blk_cell BK211.out 9).trans rfl
                    have hcz38_10 : wc.cell? ⟨gb211, 10, none⟩ = some (.slice A0_10 l0_10.length c0_10) := (blk_cell BK211.out 10).trans rfl
                    have hfz38_0 := blk_frozen BK211.out 0
                    have hfz38_1 := blk_frozen BK211.out 1
                    have hfz38_2 := blk_frozen BK211.out 2
                    have hfz38_3 := blk_frozen BK211.out 3
                    have hfz38_4 := blk_frozen BK211.out 4
                    have hfz38_5 := blk_frozen BK211.out 5
                    have hfz38_6 := blk_frozen BK211.out 6
                    have hfz38_7 := blk_frozen BK211.out 7
                    have hfz38_8 := blk_frozen BK211.out 8
                    have hfz38_9 := blk_frozen BK211.out 9
                    have hfz38_10 := blk_frozen BK211.out 10
                    go_wp2
                    go_ret
                    exact ⟨by first | rfl | (simp [errW_none, errW_some] <;> rfl) | (simp [*, errW_none, errW_some] <;> rfl), by repeat (first | (with_reducible first | exact HB.out | apply below_alloc | apply pw_below_drewN | apply below_drew1 | refine below_set ?_ GE211.out) | exact HB.out)⟩
                · replace c29 := Bool.eq_false_iff.mpr c29
                  subst c29
                  have H1 : (some false) = some r := by rw [if_neg (show ¬ (false = true) by decide)] at H; exact H
                  clear H
                  have H := H1
                  clear H1
                  obtain rfl := Option.some.inj H
                  go_wp2
                  go_ret
                  exact ⟨by first | rfl | (simp [errW_none, errW_some] <;> rfl) | (simp [*, errW_none, errW_some] <;> rfl), by repeat (first | (with_reducible first | exact HB.out | apply below_alloc | apply pw_below_drewN | apply below_drew1 | refine below_set ?_ GE211.out) | exact HB.out)⟩
        case rest =>
          clear HC13
          try clear c1
          try clear c2
          try clear p2
          try clear q2
          try clear hx2
          try clear c3
          try clear c4
          try clear c6
          try clear c6b0
          try clear p6
          try clear c7
          try clear c7b0
          try clear c8
          try clear c8b0
          try clear c10
          try clear c10b0
          try clear c16
          try clear c16b0
          try clear c16b1
          try clear c18
          try clear c19
          try clear c19b0
          try clear c21
          try clear c21b0
          try clear p21
          try clear q21
          try clear hx21
          try clear c23
          try clear c23b0
          try clear c23b1
          try clear c28
          try clear c28b0
          try clear c28b1
          try clear c29
          try clear c30
          try clear c30b0
          try clear c30b1
          try clear c31
          try clear c31b0
          try clear c31b1
          try clear c32
          try clear c32b0
          try clear c32b1
          try clear c33
          try clear c33b0
          try clear c33b1
          try clear hcz15_0
          try clear hcz15_1
          try clear hcz15_10
          try clear hcz15_2
          try clear hcz15_3
          try clear hcz15_4
          try clear hcz15_5
          try clear hcz15_6
          try clear hcz15_7
          try clear hcz15_8
          try clear hcz15_9
          try clear hcz20_0
          try clear hcz20_1
          try clear hcz20_10
          try clear hcz20_2
          try clear hcz20_3
          try clear hcz20_4
          try clear hcz20_5
          try clear hcz20_6
          try clear hcz20_7
          try clear hcz20_8
          try clear hcz20_9
          try clear hcz22_0
          try clear hcz22_1
          try clear hcz22_10
          try clear hcz22_2
          try clear hcz22_3
          try clear hcz22_4
          try clear hcz22_5
          try clear hcz22_6
          try clear hcz22_7
          try clear hcz22_8
          try clear hcz22_9
          try clear hcz24_0
          try clear hcz24_1
          try clear hcz24_10
          try clear hcz24_2
          try clear hcz24_3
          try clear hcz24_4
          try clear hcz24_5
          try clear hcz24_6
          try clear hcz24_7
          try clear hcz24_8
          try clear hcz24_9
          try clear hcz25_0
          try clear hcz25_1
          try clear hcz25_10
          try clear hcz25_2
          try clear hcz25_3
          try clear hcz25_4
          try clear hcz25_5
          try clear hcz25_6
          try clear hcz25_7
          try clear hcz25_8
          try clear hcz25_9
          try clear hcz26_0
          try clear hcz26_1
          try clear hcz26_10
          try clear hcz26_2
          try clear hcz26_3
          try clear hcz26_4
          try clear hcz26_5
          try clear hcz26_6
          try clear hcz26_7
          try clear hcz26_8
          try clear hcz26_9
          try clear hcz34_0
          try clear hcz34_1
          try clear hcz34_10
          try clear hcz34_2
          try clear hcz34_3
          try clear hcz34_4
          try clear hcz34_5
          try clear hcz34_6
          try clear hcz34_7
          try clear hcz34_8
          try clear hcz34_9
          try clear hcz35_0
          try clear hcz35_1
          try clear hcz35_10
          try clear hcz35_2
          try clear hcz35_3
          try clear hcz35_4
          try clear hcz35_5
          try clear hcz35_6
          try clear hcz35_7
          try clear hcz35_8
          try clear hcz35_9
          try clear hcz36_0
          try clear hcz36_1
          try clear hcz36_10
          try clear hcz36_2
          try clear hcz36_3
          try clear hcz36_4
          try clear hcz36_5
          try clear hcz36_6
          try clear hcz36_7
          try clear hcz36_8
          try clear hcz36_9
          try clear hcz37_0
          try clear hcz37_1
          try clear hcz37_10
          try clear hcz37_2
          try clear hcz37_3
          try clear hcz37_4
          try clear hcz37_5
          try clear hcz37_6
          try clear hcz37_7
          try clear hcz37_8
          try clear hcz37_9
          try clear hcz38_0
          try clear hcz38_1
          try clear hcz38_10
          try clear hcz38_2
          try clear hcz38_3
          try clear hcz38_4
          try clear hcz38_5
          try clear hcz38_6
          try clear hcz38_7
          try clear hcz38_8
          try clear hcz38_9
          try clear hcz3_0
          try clear hcz3_1
          try clear hcz3_10
          try clear hcz3_2
          try clear hcz3_3
          try clear hcz3_4
          try clear hcz3_5
          try clear hcz3_6
          try clear hcz3_7
          try clear hcz3_8
          try clear hcz3_9
          try clear hfz15_0
          try clear hfz15_1
          try clear hfz15_10
          try clear hfz15_2
          try clear hfz15_3
          try clear hfz15_4
          try clear hfz15_5
          try clear hfz15_6
          try clear hfz15_7
          try clear hfz15_8
          try clear hfz15_9
          try clear hfz20_0
          try clear hfz20_1
          try clear hfz20_10
          try clear hfz20_2
          try clear hfz20_3
          try clear hfz20_4
          try clear hfz20_5
          try clear hfz20_6
          try clear hfz20_7
          try clear hfz20_8
          try clear hfz20_9
          try clear hfz22_0
          try clear hfz22_1
          try clear hfz22_10
          try clear hfz22_2
          try clear hfz22_3
          try clear hfz22_4
          try clear hfz22_5
          try clear hfz22_6
          try clear hfz22_7
          try clear hfz22_8
          try clear hfz22_9
          try clear hfz24_0
          try clear hfz24_1
          try clear hfz24_10
          try clear hfz24_2
          try clear hfz24_3
          try clear hfz24_4
          try clear hfz24_5
          try clear hfz24_6
          try clear hfz24_7
          try clear hfz24_8
          try clear hfz24_9
          try clear hfz25_0
          try clear hfz25_1
          try clear hfz25_10
          try clear hfz25_2
          try clear hfz25_3
          try clear hfz25_4
          try clear hfz25_5
          try clear hfz25_6
          try clear hfz25_7
          try clear hfz25_8
          try clear hfz25_9
          try clear hfz26_0
          try clear hfz26_1
          try clear hfz26_10
          try clear hfz26_2
          try clear hfz26_3
          try clear hfz26_4
          try clear hfz26_5
          try clear hfz26_6
          try clear hfz26_7
          try clear hfz26_8
          try clear hfz26_9
          try clear hfz34_0
          try clear hfz34_1
          try clear hfz34_10
          try clear hfz34_2
          try clear hfz34_3
          try clear hfz34_4
          try clear hfz34_5
          try clear hfz34_6
          try clear hfz34_7
          try clear hfz34_8
          try clear hfz34_9
          try clear hfz35_0
          try clear hfz35_1
          try clear hfz35_10
          try clear hfz35_2
          try clear hfz35_3
          try clear hfz35_4
          try clear hfz35_5
          try clear hfz35_6
          try clear hfz35_7
          try clear hfz35_8
          try clear hfz35_9
          try clear hfz36_0
          try clear hfz36_1
          try clear hfz36_10
          try clear hfz36_2
          try clear hfz36_3
          try clear hfz36_4
          try clear hfz36_5
          try clear hfz36_6
          try clear hfz36_7
          try clear hfz36_8
          try clear hfz36_9
          try clear hfz37_0
          try clear hfz37_1
          try clear hfz37_10
          try clear hfz37_2
          try clear hfz37_3
          try clear hfz37_4
          try clear hfz37_5
          try clear hfz37_6
          try clear hfz37_7
          try clear hfz37_8
          try clear hfz37_9
          try clear hfz38_0
          try clear hfz38_1
          try clear hfz38_10
          try clear hfz38_2
          try clear hfz38_3
          try clear hfz38_4
          try clear hfz38_5
          try clear hfz38_6
          try clear hfz38_7
          try clear hfz38_8
          try clear hfz38_9
          try clear hfz3_0
          try clear hfz3_1
          try clear hfz3_10
          try clear hfz3_2
          try clear hfz3_3
          try clear hfz3_4
          try clear hfz3_5
          try clear hfz3_6
          try clear hfz3_7
          try clear hfz3_8
          try clear hfz3_9
          try clear hx215_0
          try clear hx216_0
          try clear p2
          try clear p21
          try clear p215
          try clear p216
          try clear p6
          try clear q2
          try clear q21
          try clear q215
          try clear q216
          obtain ⟨kq, HA, HJ12, BK211, HB⟩ := hcut
          cases kq with
          | zero => exact absurd HA.out (by simp [vinculumref28_proper.j2])
          | succ kj12 =>
            have H := HA.out
            clear HA
            simp only [vinculumref28_proper.j2] at H
            have H' := Aside0.mk H
            clear H
            go_wp2
            go_loopg [5] kj12 (fun kq v5 w' => ∃ (x5_3 : Int), v5 = .int .i64 x5_3 ∧ Aside0 (vinculumref28_proper.l1 kq x5_3 a0_0 a0_1 a0_2 a0_3 a0_4 a0_5 a0_6 a0_7 l0_8 a0_9 l0_10 = some r) ∧ Aside0 (kq ≤ kj12) ∧ Aside0 (w'.heap[gb211]? = some (.cells #[.int .i64 a0_0, .string a0_1, .int .i64 a0_2, .int .i64 a0_3, .int .i64 a0_4, .int .i64 a0_5, .int .i64 a0_6, .int .i64 a0_7, (.slice A0_8 l0_8.length c0_8), .int .i64 a0_9, (.slice A0_10 l0_10.length c0_10)] 28 (0, 0))) ∧ Aside0 (Below w.heap.size w w'))
            case atStart => exact ⟨(0), (by first | rfl | (simp; done) | (simp [*]; done)), H', ⟨Nat.le_refl _⟩, ⟨by (with_reducible repeat (first | refine blk_drewN ?_ _ | refine blk_drew ?_ | refine blk_alloc ?_ _)); exact BK211.out⟩, ⟨by repeat (first | (with_reducible first | exact HB.out | apply below_alloc | apply pw_below_drewN | apply below_drew1 | refine below_set ?_ GE211.out) | exact HB.out)⟩⟩
            case round =>
              clear H'
              try clear c1
              try clear c2
              try clear p2
              try clear q2
              try clear hx2
              try clear c3
              try clear c4
              try clear c6
              try clear c6b0
              try clear p6
              try clear c7
              try clear c7b0
              try clear c8
              try clear c8b0
              try clear c10
              try clear c10b0
              try clear c16
              try clear c16b0
              try clear c16b1
              try clear c18
              try clear c19
              try clear c19b0
              try clear c21
              try clear c21b0
              try clear p21
              try clear q21
              try clear hx21
              try clear c23
              try clear c23b0
              try clear c23b1
              try clear c28
              try clear c28b0
              try clear c28b1
              try clear c29
              try clear c30
              try clear c30b0
              try clear c30b1
              try clear c31
              try clear c31b0
              try clear c31b1
              try clear c32
              try clear c32b0
              try clear c32b1
              try clear c33
              try clear c33b0
              try clear c33b1
              try clear hcz15_0
              try clear hcz15_1
              try clear hcz15_10
              try clear hcz15_2
              try clear hcz15_3
              try clear hcz15_4
              try clear hcz15_5
              try clear hcz15_6
              try clear hcz15_7
              try clear hcz15_8
              try clear hcz15_9
              try clear hcz20_0
              try clear hcz20_1
              try clear hcz20_10
              try clear hcz20_2
              try clear hcz20_3
              try clear hcz20_4
              try clear hcz20_5
              try clear hcz20_6
              try clear hcz20_7
              try clear hcz20_8
              try clear hcz20_9
              try clear hcz22_0
              try clear hcz22_1
              try clear hcz22_10
              try clear hcz22_2
              try clear hcz22_3
              try clear hcz22_4
              try clear hcz22_5
              try clear hcz22_6
              try clear hcz22_7
              try clear hcz22_8
              try clear hcz22_9
              try clear hcz24_0
              try clear hcz24_1
              try clear hcz24_10
              try clear hcz24_2
              try clear hcz24_3
              try clear hcz24_4
              try clear hcz24_5
              try clear hcz24_6
              try clear hcz24_7
              try clear hcz24_8
              try clear hcz24_9
              try clear hcz25_0
              try clear hcz25_1
              try clear hcz25_10
              try clear hcz25_2
              try clear hcz25_3
              try clear hcz25_4
              try clear hcz25_5
              try clear hcz25_6
              try clear hcz25_7
              try clear hcz25_8
              try clear hcz25_9
              try clear hcz26_0
              try clear hcz26_1
              try clear hcz26_10
              try clear hcz26_2
              try clear hcz26_3
              try clear hcz26_4
              try clear hcz26_5
              try clear hcz26_6
              try clear hcz26_7
              try clear hcz26_8
              try clear hcz26_9
              try clear hcz34_0
              try clear hcz34_1
              try clear hcz34_10
              try clear hcz34_2
              try clear hcz34_3
              try clear hcz34_4
              try clear hcz34_5
              try clear hcz34_6
              try clear hcz34_7
              try clear hcz34_8
              try clear hcz34_9
              try clear hcz35_0
              try clear hcz35_1
              try clear hcz35_10
              try clear hcz35_2
              try clear hcz35_3
              try clear hcz35_4
              try clear hcz35_5
              try clear hcz35_6
              try clear hcz35_7
              try clear hcz35_8
              try clear hcz35_9
              try clear hcz36_0
              try clear hcz36_1
              try clear hcz36_10
              try clear hcz36_2
              try clear hcz36_3
              try clear hcz36_4
              try clear hcz36_5
              try clear hcz36_6
              try clear hcz36_7
              try clear hcz36_8
              try clear hcz36_9
              try clear hcz37_0
              try clear hcz37_1
              try clear hcz37_10
              try clear hcz37_2
              try clear hcz37_3
              try clear hcz37_4
              try clear hcz37_5
              try clear hcz37_6
              try clear hcz37_7
              try clear hcz37_8
              try clear hcz37_9
              try clear hcz38_0
              try clear hcz38_1
              try clear hcz38_10
              try clear hcz38_2
              try clear hcz38_3
              try clear hcz38_4
              try clear hcz38_5
              try clear hcz38_6
              try clear hcz38_7
              try clear hcz38_8
              try clear hcz38_9
              try clear hcz3_0
              try clear hcz3_1
              try clear hcz3_10
              try clear hcz3_2
              try clear hcz3_3
              try clear hcz3_4
              try clear hcz3_5
              try clear hcz3_6
              try clear hcz3_7
              try clear hcz3_8
              try clear hcz3_9
              try clear hfz15_0
              try clear hfz15_1
              try clear hfz15_10
              try clear hfz15_2
              try clear hfz15_3
              try clear hfz15_4
              try clear hfz15_5
              try clear hfz15_6
              try clear hfz15_7
              try clear hfz15_8
              try clear hfz15_9
              try clear hfz20_0
              try clear hfz20_1
              try clear hfz20_10
              try clear hfz20_2
              try clear hfz20_3
              try clear hfz20_4
              try clear hfz20_5
              try clear hfz20_6
              try clear hfz20_7
              try clear hfz20_8
              try clear hfz20_9
              try clear hfz22_0
              try clear hfz22_1
              try clear hfz22_10
              try clear hfz22_2
              try clear hfz22_3
              try clear hfz22_4
              try clear hfz22_5
              try clear hfz22_6
              try clear hfz22_7
              try clear hfz22_8
              try clear hfz22_9
              try clear hfz24_0
              try clear hfz24_1
              try clear hfz24_10
              try clear hfz24_2
              try clear hfz24_3
              try clear hfz24_4
              try clear hfz24_5
              try clear hfz24_6
              try clear hfz24_7
              try clear hfz24_8
              try clear hfz24_9
              try clear hfz25_0
              try clear hfz25_1
              try clear hfz25_10
              try clear hfz25_2
              try clear hfz25_3
              try clear hfz25_4
              try clear hfz25_5
              try clear hfz25_6
              try clear hfz25_7
              try clear hfz25_8
              try clear hfz25_9
              try clear hfz26_0
              try clear hfz26_1
              try clear hfz26_10
              try clear hfz26_2
              try clear hfz26_3
              try clear hfz26_4
              try clear hfz26_5
              try clear hfz26_6
              try clear hfz26_7
              try clear hfz26_8
              try clear hfz26_9
              try clear hfz34_0
              try clear hfz34_1
              try clear hfz34_10
              try clear hfz34_2
              try clear hfz34_3
              try clear hfz34_4
              try clear hfz34_5
              try clear hfz34_6
              try clear hfz34_7
              try clear hfz34_8
              try clear hfz34_9
              try clear hfz35_0
              try clear hfz35_1
              try clear hfz35_10
              try clear hfz35_2
              try clear hfz35_3
              try clear hfz35_4
              try clear hfz35_5
              try clear hfz35_6
              try clear hfz35_7
              try clear hfz35_8
              try clear hfz35_9
              try clear hfz36_0
              try clear hfz36_1
              try clear hfz36_10
              try clear hfz36_2
              try clear hfz36_3
              try clear hfz36_4
              try clear hfz36_5
              try clear hfz36_6
              try clear hfz36_7
              try clear hfz36_8
              try clear hfz36_9
              try clear hfz37_0
              try clear hfz37_1
              try clear hfz37_10
              try clear hfz37_2
              try clear hfz37_3
              try clear hfz37_4
              try clear hfz37_5
              try clear hfz37_6
              try clear hfz37_7
              try clear hfz37_8
              try clear hfz37_9
              try clear hfz38_0
              try clear hfz38_1
              try clear hfz38_10
              try clear hfz38_2
              try clear hfz38_3
              try clear hfz38_4
              try clear hfz38_5
              try clear hfz38_6
              try clear hfz38_7
              try clear hfz38_8
              try clear hfz38_9
              try clear hfz3_0
              try clear hfz3_1
              try clear hfz3_10
              try clear hfz3_2
              try clear hfz3_3
              try clear hfz3_4
              try clear hfz3_5
              try clear hfz3_6
              try clear hfz3_7
              try clear hfz3_8
              try clear hfz3_9
              try clear hx215_0
              try clear hx216_0
              try clear p2
              try clear p21
              try clear p215
              try clear p216
              try clear p6
              try clear q2
              try clear q21
              try clear q215
              try clear q216
              obtain ⟨x5_3, rfl, HA, HK3, BK211, HB⟩ := hrel
              cases gk with
              | zero => exact absurd HA.out (by simp [vinculumref28_proper.l1])
              | succ k3 =>
                have H := HA.out
                clear HA
                simp only [vinculumref28_proper.l1] at H
                by_cases c39 : x5_3 < (l0_8.length : Int)
                · rw [if_pos c39] at H
                  have c39b0 : decide (x5_3 < (l0_8.length : Int)) = true := decide_eq_true c39
                  clear c39
                  by_cases c40 : 0 ≤ x5_3
                  · rw [if_pos c40] at H
                    have c40b0 : decide (0 ≤ x5_3) = true := decide_eq_true c40
                    clear c40
                    replace H := Option.bind_eq_some_iff.mp H
                    obtain ⟨t219, A410, H⟩ := H
                    replace H : (if t219 = true then (vinculumref28_proper.l1 k3 (wrap64 (x5_3 + 1)) a0_0 a0_1 a0_2 a0_3 a0_4 a0_5 a0_6 a0_7 l0_8 a0_9 l0_10) else (some false)) = some r := H
                    have A41 := Aside0.mk A410
                    clear A410
                    by_cases c42 : t219 = true
                    · subst c42
                      have H1 : (vinculumref28_proper.l1 k3 (wrap64 (x5_3 + 1)) a0_0 a0_1 a0_2 a0_3 a0_4 a0_5 a0_6 a0_7 l0_8 a0_9 l0_10) = some r := by rw [if_pos rfl] at H; exact H
                      clear H
                      have H := H1
                      clear H1
                      have H' := Aside0.mk H
                      clear H
                      have hcz43_0 : wr.cell? ⟨gb211, 0, none⟩ = some (.int .i64 a0_0) := (blk_cell BK211.out 0).trans rfl
                      have hcz43_1 : wr.cell? ⟨gb211, 1, none⟩ = some (.string a0_1) := (blk_cell BK211.out 1).trans rfl
                      have hcz43_2 : wr.cell? ⟨gb211, 2, none⟩ = some (.int .i64 a0_2) := (blk_cell BK211.out 2).trans rfl
                      have hcz43_3 : wr.cell? ⟨gb211, 3, none⟩ = some (.int .i64 a0_3) := (blk_cell BK211.out 3).trans rfl
                      have hcz43_4 : wr.cell? ⟨gb211, 4, none⟩ = some (.int .i64 a0_4) := (blk_cell BK211.out 4).trans rfl
                      have hcz43_5 : wr.cell? ⟨gb211, 5, none⟩ = some (.int .i64 a0_5) := (blk_cell BK211.out 5).trans rfl
                      have hcz43_6 : wr.cell? ⟨gb211, 6, none⟩ = some (.int .i64 a0_6) := (blk_cell BK211.out 6).trans rfl
                      have hcz43_7 : wr.cell? ⟨gb211, 7, none⟩ = some (.int .i64 a0_7) := (blk_cell BK211.out 7).trans rfl
                      have hcz43_8 : wr.cell? ⟨gb211, 8, none⟩ = some (.slice A0_8 l0_8.length c0_8) := (blk_cell BK211.out 8).trans rfl
                      have hcz43_9 : wr.cell? ⟨gb211, 9, none⟩ = some (.int .i64 a0_9) := (blk_cell BK211.out 9).trans rfl
                      have hcz43_10 : wr.cell? ⟨gb211, 10, none⟩ = some (.slice A0_10 l0_10.length c0_10) := (blk_cell BK211.out 10).trans rfl
                      have hfz43_0 := blk_frozen BK211.out 0
                      have hfz43_1 := blk_frozen BK211.out 1
                      have hfz43_2 := blk_frozen BK211.out 2
                      have hfz43_3 := blk_frozen BK211.out 3
                      have hfz43_4 := blk_frozen BK211.out 4
                      have hfz43_5 := blk_frozen BK211.out 5
                      have hfz43_6 := blk_frozen BK211.out 6
                      have hfz43_7 := blk_frozen BK211.out 7
                      have hfz43_8 := blk_frozen BK211.out 8
                      have hfz43_9 := blk_frozen BK211.out 9
                      have hfz43_10 := blk_frozen BK211.out 10
                      have p218 : 0 ≤ (x5_3 : Int) := of_decide_eq_true (by first | (with_reducible assumption) | assumption)
                      have q218 : x5_3 < (l0_8.length : Int) := of_decide_eq_true (by first | (with_reducible assumption) | assumption)
                      obtain ⟨ad218, A218_8, c218_8, A218_10, c218_10, e218, hx218_0, hx218_1, hx218_2, hx218_3, hx218_4, hx218_5, hx218_6, hx218_7, hx218_8, hx218_9, hx218_10, hl218_8, hi218_8, hl218_10, hi218_10⟩ := at_T28 HR0_8.out x5_3 p218 q218
                      cases e218
                      replace hx218_0 := (HB.out.cell (World.block_lt_of_cell? w _ hx218_0)).trans hx218_0
                      replace hx218_1 := (HB.out.cell (World.block_lt_of_cell? w _ hx218_1)).trans hx218_1
                      replace hx218_2 := (HB.out.cell (World.block_lt_of_cell? w _ hx218_2)).trans hx218_2
                      replace hx218_3 := (HB.out.cell (World.block_lt_of_cell? w _ hx218_3)).trans hx218_3
                      replace hx218_4 := (HB.out.cell (World.block_lt_of_cell? w _ hx218_4)).trans hx218_4
                      replace hx218_5 := (HB.out.cell (World.block_lt_of_cell? w _ hx218_5)).trans hx218_5
                      replace hx218_6 := (HB.out.cell (World.block_lt_of_cell? w _ hx218_6)).trans hx218_6
                      replace hx218_7 := (HB.out.cell (World.block_lt_of_cell? w _ hx218_7)).trans hx218_7
                      replace hx218_8 := (HB.out.cell (World.block_lt_of_cell? w _ hx218_8)).trans hx218_8
                      replace hx218_9 := (HB.out.cell (World.block_lt_of_cell? w _ hx218_9)).trans hx218_9
                      replace hx218_10 := (HB.out.cell (World.block_lt_of_cell? w _ hx218_10)).trans hx218_10
                      have HR218_8 := Aside0.mk hi218_8
                      have HC218_8 := Aside0.mk hl218_8
                      clear hi218_8 hl218_8
                      have HR218_10 := Aside0.mk hi218_10
                      have HC218_10 := Aside0.mk hl218_10
                      clear hi218_10 hl218_10
                      replace p218 := eq_true p218
                      replace q218 := eq_true q218
                      go_wp2_with (first | ((with_reducible refine gate_callee (f := 46) rfl ?_); refine goesL_ (some 93) rfl rfl Try.func46 (by kernel_rfl) rfl #[.agg #[.int .i64 ((rd_T28 l0_8 x5_3).f0), .string ((rd_T28 l0_8 x5_3).f1), .int .i64 ((rd_T28 l0_8 x5_3).f2), .int .i64 ((rd_T28 l0_8 x5_3).f3), .int .i64 ((rd_T28 l0_8 x5_3).f4), .int .i64 ((rd_T28 l0_8 x5_3).f5), .int .i64 ((rd_T28 l0_8 x5_3).f6), .int .i64 ((rd_T28 l0_8 x5_3).f7), .slice A218_8 ((rd_T28 l0_8 x5_3).f8).length c218_8, .int .i64 ((rd_T28 l0_8 x5_3).f9), .slice A218_10 ((rd_T28 l0_8 x5_3).f10).length c218_10]] rfl (by (try simp only [List.map_toArray, List.map_cons, List.map_nil]); first | done | rfl | (simp only [List.length_drop, List.length_take]; rfl)) ?_; (with_reducible refine (ih k3 (by have := HK1.out; have := HJ12.out; have := HK3.out; omega) ((rd_T28 l0_8 x5_3).f0) ((rd_T28 l0_8 x5_3).f1) ((rd_T28 l0_8 x5_3).f2) ((rd_T28 l0_8 x5_3).f3) ((rd_T28 l0_8 x5_3).f4) ((rd_T28 l0_8 x5_3).f5) ((rd_T28 l0_8 x5_3).f6) ((rd_T28 l0_8 x5_3).f7) _ _ ((rd_T28 l0_8 x5_3).f8) ((rd_T28 l0_8 x5_3).f9) _ _ ((rd_T28 l0_8 x5_3).f10) true _ ?side1 ?side2 ?side3 ?side4 A41.out).mono ?_); (case side1 => repeat (first | exact (Kd.C_below HR218_8.out HB.out) | (with_reducible refine Kd.C_alloc ?_ _) | (with_reducible refine Kd.C_drewN ?_ _) | (with_reducible refine Kd.C_drew ?_))); (case side2 => exact HC218_8.out); (case side3 => repeat (first | exact (Kd.C_below HR218_10.out HB.out) | (with_reducible refine Kd.C_alloc ?_ _) | (with_reducible refine Kd.C_drewN ?_ _) | (with_reducible refine Kd.C_drew ?_))); (case side4 => exact HC218_10.out); rintro e w44 ⟨rfl, hb⟩; refine ⟨_, rfl, ?_⟩; have n0_ := Aside0.mk (blk_below (g := gb211) (o := .cells #[.int .i64 a0_0, .string a0_1, .int .i64 a0_2, .int .i64 a0_3, .int .i64 a0_4, .int .i64 a0_5, .int .i64 a0_6, .int .i64 a0_7, .slice (some ad218) l0_8.length c0_8, .int .i64 a0_9, .slice A0_10 l0_10.length c0_10] 28 (0, 0)) (by (with_reducible repeat (first | refine blk_drewN ?_ _ | refine blk_drew ?_ | refine blk_alloc ?_ _)); exact BK211.out) hb); have n1_ := Aside0.mk (below_step (by repeat (first | (with_reducible first | exact HB.out | apply below_alloc | apply pw_below_drewN | apply below_drew1 | refine below_set ?_ GE211.out) | exact HB.out)) hb); clear BK211; clear HB; have BK211 := n0_; have HB := n1_; clear n0_ n1_; (try clear hb); (try clear hb2); (try clear hk); (try clear hi)))
                      go_roundg k3
                      case measure => have := HK1.out; have := HJ12.out; have := HK3.out; omega
                      case rel => exact ⟨(wrap64 (x5_3 + 1)), (by first | rfl | (simp; done) | (simp [*]; done)), H', ⟨by have := HK1.out; have := HJ12.out; have := HK3.out; omega⟩, ⟨by (with_reducible repeat (first | refine blk_drewN ?_ _ | refine blk_drew ?_ | refine blk_alloc ?_ _)); exact BK211.out⟩, ⟨by repeat (first | (with_reducible first | exact HB.out | apply below_alloc | apply pw_below_drewN | apply below_drew1 | refine below_set ?_ GE211.out) | exact HB.out)⟩⟩
                    · replace c42 := Bool.eq_false_iff.mpr c42
                      subst c42
                      have H1 : (some false) = some r := by rw [if_neg (show ¬ (false = true) by decide)] at H; exact H
                      clear H
                      have H := H1
                      clear H1
                      obtain rfl := Option.some.inj H
                      have hcz45_0 : wr.cell? ⟨gb211, 0, none⟩ = some (.int .i64 a0_0) := (blk_cell BK211.out 0).trans rfl
                      have hcz45_1 : wr.cell? ⟨gb211, 1, none⟩ = some (.string a0_1) := (blk_cell BK211.out 1).trans rfl
                      have hcz45_2 : wr.cell? ⟨gb211, 2, none⟩ = some (.int .i64 a0_2) := (blk_cell BK211.out 2).trans rfl
                      have hcz45_3 : wr.cell? ⟨gb211, 3, none⟩ = some (.int .i64 a0_3) := (blk_cell BK211.out 3).trans rfl
                      have hcz45_4 : wr.cell? ⟨gb211, 4, none⟩ = some (.int .i64 a0_4) := (blk_cell BK211.out 4).trans rfl
                      have hcz45_5 : wr.cell? ⟨gb211, 5, none⟩ = some (.int .i64 a0_5) := (blk_cell BK211.out 5).trans rfl
                      have hcz45_6 : wr.cell? ⟨gb211, 6, none⟩ = some (.int .i64 a0_6) := (blk_cell BK211.out 6).trans rfl
                      have hcz45_7 : wr.cell? ⟨gb211, 7, none⟩ = some (.int .i64 a0_7) := (blk_cell BK211.out 7).trans rfl
                      have hcz45_8 : wr.cell? ⟨gb211, 8, none⟩ = some (.slice A0_8 l0_8.length c0_8) := (blk_cell BK211.out 8).trans rfl
                      have hcz45_9 : wr.cell? ⟨gb211, 9, none⟩ = some (.int .i64 a0_9) := (blk_cell BK211.out 9).trans rfl
                      have hcz45_10 : wr.cell? ⟨gb211, 10, none⟩ = some (.slice A0_10 l0_10.length c0_10) := (blk_cell BK211.out 10).trans rfl
                      have hfz45_0 := blk_frozen BK211.out 0
                      have hfz45_1 := blk_frozen BK211.out 1
                      have hfz45_2 := blk_frozen BK211.out 2
                      have hfz45_3 := blk_frozen BK211.out 3
                      have hfz45_4 := blk_frozen BK211.out 4
                      have hfz45_5 := blk_frozen BK211.out 5
                      have hfz45_6 := blk_frozen BK211.out 6
                      have hfz45_7 := blk_frozen BK211.out 7
                      have hfz45_8 := blk_frozen BK211.out 8
                      have hfz45_9 := blk_frozen BK211.out 9
                      have hfz45_10 := blk_frozen BK211.out 10
                      have p218 : 0 ≤ (x5_3 : Int) := of_decide_eq_true (by first | (with_reducible assumption) | assumption)
                      have q218 : x5_3 < (l0_8.length : Int) := of_decide_eq_true (by first | (with_reducible assumption) | assumption)
                      obtain ⟨ad218, A218_8, c218_8, A218_10, c218_10, e218, hx218_0, hx218_1, hx218_2, hx218_3, hx218_4, hx218_5, hx218_6, hx218_7, hx218_8, hx218_9, hx218_10, hl218_8, hi218_8, hl218_10, hi218_10⟩ := at_T28 HR0_8.out x5_3 p218 q218
                      cases e218
                      replace hx218_0 := (HB.out.cell (World.block_lt_of_cell? w _ hx218_0)).trans hx218_0
                      replace hx218_1 := (HB.out.cell (World.block_lt_of_cell? w _ hx218_1)).trans hx218_1
                      replace hx218_2 := (HB.out.cell (World.block_lt_of_cell? w _ hx218_2)).trans hx218_2
                      replace hx218_3 := (HB.out.cell (World.block_lt_of_cell? w _ hx218_3)).trans hx218_3
                      replace hx218_4 := (HB.out.cell (World.block_lt_of_cell? w _ hx218_4)).trans hx218_4
                      replace hx218_5 := (HB.out.cell (World.block_lt_of_cell? w _ hx218_5)).trans hx218_5
                      replace hx218_6 := (HB.out.cell (World.block_lt_of_cell? w _ hx218_6)).trans hx218_6
                      replace hx218_7 := (HB.out.cell (World.block_lt_of_cell? w _ hx218_7)).trans hx218_7
                      replace hx218_8 := (HB.out.cell (World.block_lt_of_cell? w _ hx218_8)).trans hx218_8
                      replace hx218_9 := (HB.out.cell (World.block_lt_of_cell? w _ hx218_9)).trans hx218_9
                      replace hx218_10 := (HB.out.cell (World.block_lt_of_cell? w _ hx218_10)).trans hx218_10
                      have HR218_8 := Aside0.mk hi218_8
                      have HC218_8 := Aside0.mk hl218_8
                      clear hi218_8 hl218_8
                      have HR218_10 := Aside0.mk hi218_10
                      have HC218_10 := Aside0.mk hl218_10
                      clear hi218_10 hl218_10
                      replace p218 := eq_true p218
                      replace q218 := eq_true q218
                      go_wp2_with (first | ((with_reducible refine gate_callee (f := 46) rfl ?_); refine goesL_ (some 93) rfl rfl Try.func46 (by kernel_rfl) rfl #[.agg #[.int .i64 ((rd_T28 l0_8 x5_3).f0), .string ((rd_T28 l0_8 x5_3).f1), .int .i64 ((rd_T28 l0_8 x5_3).f2), .int .i64 ((rd_T28 l0_8 x5_3).f3), .int .i64 ((rd_T28 l0_8 x5_3).f4), .int .i64 ((rd_T28 l0_8 x5_3).f5), .int .i64 ((rd_T28 l0_8 x5_3).f6), .int .i64 ((rd_T28 l0_8 x5_3).f7), .slice A218_8 ((rd_T28 l0_8 x5_3).f8).length c218_8, .int .i64 ((rd_T28 l0_8 x5_3).f9), .slice A218_10 ((rd_T28 l0_8 x5_3).f10).length c218_10]] rfl (by (try simp only [List.map_toArray, List.map_cons, List.map_nil]); first | done | rfl | (simp only [List.length_drop, List.length_take]; rfl)) ?_; (with_reducible refine (ih k3 (by have := HK1.out; have := HJ12.out; have := HK3.out; omega) ((rd_T28 l0_8 x5_3).f0) ((rd_T28 l0_8 x5_3).f1) ((rd_T28 l0_8 x5_3).f2) ((rd_T28 l0_8 x5_3).f3) ((rd_T28 l0_8 x5_3).f4) ((rd_T28 l0_8 x5_3).f5) ((rd_T28 l0_8 x5_3).f6) ((rd_T28 l0_8 x5_3).f7) _ _ ((rd_T28 l0_8 x5_3).f8) ((rd_T28 l0_8 x5_3).f9) _ _ ((rd_T28 l0_8 x5_3).f10) false _ ?side1 ?side2 ?side3 ?side4 A41.out).mono ?_); (case side1 => repeat (first | exact (Kd.C_below HR218_8.out HB.out) | (with_reducible refine Kd.C_alloc ?_ _) | (with_reducible refine Kd.C_drewN ?_ _) | (with_reducible refine Kd.C_drew ?_))); (case side2 => exact HC218_8.out); (case side3 => repeat (first | exact (Kd.C_below HR218_10.out HB.out) | (with_reducible refine Kd.C_alloc ?_ _) | (with_reducible refine Kd.C_drewN ?_ _) | (with_reducible refine Kd.C_drew ?_))); (case side4 => exact HC218_10.out); rintro e w46 ⟨rfl, hb⟩; refine ⟨_, rfl, ?_⟩; have n0_ := Aside0.mk (blk_below (g := gb211) (o := .cells #[.int .i64 a0_0, .string a0_1, .int .i64 a0_2, .int .i64 a0_3, .int .i64 a0_4, .int .i64 a0_5, .int .i64 a0_6, .int .i64 a0_7, .slice (some ad218) l0_8.length c0_8, .int .i64 a0_9, .slice A0_10 l0_10.length c0_10] 28 (0, 0)) (by (with_reducible repeat (first | refine blk_drewN ?_ _ | refine blk_drew ?_ | refine blk_alloc ?_ _)); exact BK211.out) hb); have n1_ := Aside0.mk (below_step (by repeat (first | (with_reducible first | exact HB.out | apply below_alloc | apply pw_below_drewN | apply below_drew1 | refine below_set ?_ GE211.out) | exact HB.out)) hb); clear BK211; clear HB; have BK211 := n0_; have HB := n1_; clear n0_ n1_; (try clear hb); (try clear hb2); (try clear hk); (try clear hi)))
                      go_ret
                      exact ⟨by first | rfl | (simp [errW_none, errW_some] <;> rfl) | (simp [*, errW_none, errW_some] <;> rfl), by repeat (first | (with_reducible first | exact HB.out | apply below_alloc | apply pw_below_drewN | apply below_drew1 | refine below_set ?_ GE211.out) | exact HB.out)⟩
                  · rw [if_neg c40] at H
                    exact absurd H (by simp)
                · rw [if_neg c39] at H
                  have c39b0 : decide (x5_3 < (l0_8.length : Int)) = false := decide_eq_false c39
                  clear c39
                  replace H := Option.bind_eq_some_iff.mp H
                  obtain ⟨t220, A470, H⟩ := H
                  replace H : (some t220) = some r := H
                  have A47 := Aside0.mk A470
                  clear A470
                  obtain rfl := Option.some.inj H
                  have hcz48_0 : wr.cell? ⟨gb211, 0, none⟩ = some (.int .i64 a0_0) := (blk_cell BK211.out 0).trans rfl
                  have hcz48_1 : wr.cell? ⟨gb211, 1, none⟩ = some (.string a0_1) := (blk_cell BK211.out 1).trans rfl
                  have hcz48_2 : wr.cell? ⟨gb211, 2, none⟩ = some (.int .i64 a0_2) := (blk_cell BK211.out 2).trans rfl
                  have hcz48_3 : wr.cell? ⟨gb211, 3, none⟩ = some (.int .i64 a0_3) := (blk_cell BK211.out 3).trans rfl
                  have hcz48_4 : wr.cell? ⟨gb211, 4, none⟩ = some (.int .i64 a0_4) := (blk_cell BK211.out 4).trans rfl
                  have hcz48_5 : wr.cell? ⟨gb211, 5, none⟩ = some (.int .i64 a0_5) := (blk_cell BK211.out 5).trans rfl
                  have hcz48_6 : wr.cell? ⟨gb211, 6, none⟩ = some (.int .i64 a0_6) := (blk_cell BK211.out 6).trans rfl
                  have hcz48_7 : wr.cell? ⟨gb211, 7, none⟩ = some (.int .i64 a0_7) := (blk_cell BK211.out 7).trans rfl
                  have hcz48_8 : wr.cell? ⟨gb211, 8, none⟩ = some (.slice A0_8 l0_8.length c0_8) := (blk_cell BK211.out 8).trans rfl
                  have hcz48_9 : wr.cell? ⟨gb211, 9, none⟩ = some (.int .i64 a0_9) := (blk_cell BK211.out 9).trans rfl
                  have hcz48_10 : wr.cell? ⟨gb211, 10, none⟩ = some (.slice A0_10 l0_10.length c0_10) := (blk_cell BK211.out 10).trans rfl
                  have hfz48_0 := blk_frozen BK211.out 0
                  have hfz48_1 := blk_frozen BK211.out 1
                  have hfz48_2 := blk_frozen BK211.out 2
                  have hfz48_3 := blk_frozen BK211.out 3
                  have hfz48_4 := blk_frozen BK211.out 4
                  have hfz48_5 := blk_frozen BK211.out 5
                  have hfz48_6 := blk_frozen BK211.out 6
                  have hfz48_7 := blk_frozen BK211.out 7
                  have hfz48_8 := blk_frozen BK211.out 8
                  have hfz48_9 := blk_frozen BK211.out 9
                  have hfz48_10 := blk_frozen BK211.out 10
                  go_wp2_with (first | ((with_reducible refine gate_callee (f := 67) rfl ?_); refine goesL_ (some 96) rfl rfl Try.func67 (by kernel_rfl) rfl #[.agg #[.int .i64 a0_0, .string a0_1, .int .i64 a0_2, .int .i64 a0_3, .int .i64 a0_4, .int .i64 a0_5, .int .i64 a0_6, .int .i64 a0_7, .slice A0_8 l0_8.length c0_8, .int .i64 a0_9, .slice A0_10 l0_10.length c0_10]] rfl (by (try simp only [List.map_toArray, List.map_cons, List.map_nil]); first | done | rfl | (simp only [List.length_drop, List.length_take]; rfl)) ?_; (with_reducible refine (vinculumref28_source.calls k3 a0_0 a0_1 a0_2 a0_3 a0_4 a0_5 a0_6 a0_7 _ _ l0_8 a0_9 _ _ l0_10 t220 _ ?side1 ?side2 ?side3 ?side4 A47.out).mono ?_); (case side1 => repeat (first | exact (Kd.C_below HR0_8.out HB.out) | (with_reducible refine Kd.C_alloc ?_ _) | (with_reducible refine Kd.C_drewN ?_ _) | (with_reducible refine Kd.C_drew ?_))); (case side2 => exact HC0_8.out); (case side3 => repeat (first | exact (Kd.C_below HR0_10.out HB.out) | (with_reducible refine Kd.C_alloc ?_ _) | (with_reducible refine Kd.C_drewN ?_ _) | (with_reducible refine Kd.C_drew ?_))); (case side4 => exact HC0_10.out); rintro e w49 ⟨rfl, hb⟩; refine ⟨_, rfl, ?_⟩; have n0_ := Aside0.mk (blk_below (g := gb211) (o := .cells #[.int .i64 a0_0, .string a0_1, .int .i64 a0_2, .int .i64 a0_3, .int .i64 a0_4, .int .i64 a0_5, .int .i64 a0_6, .int .i64 a0_7, .slice A0_8 l0_8.length c0_8, .int .i64 a0_9, .slice A0_10 l0_10.length c0_10] 28 (0, 0)) (by (with_reducible repeat (first | refine blk_drewN ?_ _ | refine blk_drew ?_ | refine blk_alloc ?_ _)); exact BK211.out) hb); have n1_ := Aside0.mk (below_step (by repeat (first | (with_reducible first | exact HB.out | apply below_alloc | apply pw_below_drewN | apply below_drew1 | refine below_set ?_ GE211.out) | exact HB.out)) hb); clear BK211; clear HB; have BK211 := n0_; have HB := n1_; clear n0_ n1_; (try clear hb); (try clear hb2); (try clear hk); (try clear hi)))
                  go_ret
                  exact ⟨by first | rfl | (simp [errW_none, errW_some] <;> rfl) | (simp [*, errW_none, errW_some] <;> rfl), by repeat (first | (with_reducible first | exact HB.out | apply below_alloc | apply pw_below_drewN | apply below_drew1 | refine below_set ?_ GE211.out) | exact HB.out)⟩

end Go.Proofs.Ytnnhhkjcjkinpaa.P
