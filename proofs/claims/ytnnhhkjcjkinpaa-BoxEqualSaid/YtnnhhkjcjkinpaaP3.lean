/- Written by wip/tool/hprint.py (the kit's print.py with hand-proved contracts set in): contracts of the functions that the statements of this seat reach, without conditions beyond those named in each theorem. -/
import Derived.Test.YtnnhhkjcjkinpaaP0
import Derived.Test.YtnnhhkjcjkinpaaP1
import Derived.Lib.Hide
import Derived.Lib.ConvBytes
namespace Go.Proofs.Ytnnhhkjcjkinpaa.P
open Go.RowKit Go.Proofs.YtnnhhkjcjkinpaaW.PrintWords Go.Proofs.YtnnhhkjcjkinpaaW.PrintLast Go.Proofs.YtnnhhkjcjkinpaaW.PrintMore
attribute [local go_sem] max2_int min2_int max_two min_two max_three min_three max_four min_four   -- for this text's walks alone
set_option linter.unusedVariables false
set_option linter.unusedSimpArgs false

-- IMPORTS: Derived.Lib.Hide Derived.Lib.ConvBytes

/-- A box lies at an address. -/
def BoxAt (w : World) (p : Addr) (x : S28) (A8 : Option Addr) (c8 : Nat) (A10 : Option Addr) (c10 : Nat) : Prop :=
  w.cell? p = some (.int .i64 x.f0) ∧ w.cell? ⟨p.block, p.off + 1, none⟩ = some (.string x.f1) ∧ w.cell? ⟨p.block, p.off + 2, none⟩ = some (.int .i64 x.f2) ∧ w.cell? ⟨p.block, p.off + 3, none⟩ = some (.int .i64 x.f3) ∧ w.cell? ⟨p.block, p.off + 4, none⟩ = some (.int .i64 x.f4) ∧ w.cell? ⟨p.block, p.off + 5, none⟩ = some (.int .i64 x.f5) ∧
  w.cell? ⟨p.block, p.off + 6, none⟩ = some (.int .i64 x.f6) ∧ w.cell? ⟨p.block, p.off + 7, none⟩ = some (.int .i64 x.f7) ∧ w.cell? ⟨p.block, p.off + 8, none⟩ = some (.slice A8 x.f8.length c8) ∧ w.cell? ⟨p.block, p.off + 9, none⟩ = some (.int .i64 x.f9) ∧ w.cell? ⟨p.block, p.off + 10, none⟩ = some (.slice A10 x.f10.length c10) ∧
  x.f8.length ≤ c8 ∧ k28.C w A8 x.f8.length x.f8 ∧ x.f10.length ≤ c10 ∧ (Kd.int .i64).C w A10 x.f10.length x.f10
def BoxHere (w : World) (p : Addr) (x : S28) : Prop := ∃ A8 c8 A10 c10, BoxAt w p x A8 c8 A10 c10
theorem BoxAt.below {w w1 : World} {p : Addr} {x : S28} {A8 : Option Addr} {c8 : Nat} {A10 : Option Addr} {c10 : Nat} (h : BoxAt w p x A8 c8 A10 c10) (hb : Below w.heap.size w w1) : BoxAt w1 p x A8 c8 A10 c10 := by
  obtain ⟨h0, h1, h2, h3, h4, h5, h6, h7, h8, h9, h10, l8, C8, l10, C10⟩ := h
  exact ⟨pw_cell_below hb h0, pw_cell_below hb h1, pw_cell_below hb h2, pw_cell_below hb h3, pw_cell_below hb h4, pw_cell_below hb h5, pw_cell_below hb h6, pw_cell_below hb h7, pw_cell_below hb h8, pw_cell_below hb h9, pw_cell_below hb h10, l8, Kd.C_below C8 hb, l10, Kd.C_below C10 hb⟩
theorem BoxHere.below {w w1 : World} {p : Addr} {x : S28} (h : BoxHere w p x) (hb : Below w.heap.size w w1) : BoxHere w1 p x := by
  obtain ⟨A8, c8, A10, c10, h⟩ := h
  exact ⟨A8, c8, A10, c10, h.below hb⟩
theorem rdT28_nat (l : List S28) (k : Nat) (h : k < l.length) : rd_T28 l (k : Int) = l[k] := by
  unfold rd_T28
  rw [Int.toNat_natCast, List.getD_eq_getElem?_getD, List.getElem?_eq_getElem h]
  rfl
theorem kid_at {w : World} {A : Option Addr} {l : List S28} (h : k28.C w A l.length l) (k : Nat) (hk : k < l.length) : ∃ ad, A = some ad ∧ BoxHere w (ad.add (k * 11)) l[k] := by
  obtain ⟨ad, A8, c8, A10, c10, e, h0, h1, h2, h3, h4, h5, h6, h7, h8, h9, h10, l8, C8, l10, C10⟩ := at_T28 h (k : Int) (by omega) (by omega)
  simp only [Int.toNat_natCast, rdT28_nat l k hk] at h0 h1 h2 h3 h4 h5 h6 h7 h8 h9 h10 l8 C8 l10 C10
  exact ⟨ad, e, A8, c8, A10, c10, h0, h1, h2, h3, h4, h5, h6, h7, h8, h9, h10, l8, C8, l10, C10⟩
/-! ### source -/
def neg_b (x : Int) : Bool := decide (x < 0)
theorem source_cl (x : Int) (w : World) :
    Calls Try.prog 80 #[.int .i64 x] w fun e w' => e = .returned (.bool (neg_b x)) ∧ Below w.heap.size w w' := by
  go_enter Try.func80, Try.ntmps80
  go_wp2
  go_ret
  exact ⟨rfl, Below.refl _ _⟩

set_option maxHeartbeats 800000 in
theorem source_index (A0 : Option Addr) (c0 : Nat) (l0 : List Int) (w : World) (hr0 : (Kd.int .i64).C w A0 l0.length l0) :
    Calls Try.prog 75 #[.slice A0 l0.length c0, .func (.func 80) #[] #[]] w fun e w' => e = .returned (.int .i64 (findFrom neg_b l0 0)) ∧ Below w.heap.size w w' := by
  have HR0 := Aside0.mk hr0
  have hm : l0.length ≤ 9223372036854775807 := hr0.2.1
  clear hr0
  go_enter Try.func75, Try.ntmps75
  go_wp2
  go_loopw [5, 8] (fun _ i w' => ∃ k : Nat, k ≤ l0.length ∧ i = .int .i64 k ∧ Aside0 (findFrom neg_b l0 0 = findFrom neg_b (l0.drop k) k) ∧ Aside0 (Below w.heap.size w w')) (fun _ i _ => l0.length - (intOf i).toNat)
  case atStart => exact ⟨0, Nat.zero_le _, rfl, ⟨rfl⟩, ⟨Below.refl _ _⟩⟩
  case round =>
    obtain ⟨k, hk, rfl, hF, HB⟩ := hrel
    by_cases hlt : k < l0.length
    · obtain ⟨ad, e, q0⟩ := Kd.at_int HR0.out (k : Int) (by omega) (by omega)
      cases e
      replace q0 := pw_cell_below HB.out q0
      rw [Int.toNat_natCast, rd_nat l0 k hlt] at q0
      go_wp2_with (go_at_call 80; refine (source_cl l0[k] _).mono ?_; rintro e w1 ⟨rfl, hb1⟩)
      · go_ret
        refine ⟨?_, below_then HB.out HB.out.size hb1⟩
        rw [hF.out, findFrom_step _ _ _ hlt, if_pos (by assumption)]
        rfl
      · refine ⟨⟨k + 1, by omega, by go_num, ⟨?_⟩, ⟨below_then HB.out HB.out.size hb1⟩⟩, by simp [intOf]; omega⟩
        rw [hF.out, findFrom_step _ _ _ hlt, if_neg (by rw [Bool.not_eq_true]; assumption)]
    · go_wp2
      go_ret
      exact ⟨by rw [hF.out, findFrom_end _ _ _ (by omega)]; rfl, HB.out⟩

theorem source_contains (A0 : Option Addr) (c0 : Nat) (l0 : List Int) (w : World) (hr0 : (Kd.int .i64).C w A0 l0.length l0) :
    Calls Try.prog 55 #[.slice A0 l0.length c0, .func (.func 80) #[] #[]] w fun e w' => e = .returned (.bool (decide (0 ≤ findFrom neg_b l0 0))) ∧ Below w.heap.size w w' := by
  have HR := Aside0.mk hr0
  clear hr0
  go_enter Try.func55, Try.ntmps55
  go_wp2_with (go_at_call 75; refine (source_index A0 c0 l0 _ HR.out).mono ?_; rintro e w1 ⟨rfl, hb1⟩)
  go_ret
  exact ⟨rfl, hb1⟩

def srcB (x : S28) : Bool := !(decide (0 ≤ findFrom neg_b x.f10 0)) && (if x.f9 = 0 then decide (x.f10.length = 0) else if x.f9 = 1 then decide (x.f10.length % 2 = 0) && decide (x.f10.length ≤ 48) else if x.f9 = 2 then decide (x.f10.length % 2 = 1) && decide (x.f10.length ≤ 49) else false)
theorem rem_two (n : Nat) (h : n ≤ 9223372036854775807) : wrap64 (Int.tmod (n : Int) 2) = ((n % 2 : Nat) : Int) := by
  rw [Int.tmod_eq_emod_of_nonneg (by omega)]
  unfold wrap64
  omega
set_option maxRecDepth 100000 in
theorem source_any (p : Addr) (x : S28) (A8 : Option Addr) (c8 : Nat) (A10 : Option Addr) (c10 : Nat) (w : World) (hx : BoxAt w p x A8 c8 A10 c10) :
    Calls Try.prog 72 #[.pointer (some p)] w fun e w' => e = .returned (.bool (srcB x)) ∧ Below w.heap.size w w' := by
  have hu := Try.underlying28
  have HX := Lib.hid hx
  obtain ⟨h0, h1, h2, h3, h4, h5, h6, h7, h8, h9, h10, l8, C8, l10, C10⟩ := hx
  have hm : x.f10.length ≤ 9223372036854775807 := C10.2.1
  have HC := Lib.hid (source_contains A10 c10 x.f10 w C10)
  clear C8 C10 h0 h1 h2 h3 h4 h5 h6 h7 h8
  have HP : Hid (srcB x = (!(decide (0 ≤ findFrom neg_b x.f10 0)) && (if x.f9 = 0 then decide (x.f10.length = 0) else if x.f9 = 1 then decide (x.f10.length % 2 = 0) && decide (x.f10.length ≤ 48) else if x.f9 = 2 then decide (x.f10.length % 2 = 1) && decide (x.f10.length ≤ 49) else false))) := Lib.hid rfl
  generalize decide (0 ≤ findFrom neg_b x.f10 0) = b at HC HP
  cases b with
  | true =>
    go_enter Try.func72, Try.ntmps72
    go_wp2_with (go_at_call 55; refine HC.out.mono ?_; rintro e w1 ⟨rfl, hb1⟩)
    go_ret
    exact ⟨ret_bool (by rw [HP.out]; rfl), hb1⟩
  | false =>
    have h9' : ∀ w1, Below w.heap.size w w1 → w1.cell? ⟨p.block, p.off + 9, none⟩ = some (.int .i64 x.f9) := fun w1 hb => pw_cell_below hb h9
    have H9 := Lib.hid h9'
    clear h9'
    have hr := rem_two x.f10.length hm
    by_cases e0 : x.f9 = 0
    · go_enter Try.func72, Try.ntmps72
      go_wp2_with (go_at_call 55; refine HC.out.mono ?_; rintro e w1 ⟨rfl, hb1⟩; have q9 := H9.out w1 hb1)
      go_ret
      exact ⟨ret_bool (by rw [HP.out, if_pos e0]; rw [Bool.eq_iff_iff]; simp <;> omega), hb1⟩
    · have e0' : (x.f9 == 0) = false := by simpa using e0
      by_cases e1 : x.f9 = 1
      · by_cases hp : x.f10.length % 2 = 0
        · have hr2 : wrap64 (Int.tmod (x.f10.length : Int) 2) = 0 := by rw [hr, hp]; rfl
          go_enter Try.func72, Try.ntmps72
          go_wp2_with (go_at_call 55; refine HC.out.mono ?_; rintro e w1 ⟨rfl, hb1⟩; have q9 := H9.out w1 hb1)
          go_ret
          exact ⟨ret_bool (by rw [HP.out, if_neg e0, if_pos e1]; rw [Bool.eq_iff_iff]; simp [hp] <;> omega), hb1⟩
        · have hr2 : wrap64 (Int.tmod (x.f10.length : Int) 2) = 1 := by rw [hr]; omega
          go_enter Try.func72, Try.ntmps72
          go_wp2_with (go_at_call 55; refine HC.out.mono ?_; rintro e w1 ⟨rfl, hb1⟩; have q9 := H9.out w1 hb1)
          go_ret
          exact ⟨ret_bool (by rw [HP.out, if_neg e0, if_pos e1]; simp [hp]), hb1⟩
      · have e1' : (x.f9 == 1) = false := by simpa using e1
        by_cases e2 : x.f9 = 2
        · by_cases hp : x.f10.length % 2 = 1
          · have hr2 : wrap64 (Int.tmod (x.f10.length : Int) 2) = 1 := by rw [hr, hp]; rfl
            go_enter Try.func72, Try.ntmps72
            go_wp2_with (go_at_call 55; refine HC.out.mono ?_; rintro e w1 ⟨rfl, hb1⟩; have q9 := H9.out w1 hb1)
            go_ret
            exact ⟨ret_bool (by rw [HP.out, if_neg e0, if_neg e1, if_pos e2]; rw [Bool.eq_iff_iff]; simp [hp] <;> omega), hb1⟩
          · have hr2 : wrap64 (Int.tmod (x.f10.length : Int) 2) = 0 := by rw [hr]; omega
            go_enter Try.func72, Try.ntmps72
            go_wp2_with (go_at_call 55; refine HC.out.mono ?_; rintro e w1 ⟨rfl, hb1⟩; have q9 := H9.out w1 hb1)
            go_ret
            exact ⟨ret_bool (by rw [HP.out, if_neg e0, if_neg e1, if_pos e2]; simp [hp]), hb1⟩
        · have e2' : (x.f9 == 2) = false := by simpa using e2
          go_enter Try.func72, Try.ntmps72
          go_wp2_with (go_at_call 55; refine HC.out.mono ?_; rintro e w1 ⟨rfl, hb1⟩; have q9 := H9.out w1 hb1)
          go_ret
          exact ⟨ret_bool (by rw [HP.out, if_neg e0, if_neg e1, if_neg e2]; simp), hb1⟩
/-! ### proper -/
def bad_ch (x : Int) : Bool := decide (x < 32) || decide (126 < x)
theorem chars_cl (x : Int) (w : World) :
    Calls Try.prog 71 #[.int .u8 x] w fun e w' => e = .returned (.bool (bad_ch x)) ∧ Below w.heap.size w w' := by
  by_cases h : x < 32
  · go_enter Try.func71, Try.ntmps71
    go_wp2
    go_ret
    exact ⟨ret_bool (by simp [bad_ch, h]), Below.refl _ _⟩
  · have h' : decide (x < 32) = false := by simpa using h
    go_enter Try.func71, Try.ntmps71
    go_wp2
    go_ret
    exact ⟨ret_bool (by simp [bad_ch, h']), Below.refl _ _⟩

set_option maxHeartbeats 800000 in
theorem chars_index (A0 : Option Addr) (c0 : Nat) (l0 : List Int) (w : World) (hr0 : ReadsInt w .u8 A0 l0.length l0) :
    Calls Try.prog 79 #[.slice A0 l0.length c0, .func (.func 71) #[] #[]] w fun e w' => e = .returned (.int .i64 (findFrom bad_ch l0 0)) ∧ Below w.heap.size w w' := by
  have HR0 := Aside0.mk hr0
  have hm : l0.length ≤ 9223372036854775807 := hr0.2.1
  clear hr0
  go_enter Try.func79, Try.ntmps79
  go_wp2
  go_loopw [5, 8] (fun _ i w' => ∃ k : Nat, k ≤ l0.length ∧ i = .int .i64 k ∧ Aside0 (findFrom bad_ch l0 0 = findFrom bad_ch (l0.drop k) k) ∧ Aside0 (Below w.heap.size w w')) (fun _ i _ => l0.length - (intOf i).toNat)
  case atStart => exact ⟨0, Nat.zero_le _, rfl, ⟨rfl⟩, ⟨Below.refl _ _⟩⟩
  case round =>
    obtain ⟨k, hk, rfl, hF, HB⟩ := hrel
    by_cases hlt : k < l0.length
    · obtain ⟨ad, e, q0⟩ := HR0.out.at_ (k : Int) (by omega) (by omega)
      cases e
      replace q0 := pw_cell_below HB.out q0
      rw [Int.toNat_natCast, rd_nat l0 k hlt] at q0
      go_wp2_with (go_at_call 71; refine (chars_cl l0[k] _).mono ?_; rintro e w1 ⟨rfl, hb1⟩)
      · go_ret
        refine ⟨?_, below_then HB.out HB.out.size hb1⟩
        rw [hF.out, findFrom_step _ _ _ hlt, if_pos (by assumption)]
        rfl
      · refine ⟨⟨k + 1, by omega, by go_num, ⟨?_⟩, ⟨below_then HB.out HB.out.size hb1⟩⟩, by simp [intOf]; omega⟩
        rw [hF.out, findFrom_step _ _ _ hlt, if_neg (by rw [Bool.not_eq_true]; assumption)]
    · go_wp2
      go_ret
      exact ⟨by rw [hF.out, findFrom_end _ _ _ (by omega)]; rfl, HB.out⟩

theorem chars_contains (A0 : Option Addr) (c0 : Nat) (l0 : List Int) (w : World) (hr0 : ReadsInt w .u8 A0 l0.length l0) :
    Calls Try.prog 70 #[.slice A0 l0.length c0, .func (.func 71) #[] #[]] w fun e w' => e = .returned (.bool (decide (0 ≤ findFrom bad_ch l0 0))) ∧ Below w.heap.size w w' := by
  have HR := Aside0.mk hr0
  clear hr0
  go_enter Try.func70, Try.ntmps70
  go_wp2_with (go_at_call 79; refine (chars_index A0 c0 l0 _ HR.out).mono ?_; rintro e w1 ⟨rfl, hb1⟩)
  go_ret
  exact ⟨rfl, hb1⟩

theorem chars_contains_str (s : ByteArray) (c0 b : Nat) (w0 : World) (hb : w0.heap.size = b) (hs : s.size ≤ 9223372036854775807) :
    Calls Try.prog 70 #[.slice (some ⟨b, 0, none⟩) s.size c0, .func (.func 71) #[] #[]] (Lib.bytesWorld w0 5 s) fun e w' => e = .returned (.bool (decide (0 ≤ findFrom bad_ch (bytesOf s) 0))) ∧ Below w0.heap.size w0 w' := by
  subst hb
  have h := chars_contains (some ⟨w0.heap.size, 0, none⟩) c0 (bytesOf s) (Lib.bytesWorld w0 5 s) (by rw [bytesOf_length]; exact reads_bytesWorld w0 5 s hs)
  rw [bytesOf_length] at h
  exact h.mono fun e w' ⟨h1, h2⟩ => ⟨h1, below_then (below_bytesWorld w0 5 s) (by rw [Lib.bytesWorld_size]; omega) h2⟩

def okD (n : Int) : Bool := decide (-1073741824 ≤ n) && decide (n ≤ 1073741824)
def dimB (x : S28) : Bool := okD x.f3 && (okD x.f4 && (okD x.f5 && (okD x.f6 && okD x.f7)))
def glyphB (x : S28) : Bool := decide (1 ≤ x.f1.size) && (decide (x.f1.size ≤ 16) && (!(decide (0 ≤ findFrom bad_ch (bytesOf x.f1) 0)) && (decide (1 ≤ x.f2) && (decide (x.f2 ≤ 1000) && decide (x.f8.length = 0)))))
def kindB (x : S28) : Bool := if x.f0 = 1 then glyphB x else if x.f0 = 2 then decide (x.f1.size = 0) && (decide (x.f2 = 0) && decide (x.f8.length = 0)) else if x.f0 = 3 then decide (x.f1.size = 0) && decide (x.f2 = 0) else false
def prpB (x : S28) : Bool := dimB x && (kindB x && srcB x)
/-- How many of the five numbers are in order, from the first on. -/
def dimN (x : S28) : Nat → Int
  | 0 => x.f3
  | 1 => x.f4
  | 2 => x.f5
  | 3 => x.f6
  | _ => x.f7
theorem dimB_iff (x : S28) : dimB x = true ↔ ∀ j, j < 5 → okD (dimN x j) = true := by
  unfold dimB
  simp only [Bool.and_eq_true]
  constructor
  · rintro ⟨h0, h1, h2, h3, h4⟩ j hj
    match j, hj with
    | 0, _ => exact h0
    | 1, _ => exact h1
    | 2, _ => exact h2
    | 3, _ => exact h3
    | 4, _ => exact h4
  · intro h
    exact ⟨h 0 (by omega), h 1 (by omega), h 2 (by omega), h 3 (by omega), h 4 (by omega)⟩
set_option maxRecDepth 100000 in
set_option maxHeartbeats 1600000 in
theorem proper_any (p : Addr) (x : S28) (A8 : Option Addr) (c8 : Nat) (A10 : Option Addr) (c10 : Nat) (w : World) (hx : BoxAt w p x A8 c8 A10 c10) :
    Calls Try.prog 51 #[.pointer (some p)] w fun e w' => e = .returned (.bool (prpB x)) ∧ Below w.heap.size w w' := by
  have hu := Try.underlying28
  have HX := Lib.hid hx
  obtain ⟨h0, h1, h2, h3, h4, h5, h6, h7, h8, h9, h10, l8, C8, l10, C10⟩ := hx
  have hm : x.f8.length ≤ 9223372036854775807 := C8.2.1
  clear h9 h10 l10 C10 C8 l8
  clear h0 h1 h2 h8
  go_enter Try.func51, Try.ntmps51
  go_wp2
  go_quiet (fail)
  have hbq : Below w.heap.size w (w.drewN nq) := pw_below_drewN (Below.refl _ _) nq
  have HX0 := Lib.hid (HX.out.below hbq)
  have HBq := Lib.hid hbq
  clear hbq h3 h4 h5 h6 h7
  generalize w.drewN nq = w0 at HX0 HBq ⊢
  go_wp2
  go_loopw [26] (fun i w' => ∃ k : Nat, k ≤ 5 ∧ i = .int .i64 k ∧ Aside0 (∀ j, j < k → okD (dimN x j) = true) ∧ w' = w0) (fun i _ => 5 - (intOf i).toNat)
  case atStart => exact ⟨0, Nat.zero_le _, rfl, ⟨fun j hj => by omega⟩, rfl⟩
  case round =>
    obtain ⟨k, hk, rfl, hD, rfl⟩ := hrel
    have x0 : ∀ w : World, (Instr.index 23 (.agg #[.int .i64 x.f3, .int .i64 x.f4, .int .i64 x.f5, .int .i64 x.f6, .int .i64 x.f7]) (.int .i64 0)).run Try.prog w = .ok (.int .i64 x.f3) w := fun _ => by kernel_rfl
    have x1 : ∀ w : World, (Instr.index 23 (.agg #[.int .i64 x.f3, .int .i64 x.f4, .int .i64 x.f5, .int .i64 x.f6, .int .i64 x.f7]) (.int .i64 1)).run Try.prog w = .ok (.int .i64 x.f4) w := fun _ => by kernel_rfl
    have x2 : ∀ w : World, (Instr.index 23 (.agg #[.int .i64 x.f3, .int .i64 x.f4, .int .i64 x.f5, .int .i64 x.f6, .int .i64 x.f7]) (.int .i64 2)).run Try.prog w = .ok (.int .i64 x.f5) w := fun _ => by kernel_rfl
    have x3 : ∀ w : World, (Instr.index 23 (.agg #[.int .i64 x.f3, .int .i64 x.f4, .int .i64 x.f5, .int .i64 x.f6, .int .i64 x.f7]) (.int .i64 3)).run Try.prog w = .ok (.int .i64 x.f6) w := fun _ => by kernel_rfl
    have x4 : ∀ w : World, (Instr.index 23 (.agg #[.int .i64 x.f3, .int .i64 x.f4, .int .i64 x.f5, .int .i64 x.f6, .int .i64 x.f7]) (.int .i64 4)).run Try.prog w = .ok (.int .i64 x.f7) w := fun _ => by kernel_rfl
    by_cases hlt : k < 5
    · have HV : Hid (okD (dimN x k) = false → prpB x = false) := Lib.hid (fun h => by
        have : dimB x = false := by
          cases hd : dimB x with
          | false => rfl
          | true => rw [(dimB_iff x).1 hd k hlt] at h; cases h
        unfold prpB
        rw [this]
        rfl)
      have HN : Hid (okD (dimN x k) = true → ∀ j, j < k + 1 → okD (dimN x j) = true) := Lib.hid (fun h j hj => by
        by_cases e : j = k
        · subst e; exact h
        · exact hD.out j (by omega))
      have HS : Hid (okD (dimN x k) = (decide (-1073741824 ≤ dimN x k) && decide (dimN x k ≤ 1073741824))) := Lib.hid rfl
      obtain ⟨v, hv⟩ : ∃ v, dimN x k = v := ⟨_, rfl⟩
      rw [hv] at HV HN HS
      obtain rfl | rfl | rfl | rfl | rfl : k = 0 ∨ k = 1 ∨ k = 2 ∨ k = 3 ∨ k = 4 := by omega
      all_goals (simp only [dimN] at hv; subst hv)
      · by_cases hlo : x.f3 < -1073741824
        · go_wp2_with fail
          go_ret
          exact ⟨ret_bool (HV.out (by rw [HS.out]; simp; omega)).symm, HBq.out⟩
        · have hlo' : decide (x.f3 < -1073741824) = false := by simpa using hlo
          by_cases hhi : 1073741824 < x.f3
          · go_wp2_with fail
            go_ret
            exact ⟨ret_bool (HV.out (by rw [HS.out]; simp; omega)).symm, HBq.out⟩
          · have hhi' : decide (1073741824 < x.f3) = false := by simpa using hhi
            go_wp2_with fail
            exact ⟨⟨1, by omega, by go_num, ⟨HN.out (by rw [HS.out]; simp; omega)⟩, by first | trivial | rfl⟩, by simp [intOf]⟩
      · by_cases hlo : x.f4 < -1073741824
        · go_wp2_with fail
          go_ret
          exact ⟨ret_bool (HV.out (by rw [HS.out]; simp; omega)).symm, HBq.out⟩
        · have hlo' : decide (x.f4 < -1073741824) = false := by simpa using hlo
          by_cases hhi : 1073741824 < x.f4
          · go_wp2_with fail
            go_ret
            exact ⟨ret_bool (HV.out (by rw [HS.out]; simp; omega)).symm, HBq.out⟩
          · have hhi' : decide (1073741824 < x.f4) = false := by simpa using hhi
            go_wp2_with fail
            exact ⟨⟨2, by omega, by go_num, ⟨HN.out (by rw [HS.out]; simp; omega)⟩, by first | trivial | rfl⟩, by simp [intOf]⟩
      · by_cases hlo : x.f5 < -1073741824
        · go_wp2_with fail
          go_ret
          exact ⟨ret_bool (HV.out (by rw [HS.out]; simp; omega)).symm, HBq.out⟩
        · have hlo' : decide (x.f5 < -1073741824) = false := by simpa using hlo
          by_cases hhi : 1073741824 < x.f5
          · go_wp2_with fail
            go_ret
            exact ⟨ret_bool (HV.out (by rw [HS.out]; simp; omega)).symm, HBq.out⟩
          · have hhi' : decide (1073741824 < x.f5) = false := by simpa using hhi
            go_wp2_with fail
            exact ⟨⟨3, by omega, by go_num, ⟨HN.out (by rw [HS.out]; simp; omega)⟩, by first | trivial | rfl⟩, by simp [intOf]⟩
      · by_cases hlo : x.f6 < -1073741824
        · go_wp2_with fail
          go_ret
          exact ⟨ret_bool (HV.out (by rw [HS.out]; simp; omega)).symm, HBq.out⟩
        · have hlo' : decide (x.f6 < -1073741824) = false := by simpa using hlo
          by_cases hhi : 1073741824 < x.f6
          · go_wp2_with fail
            go_ret
            exact ⟨ret_bool (HV.out (by rw [HS.out]; simp; omega)).symm, HBq.out⟩
          · have hhi' : decide (1073741824 < x.f6) = false := by simpa using hhi
            go_wp2_with fail
            exact ⟨⟨4, by omega, by go_num, ⟨HN.out (by rw [HS.out]; simp; omega)⟩, by first | trivial | rfl⟩, by simp [intOf]⟩
      · by_cases hlo : x.f7 < -1073741824
        · go_wp2_with fail
          go_ret
          exact ⟨ret_bool (HV.out (by rw [HS.out]; simp; omega)).symm, HBq.out⟩
        · have hlo' : decide (x.f7 < -1073741824) = false := by simpa using hlo
          by_cases hhi : 1073741824 < x.f7
          · go_wp2_with fail
            go_ret
            exact ⟨ret_bool (HV.out (by rw [HS.out]; simp; omega)).symm, HBq.out⟩
          · have hhi' : decide (1073741824 < x.f7) = false := by simpa using hhi
            go_wp2_with fail
            exact ⟨⟨5, by omega, by go_num, ⟨HN.out (by rw [HS.out]; simp; omega)⟩, by first | trivial | rfl⟩, by simp [intOf]⟩
    · obtain rfl : k = 5 := by omega
      have HD := Lib.hid ((dimB_iff x).2 hD.out)
      have HV : Hid (prpB x = (kindB x && srcB x)) := Lib.hid (by unfold prpB; rw [HD.out]; rfl)
      clear hD HD
      have HX1 := Lib.hid HX0.out
      obtain ⟨h0, h1, h2, -, -, -, -, -, h8, -, -, -, -, -, -⟩ := HX0.out
      have HSRC := Lib.hid (source_any p x A8 c8 A10 c10 wr HX1.out)
      have hcv := fun W => Lib.run_convert_string_bytes (P := Try.prog) W 9 87 5 x.f1 Try.underlying9 Try.underlying87 Try.underlying5
      by_cases e1 : x.f0 = 1
      · have HV1 : Hid (prpB x = (glyphB x && srcB x)) := Lib.hid (by rw [HV.out]; unfold kindB; rw [if_pos e1])
        clear HV
        by_cases n1 : 1 ≤ x.f1.size
        · by_cases n2 : x.f1.size ≤ 16
          · have n1' : decide (x.f1.size < 1) = false := decide_eq_false (by omega)
            have HC := fun c b w0 hb => chars_contains_str x.f1 c b w0 hb (by omega)
            have HG : Hid (glyphB x = (!(decide (0 ≤ findFrom bad_ch (bytesOf x.f1) 0)) && (decide (1 ≤ x.f2) && (decide (x.f2 ≤ 1000) && decide (x.f8.length = 0))))) := Lib.hid (by unfold glyphB; simp [n1, n2])
            generalize decide (0 ≤ findFrom bad_ch (bytesOf x.f1) 0) = b at HC HG
            have HC' := Lib.hid HC
            clear HC
            cases b with
            | true =>
              have HF : Hid (prpB x = false) := Lib.hid (by rw [HV1.out, HG.out]; rfl)
              go_wp2_with fail
              refine (HC'.out _ _ _ (by simp)).mono ?_
              rintro e w1 ⟨rfl, hb1⟩
              go_wp2_with fail
              go_ret
              exact ⟨ret_bool HF.out.symm, below_then HBq.out HBq.out.size hb1⟩
            | false =>
              by_cases m1 : x.f2 < 1
              · have HF : Hid (prpB x = false) := Lib.hid (by rw [HV1.out, HG.out]; simp; omega)
                go_wp2_with fail
                refine (HC'.out _ _ _ (by simp)).mono ?_
                rintro e w1 ⟨rfl, hb1⟩
                obtain ⟨q0, q1, q2, -, -, -, -, -, q8, -, -, -, -, -, -⟩ := HX1.out.below hb1
                go_wp2_with fail
                go_ret
                exact ⟨ret_bool HF.out.symm, below_then HBq.out HBq.out.size hb1⟩
              · have m1' : decide (x.f2 < 1) = false := decide_eq_false m1
                by_cases m2 : 1000 < x.f2
                · have HF : Hid (prpB x = false) := Lib.hid (by rw [HV1.out, HG.out]; simp; omega)
                  go_wp2_with fail
                  refine (HC'.out _ _ _ (by simp)).mono ?_
                  rintro e w1 ⟨rfl, hb1⟩
                  obtain ⟨q0, q1, q2, -, -, -, -, -, q8, -, -, -, -, -, -⟩ := HX1.out.below hb1
                  go_wp2_with fail
                  go_ret
                  exact ⟨ret_bool HF.out.symm, below_then HBq.out HBq.out.size hb1⟩
                · have m2' : decide (1000 < x.f2) = false := decide_eq_false m2
                  by_cases m3 : 0 < x.f8.length
                  · have HF : Hid (prpB x = false) := Lib.hid (by rw [HV1.out, HG.out, decide_eq_false (show ¬ x.f8.length = 0 by omega)]; simp)
                    go_wp2_with fail
                    refine (HC'.out _ _ _ (by simp)).mono ?_
                    rintro e w1 ⟨rfl, hb1⟩
                    obtain ⟨q0, q1, q2, -, -, -, -, -, q8, -, -, -, -, -, -⟩ := HX1.out.below hb1
                    go_wp2_with fail
                    go_ret
                    exact ⟨ret_bool HF.out.symm, below_then HBq.out HBq.out.size hb1⟩
                  · have m3' : x.f8.length = 0 := by omega
                    have m3b : decide (0 < x.f8.length) = false := decide_eq_false m3
                    have HF : Hid (prpB x = srcB x) := Lib.hid (by rw [HV1.out, HG.out, decide_eq_true (show 1 ≤ x.f2 by omega), decide_eq_true (show x.f2 ≤ 1000 by omega), decide_eq_true m3']; simp)
                    have hsrc := fun W hW => source_any p x A8 c8 A10 c10 W hW
                    have HS2 := Lib.hid hsrc
                    clear hsrc
                    go_wp2_with fail
                    refine (HC'.out _ _ _ (by simp)).mono ?_
                    rintro e w1 ⟨rfl, hb1⟩
                    have HX2 := Lib.hid (HX1.out.below hb1)
                    obtain ⟨q0, q1, q2, -, -, -, -, -, q8, -, -, -, -, -, -⟩ := HX1.out.below hb1
                    go_wp2_with (go_at_call 72; refine (HS2.out w1 HX2.out).mono ?_; rintro e w2 ⟨rfl, hb2⟩)
                    go_ret
                    exact ⟨ret_bool HF.out.symm, below_then HBq.out HBq.out.size (hb1.trans (hb2.mono hb1.size))⟩
          · have HF : Hid (prpB x = false) := Lib.hid (by rw [HV1.out]; unfold glyphB; simp [n2])
            go_wp2_with fail
            go_ret
            exact ⟨ret_bool HF.out.symm, HBq.out⟩
        · have HF : Hid (prpB x = false) := Lib.hid (by rw [HV1.out]; unfold glyphB; simp [n1])
          go_wp2_with fail
          go_ret
          exact ⟨ret_bool HF.out.symm, HBq.out⟩
      · have e1' : (x.f0 == 1) = false := by simpa using e1
        by_cases e23 : x.f0 = 2 ∨ x.f0 = 3
        · have HV1 : Hid (prpB x = ((decide (x.f1.size = 0) && (decide (x.f2 = 0) && (!(decide (x.f0 = 2)) || decide (x.f8.length = 0)))) && srcB x)) := Lib.hid (by
            rw [HV.out]; unfold kindB; rw [if_neg e1]
            rcases e23 with h | h
            · rw [if_pos h]; simp [h]
            · rw [if_neg (by omega), if_pos h]; simp [h])
          clear HV
          by_cases n1 : x.f1.size = 0
          · have n1' : x.f1.toList = [] := by rw [ByteArray.toList_eq]; exact Array.toList_eq_nil_iff.2 (Array.eq_empty_of_size_eq_zero n1)
            by_cases m1 : x.f2 = 0
            · by_cases m2 : x.f0 = 2
              · by_cases m3 : 0 < x.f8.length
                · have HF : Hid (prpB x = false) := Lib.hid (by rw [HV1.out, decide_eq_false (show ¬ x.f8.length = 0 by omega), decide_eq_true m2]; simp)
                  go_wp2_with fail
                  go_ret
                  exact ⟨ret_bool HF.out.symm, HBq.out⟩
                · have HF : Hid (prpB x = srcB x) := Lib.hid (by rw [HV1.out, decide_eq_true (show x.f8.length = 0 by omega), decide_eq_true m2, decide_eq_true n1, decide_eq_true m1]; simp)
                  have m3b : decide (0 < x.f8.length) = false := decide_eq_false m3
                  go_wp2_with (go_at_call 72; refine HSRC.out.mono ?_; rintro e w2 ⟨rfl, hb2⟩)
                  go_ret
                  exact ⟨ret_bool HF.out.symm, below_then HBq.out HBq.out.size hb2⟩
              · have m2' : x.f0 = 3 := by omega
                have HF : Hid (prpB x = srcB x) := Lib.hid (by rw [HV1.out]; simp [n1, m1, m2'])
                go_wp2_with (go_at_call 72; refine HSRC.out.mono ?_; rintro e w2 ⟨rfl, hb2⟩)
                go_ret
                exact ⟨ret_bool HF.out.symm, below_then HBq.out HBq.out.size hb2⟩
            · have HF : Hid (prpB x = false) := Lib.hid (by rw [HV1.out]; simp [m1])
              have m1' : (x.f2 != 0) = true := by simpa using m1
              rcases e23 with e2 | e2
              · go_wp2_with fail
                go_ret
                exact ⟨ret_bool HF.out.symm, HBq.out⟩
              · go_wp2_with fail
                go_ret
                exact ⟨ret_bool HF.out.symm, HBq.out⟩
          · have HF : Hid (prpB x = false) := Lib.hid (by rw [HV1.out]; simp [n1])
            have n1' : ¬ x.f1.toList = [] := fun h => n1 (by rw [ByteArray.toList_eq] at h; have := congrArg List.length h; simpa using this)
            have n1b : (x.f1.toList == []) = false := by simpa using n1'
            have n1c : (x.f1.toList != []) = true := by simpa using n1'
            rcases e23 with e2 | e2
            · go_wp2_with fail
              go_ret
              exact ⟨ret_bool HF.out.symm, HBq.out⟩
            · go_wp2_with fail
              go_ret
              exact ⟨ret_bool HF.out.symm, HBq.out⟩
        · have e2' : (x.f0 == 2) = false := by simp; omega
          have e3' : (x.f0 == 3) = false := by simp; omega
          have HF : Hid (prpB x = false) := Lib.hid (by rw [HV.out]; unfold kindB; rw [if_neg e1, if_neg (by omega), if_neg (by omega)]; rfl)
          go_wp2_with fail
          go_ret
          exact ⟨ret_bool HF.out.symm, HBq.out⟩

end Go.Proofs.Ytnnhhkjcjkinpaa.P
