/- Written by wip/tool/hprint.py (the kit's print.py with hand-proved contracts set in): contracts of the functions that the statements of this seat reach, without conditions beyond those named in each theorem. -/
import Derived.Test.YtomogpiahcnmjaaP0
import Derived.Test.YtomogpiahcnmjaaP2
import Derived.Lib.Hide
import Derived.Lib.ConvBytes
namespace Go.Proofs.Ytomogpiahcnmjaa.P
open Go.RowKit Go.Proofs.YtomogpiahcnmjaaW.PrintWords Go.Proofs.YtomogpiahcnmjaaW.PrintLast Go.Proofs.YtomogpiahcnmjaaW.PrintMore
attribute [local go_sem] max2_int min2_int max_two min_two max_three min_three max_four min_four   -- for this text's walks alone
set_option linter.unusedVariables false
set_option linter.unusedSimpArgs false

-- IMPORTS: Derived.Lib.Hide Derived.Lib.ConvBytes

def bad_op (x : Int) : Bool := decide (x < 33) || decide (126 < x)
theorem proper_cl (x : Int) (w : World) :
    Calls Try.prog 26 #[.int .u8 x] w fun e w' => e = .returned (.bool (bad_op x)) ∧ Below w.heap.size w w' := by
  by_cases h : x < 33
  · go_enter Try.func26, Try.ntmps26
    go_wp2
    go_ret
    exact ⟨ret_bool (by simp [bad_op, h]), Below.refl _ _⟩
  · have h' : decide (x < 33) = false := by simpa using h
    go_enter Try.func26, Try.ntmps26
    go_wp2
    go_ret
    exact ⟨ret_bool (by simp [bad_op, h']), Below.refl _ _⟩

set_option maxHeartbeats 800000 in
theorem proper_index (A0 : Option Addr) (c0 : Nat) (l0 : List Int) (w : World) (hr0 : ReadsInt w .u8 A0 l0.length l0) :
    Calls Try.prog 27 #[.slice A0 l0.length c0, .func (.func 26) #[] #[]] w fun e w' => e = .returned (.int .i64 (findFrom bad_op l0 0)) ∧ Below w.heap.size w w' := by
  have HR0 := Aside0.mk hr0
  have hm : l0.length ≤ 9223372036854775807 := hr0.2.1
  clear hr0
  go_enter Try.func27, Try.ntmps27
  go_wp2
  go_loopw [5, 8] (fun _ i w' => ∃ k : Nat, k ≤ l0.length ∧ i = .int .i64 k ∧ Aside0 (findFrom bad_op l0 0 = findFrom bad_op (l0.drop k) k) ∧ Aside0 (Below w.heap.size w w')) (fun _ i _ => l0.length - (intOf i).toNat)
  case atStart => exact ⟨0, Nat.zero_le _, rfl, ⟨rfl⟩, ⟨Below.refl _ _⟩⟩
  case round =>
    obtain ⟨k, hk, rfl, hF, HB⟩ := hrel
    by_cases hlt : k < l0.length
    · obtain ⟨ad, e, q0⟩ := HR0.out.at_ (k : Int) (by omega) (by omega)
      cases e
      replace q0 := pw_cell_below HB.out q0
      rw [Int.toNat_natCast, rd_nat l0 k hlt] at q0
      go_wp2_with (go_at_call 26; refine (proper_cl l0[k] _).mono ?_; rintro e w1 ⟨rfl, hb1⟩)
      · go_ret
        refine ⟨?_, below_then HB.out HB.out.size hb1⟩
        rw [hF.out, findFrom_step _ _ _ hlt, if_pos (by assumption)]
        rfl
      · refine ⟨⟨k + 1, by omega, by go_num, ⟨?_⟩, ⟨below_then HB.out HB.out.size hb1⟩⟩, by simp [intOf]; omega⟩
        rw [hF.out, findFrom_step _ _ _ hlt, if_neg (by rw [Bool.not_eq_true]; assumption)]
    · go_wp2
      go_ret
      exact ⟨by rw [hF.out, findFrom_end _ _ _ (by omega)]; rfl, HB.out⟩

theorem proper_contains (A0 : Option Addr) (c0 : Nat) (l0 : List Int) (w : World) (hr0 : ReadsInt w .u8 A0 l0.length l0) :
    Calls Try.prog 25 #[.slice A0 l0.length c0, .func (.func 26) #[] #[]] w fun e w' => e = .returned (.bool (decide (0 ≤ findFrom bad_op l0 0))) ∧ Below w.heap.size w w' := by
  have HR := Aside0.mk hr0
  clear hr0
  go_enter Try.func25, Try.ntmps25
  go_wp2_with (go_at_call 27; refine (proper_index A0 c0 l0 _ HR.out).mono ?_; rintro e w1 ⟨rfl, hb1⟩)
  go_ret
  exact ⟨rfl, hb1⟩

theorem proper_contains_str (s : ByteArray) (c0 b : Nat) (w0 : World) (hb : w0.heap.size = b) (hs : s.size ≤ 9223372036854775807) :
    Calls Try.prog 25 #[.slice (some ⟨b, 0, none⟩) s.size c0, .func (.func 26) #[] #[]] (Lib.bytesWorld w0 5 s) fun e w' => e = .returned (.bool (decide (0 ≤ findFrom bad_op (bytesOf s) 0))) ∧ Below w0.heap.size w0 w' := by
  subst hb
  have h := proper_contains (some ⟨w0.heap.size, 0, none⟩) c0 (bytesOf s) (Lib.bytesWorld w0 5 s) (by rw [bytesOf_length]; exact reads_bytesWorld w0 5 s hs)
  rw [bytesOf_length] at h
  exact h.mono fun e w' ⟨h1, h2⟩ => ⟨h1, below_then (below_bytesWorld w0 5 s) (by rw [Lib.bytesWorld_size]; omega) h2⟩

/-- What a proper entry is: its text and its class. -/
def properB (t : ByteArray) (c : Int) : Bool := decide (1 ≤ t.size) && decide (t.size ≤ 16) && !(decide (0 ≤ findFrom bad_op (bytesOf t) 0)) && decide (0 ≤ c) && decide (c ≤ 7)
theorem properB_size {t : ByteArray} {c : Int} (h : properB t c = true) : t.size ≤ 16 := by
  simp [properB] at h; omega
theorem proper_any (a0_0 : ByteArray) (a0_1 : Int) (a0_2 a0_3 : Bool) (w : World) :
    Calls Try.prog 20 #[.agg #[.string a0_0, .int .i64 a0_1, .bool a0_2, .bool a0_3]] w fun e w' => e = .returned (.bool (properB a0_0 a0_1)) ∧ Below w.heap.size w w' := by
  have hu := Try.underlying27
  have hcv := fun W => Lib.run_convert_string_bytes (P := Try.prog) W 9 44 5 a0_0 Try.underlying9 Try.underlying44 Try.underlying5
  by_cases h1 : 1 ≤ a0_0.size
  · by_cases h2 : a0_0.size ≤ 16
    · have HC := fun c b w0 hb => proper_contains_str a0_0 c b w0 hb (by omega)
      have HP := Lib.hid (show properB a0_0 a0_1 = (!(decide (0 ≤ findFrom bad_op (bytesOf a0_0) 0)) && decide (0 ≤ a0_1) && decide (a0_1 ≤ 7)) by simp [properB, h1, h2])
      generalize decide (0 ≤ findFrom bad_op (bytesOf a0_0) 0) = b at HC HP
      have HC' := Lib.hid HC
      clear HC
      cases b with
      | true =>
        go_enter Try.func20, Try.ntmps20
        go_wp2_with fail
        refine (HC'.out _ _ _ (by simp)).mono ?_
        rintro e w1 ⟨rfl, hb1⟩
        go_wp2_with fail
        go_ret
        exact ⟨ret_bool (by rw [HP.out]; simp), below_then (below_alloc (Below.refl _ _) _) (by simp) hb1⟩
      | false =>
        by_cases h3 : 0 ≤ a0_1
        · have h3' : decide (0 ≤ a0_1) = true := by simpa using h3
          go_enter Try.func20, Try.ntmps20
          go_wp2_with fail
          refine (HC'.out _ _ _ (by simp)).mono ?_
          rintro e w1 ⟨rfl, hb1⟩
          obtain ⟨hc1, hf1⟩ := bcell hb1
          go_wp2_with fail
          go_ret
          exact ⟨ret_bool (by rw [HP.out]; simp [h3]), below_then (below_alloc (Below.refl _ _) _) (by simp) hb1⟩
        · have h3' : decide (0 ≤ a0_1) = false := by simpa using h3
          go_enter Try.func20, Try.ntmps20
          go_wp2_with fail
          refine (HC'.out _ _ _ (by simp)).mono ?_
          rintro e w1 ⟨rfl, hb1⟩
          obtain ⟨hc1, hf1⟩ := bcell hb1
          go_wp2_with fail
          go_ret
          exact ⟨ret_bool (by rw [HP.out]; simp [h3']), below_then (below_alloc (Below.refl _ _) _) (by simp) hb1⟩
    · go_enter Try.func20, Try.ntmps20
      go_wp2_with fail
      go_ret
      exact ⟨ret_bool (by simp [properB, h2]), (Below.refl _ _).alloc (Nat.le_refl _) _⟩
  · go_enter Try.func20, Try.ntmps20
    go_wp2_with fail
    go_ret
    exact ⟨ret_bool (by simp [properB, h1]), (Below.refl _ _).alloc (Nat.le_refl _) _⟩
def opdict_proper.f (a0_0 : ByteArray) (a0_1 : Int) (a0_2 : Bool) (a0_3 : Bool) : Option (Bool) := some (properB a0_0 a0_1)
theorem opdict_proper.calls (a0_0 : ByteArray) (a0_1 : Int) (a0_2 : Bool) (a0_3 : Bool) (r : Bool) (w : World) (h : opdict_proper.f a0_0 a0_1 a0_2 a0_3 = some r) :
    Calls Try.prog 20 #[.agg #[.string a0_0, .int .i64 a0_1, .bool a0_2, .bool a0_3]] w fun e w' => e = .returned (.bool r) ∧ Below w.heap.size w w' := by
  obtain rfl := Option.some.inj h
  exact proper_any a0_0 a0_1 a0_2 a0_3 w

end Go.Proofs.Ytomogpiahcnmjaa.P
