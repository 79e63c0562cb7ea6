/- Written by wip/tool/hprint.py (the kit's print.py with hand-proved contracts set in): contracts of the functions that the statements of this seat reach, without conditions beyond those named in each theorem. -/
import Derived.Test.YtomogpiahcnmjaaP0
import Derived.Test.YtomogpiahcnmjaaP2
import Derived.Lib.Hide
namespace Go.Proofs.Ytomogpiahcnmjaa.P
open Go.RowKit Go.Proofs.YtomogpiahcnmjaaW.PrintWords Go.Proofs.YtomogpiahcnmjaaW.PrintLast Go.Proofs.YtomogpiahcnmjaaW.PrintMore
attribute [local go_sem] max2_int min2_int max_two min_two max_three min_three max_four min_four   -- for this text's walks alone
set_option linter.unusedVariables false
set_option linter.unusedSimpArgs false

-- IMPORTS: Derived.Lib.Hide

theorem rdT27_nat (l : List S27) (k : Nat) (h : k < l.length) : rd_T27 l (k : Int) = l[k] := by
  unfold rd_T27
  rw [Int.toNat_natCast, List.getD_eq_getElem?_getD, List.getElem?_eq_getElem h]
  rfl
def pText (text : ByteArray) (x : S27) : Bool := x.f0.toList == text.toList
theorem index_cl (x : S27) (text : ByteArray) (g : Nat) (w : World) (hg : w.cell? ⟨g, 0, none⟩ = some (.string text)) :
    Calls Try.prog 24 #[.agg #[.string x.f0, .int .i64 x.f1, .bool x.f2, .bool x.f3], .pointer (some ⟨g, 0, none⟩)] w fun e w' => e = .returned (.bool (pText text x)) ∧ Below w.heap.size w w' := by
  have hu := Try.underlying27
  have hlt := World.block_lt_of_cell? w _ hg
  go_enter Try.func24, Try.ntmps24
  go_wp2
  go_ret
  exact ⟨rfl, (Below.refl _ _).alloc (Nat.le_refl _) _⟩
set_option maxHeartbeats 800000 in
theorem indexFunc_entry (A0 : Option Addr) (c0 : Nat) (l0 : List S27) (text : ByteArray) (g : Nat) (w : World) (hr0 : Kd.C k27 w A0 l0.length l0) (hg : w.cell? ⟨g, 0, none⟩ = some (.string text)) :
    Calls Try.prog 23 #[.slice A0 l0.length c0, .func (.func 24) #[] #[.pointer (some ⟨g, 0, none⟩)]] w fun e w' => e = .returned (.int .i64 (findFrom (pText text) l0 0)) ∧ Below w.heap.size w w' := by
  have hu := Try.underlying27
  have HR0 := Aside0.mk hr0
  have hm : l0.length ≤ 9223372036854775807 := hr0.2.1
  clear hr0
  have HG := Aside0.mk hg
  clear hg
  go_enter Try.func23, Try.ntmps23
  go_wp2
  go_loopw [5, 8] (fun _ i w' => ∃ k : Nat, k ≤ l0.length ∧ i = .int .i64 k ∧ Aside0 (findFrom (pText text) l0 0 = findFrom (pText text) (l0.drop k) k) ∧ Aside0 (Below w.heap.size w w')) (fun _ i _ => l0.length - (intOf i).toNat)
  case atStart => exact ⟨0, Nat.zero_le _, rfl, ⟨rfl⟩, ⟨Below.refl _ _⟩⟩
  case round =>
    obtain ⟨k, hk, rfl, hF, HB⟩ := hrel
    by_cases hlt : k < l0.length
    · obtain ⟨ad, e, c0, c1, c2, c3⟩ := at_T27 HR0.out (k : Int) (by omega) (by omega)
      cases e
      have q0 := pw_cell_below HB.out c0
      have q1 := pw_cell_below HB.out c1
      have q2 := pw_cell_below HB.out c2
      have q3 := pw_cell_below HB.out c3
      have qg := pw_cell_below HB.out HG.out
      clear c0 c1 c2 c3
      simp only [Int.toNat_natCast, rdT27_nat l0 k hlt] at q0 q1 q2 q3
      go_wp2_with (go_at_call 24; refine (index_cl l0[k] text g _ qg).mono ?_; rintro e w1 ⟨rfl, hb1⟩)
      · go_ret
        refine ⟨?_, below_then HB.out HB.out.size hb1⟩
        rw [hF.out, findFrom_step _ _ _ hlt, if_pos (by assumption)]
        rfl
      · refine ⟨⟨k + 1, by omega, by go_num, ⟨?_⟩, ⟨below_then HB.out HB.out.size hb1⟩⟩, by simp [intOf]; omega⟩
        rw [hF.out, findFrom_step _ _ _ hlt, if_neg (by rw [Bool.not_eq_true]; assumption)]
    · go_wp2
      go_ret
      exact ⟨by rw [hF.out, findFrom_end _ _ _ (by omega)]; rfl, HB.out⟩
def opdict_index.f (l0 : List (S27)) (a1 : ByteArray) : Option (Int) := some (findFrom (pText a1) l0 0)
theorem opdict_index.calls (A0 : Option Addr) (c0 : Nat) (l0 : List (S27)) (a1 : ByteArray) (r : Int) (w : World) (hr0 : Kd.C k27 w A0 l0.length l0) (hc0 : l0.length ≤ c0) (h : opdict_index.f l0 a1 = some r) :
    Calls Try.prog 19 #[.slice A0 l0.length c0, .string a1] w fun e w' => e = .returned (.int .i64 r) ∧ Below w.heap.size w w' := by
  obtain rfl := Option.some.inj h
  have HR := Lib.hid hr0
  clear hr0 h
  go_enter Try.func19, Try.ntmps19
  go_wp2_with fail
  refine (indexFunc_entry A0 c0 l0 a1 w.heap.size _ (Kd.C_below HR.out (below_alloc (Below.refl _ _) _)) (by simp)).mono ?_
  rintro e w1 ⟨rfl, hb1⟩
  go_wp2
  go_ret
  exact ⟨rfl, below_then (below_alloc (Below.refl _ _) _) (by simp) hb1⟩

end Go.Proofs.Ytomogpiahcnmjaa.P
