/- Written by wip/tool/hprint.py (the kit's print.py with hand-proved contracts set in): contracts of the functions that the statements of this seat reach, without conditions beyond those named in each theorem. -/
import Derived.Test.YtomogpiahcnmjaaP0
import Derived.Test.YtomogpiahcnmjaaP2
import Derived.Test.YtomogpiahcnmjaaP4
import Derived.Test.YtomogpiahcnmjaaP6
import Derived.Lib.Hide
import Derived.Maps.Own
import Derived.Maps.OwnSet
namespace Go.Proofs.Ytomogpiahcnmjaa.P
open Go.RowKit Go.Proofs.YtomogpiahcnmjaaW.PrintWords Go.Proofs.YtomogpiahcnmjaaW.PrintLast Go.Proofs.YtomogpiahcnmjaaW.PrintMore
attribute [local go_sem] max2_int min2_int max_two min_two max_three min_three max_four min_four   -- for this text's walks alone
set_option linter.unusedVariables false
set_option linter.unusedSimpArgs false

-- IMPORTS: Derived.Lib.Hide Derived.Maps.Own Derived.Maps.OwnSet

open Go.Maps in
def keyB (x : S27) : Lit := .string x.f0.data.toList
open Go.Maps in
/-- What a valid dictionary is. -/
def validB (l : List S27) : Bool := l.all (fun x => properB x.f0 x.f1) && (decide (l.length ≤ 200) && (((l.map keyB).foldl addKey []).length == l.length))
theorem validB_bad (l : List S27) (k : Nat) (h : k < l.length) (hp : properB l[k].f0 l[k].f1 = false) : validB l = false := by
  have : l.all (fun x => properB x.f0 x.f1) = false := by
    rw [List.all_eq_false]
    exact ⟨l[k], List.getElem_mem h, by simp [hp]⟩
  simp [validB, this]
theorem keysB_succ (l : List S27) (k : Nat) (h : k < l.length) : (l.take (k + 1)).map keyB = (l.take k).map keyB ++ [keyB l[k]] := by
  rw [List.take_succ_eq_append_getElem h, List.map_append]; rfl
abbrev uB : DataW Unit := .lit (.bool true)
open Go.Maps in
set_option maxHeartbeats 1600000 in
theorem valid_any (A0 : Option Addr) (c0 : Nat) (l0 : List S27) (w : World) (hr0 : Kd.C k27 w A0 l0.length l0) (hlen : l0.length ≤ 140737488355328) :
    Calls Try.prog 14 #[.slice A0 l0.length c0] w fun e w' => e = .returned (.bool (validB l0)) ∧ Below w.heap.size w w' := by
  have hu := Try.underlying27
  have law : Keyed Try.prog 9 := string_keyed Try.underlying9
  have HR0 := Aside0.mk hr0
  have hm : l0.length ≤ 9223372036854775807 := hr0.2.1
  clear hr0
  have hmm := @run_makeMap Try.prog
  go_enter Try.func14, Try.ntmps14
  go_wp2
  go_loopw [9] (fun i w' => ∃ k : Nat, k ≤ l0.length ∧ i = .int .i64 k ∧ Aside0 ((l0.take k).all (fun x => properB x.f0 x.f1) = true) ∧ Aside0 (w'.ownsMap Try.prog 9 (plainElem Try.prog 4) w.heap.size k (setOf uB ((l0.take k).map keyB))) ∧ Aside0 (Below w.heap.size w w') ∧ Aside0 (w.heap.size < w'.heap.size)) (fun i _ => l0.length - (intOf i).toNat)
  case atStart => exact ⟨0, Nat.zero_le _, rfl, ⟨rfl⟩, ⟨World.ownsMap_made _ _ _ _⟩, ⟨below_alloc (Below.refl _ _) _⟩, ⟨by simp⟩⟩
  case round =>
    obtain ⟨k, hk, rfl, hA, hM, HB, HS⟩ := hrel
    by_cases hlt : k < l0.length
    · obtain ⟨ad, e, c0, c1, c2, c3⟩ := at_T27 HR0.out (k : Int) (by omega) (by omega)
      cases e
      have q0 := pw_cell_below HB.out c0
      have q1 := pw_cell_below HB.out c1
      have q2 := pw_cell_below HB.out c2
      have q3 := pw_cell_below HB.out c3
      clear c0 c1 c2 c3
      simp only [Int.toNat_natCast, rdT27_nat l0 k hlt] at q0 q1 q2 q3
      cases hp : properB l0[k].f0 l0[k].f1 with
      | false =>
        have HV := Lib.hid (validB_bad l0 k hlt hp)
        have HC := Lib.hid (fun W => proper_any l0[k].f0 l0[k].f1 l0[k].f2 l0[k].f3 W)
        have HP := Lib.hid hp
        clear hp
        go_wp2_with fail
        refine (HC.out _).mono ?_
        rintro e w1 ⟨rfl, hb1⟩
        rw [HP.out]
        go_wp2_with fail
        go_ret
        exact ⟨ret_bool HV.out.symm, below_then (HB.out.alloc HB.out.size _) (by simp; have := HB.out.size; omega) hb1⟩
      | true =>
        have HC := Lib.hid (fun W => proper_any l0[k].f0 l0[k].f1 l0[k].f2 l0[k].f3 W)
        have HP := Lib.hid hp
        have hz := properB_size hp
        clear hp
        go_wp2_with fail
        refine (HC.out _).mono ?_
        rintro e w1 ⟨rfl, hb1⟩
        rw [HP.out]
        obtain ⟨hc1, hf1⟩ := bcell hb1
        have HM1 := (hM.out.alloc (.cells #[Value.string l0[k].f0, Value.int IntKind.i64 l0[k].f1, Value.bool l0[k].f2, Value.bool l0[k].f3] 27)).kept (grown_of_below hb1 none) (by simp)
        have HB1 := Aside0.mk (below_then (HB.out.alloc HB.out.size (.cells #[Value.string l0[k].f0, Value.int IntKind.i64 l0[k].f1, Value.bool l0[k].f2, Value.bool l0[k].f3] 27)) (by simp; have := HB.out.size; omega) hb1)
        have HS1 := Aside0.mk (Nat.lt_of_lt_of_le HS.out (Nat.le_trans (by simp) hb1.size))
        clear hb1
        have HM2 := Aside0.mk HM1
        clear HM1
        go_wp2_with (first | (at_mapUpdate; refine wpList_mapUpdate_own _ rfl _ _ _ 39 rfl 9 4 law Try.underlying39 _ w.heap.size k _ rfl HM2.out (by unfold maxLen; omega) _ _ _ rfl rfl (Go.WideMaps.keyOf_string_mk Try.underlying9 (by unfold maxLen; omega)) _ [] (plainElem_bool Try.underlying4 true) ?_; intro w2 hown1 hgrow1))
        refine ⟨⟨k + 1, by omega, by go_num, ⟨all_take_succ _ _ _ hlt hA.out HP.out⟩, ⟨?_⟩, ⟨HB1.out.grown hgrow1 HB1.out.size (fun j hj => by cases hj; exact Nat.le_refl _)⟩, ⟨Nat.lt_of_lt_of_le HS1.out hgrow1.size⟩⟩, by simp [intOf]; omega⟩
        rw [keysB_succ _ _ hlt, setOf_snoc]
        exact hown1
    · have hln := hM.out.len Try.underlying39 3
      obtain rfl : k = l0.length := by omega
      simp only [List.take_length] at hln hA
      have hsz : size (setOf uB (l0.map keyB)) = ((l0.map keyB).foldl addKey []).length := size_setOf _ _ (fun x hx => by obtain ⟨y, _, rfl⟩ := List.mem_map.1 hx; exact trivial)
      rw [hsz] at hln
      have HV : Hid (validB l0 = (decide (l0.length ≤ 200) && (((l0.map keyB).foldl addKey []).length == l0.length))) := by unfold validB; rw [hA.out]; rfl
      clear hsz hA
      generalize ((l0.map keyB).foldl addKey []).length = d at hln HV
      by_cases h2 : l0.length ≤ 200
      · go_wp2_with fail
        go_ret
        exact ⟨ret_bool (by rw [HV.out]; simp [h2, beq_cast]), HB.out⟩
      · go_wp2_with fail
        go_ret
        exact ⟨ret_bool (by rw [HV.out]; simp [h2]), HB.out⟩
theorem C_len {l0 : List S27} {A0 : Option Addr} {w : World} (hl : l0.length ≤ 140737488355328) (h : Kd.C k27 w A0 l0.length l0) : Kd.C k27 w A0 l0.length l0 := h
def opdict_Valid.f (l0 : List (S27)) : Option (Bool) := if l0.length ≤ 140737488355328 then some (validB l0) else none
theorem opdict_Valid.calls (A0 : Option Addr) (c0 : Nat) (l0 : List (S27)) (r : Bool) (w : World) (hr0 : Kd.C k27 w A0 l0.length l0) (hc0 : l0.length ≤ c0) (h : opdict_Valid.f l0 = some r) :
    Calls Try.prog 14 #[.slice A0 l0.length c0] w fun e w' => e = .returned (.bool r) ∧ Below w.heap.size w w' := by
  unfold opdict_Valid.f at h
  by_cases hl : l0.length ≤ 140737488355328
  · rw [if_pos hl] at h
    obtain rfl := Option.some.inj h
    exact valid_any A0 c0 l0 w hr0 hl
  · rw [if_neg hl] at h
    exact absurd h (by simp)

end Go.Proofs.Ytomogpiahcnmjaa.P
