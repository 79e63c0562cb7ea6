--m
/- What Map, MapAll and Lost of layer 13 and of its reference answer. No program in sight. -/
import Derived.Test.YtikgflpobacndaaPoA
import Derived.Test.YtikgflpobacndaaP0
import Derived.Test.YtikgflpobacndaaP1
import Derived.Test.YtikgflpobacndaaP10
import Derived.Test.YtikgflpobacndaaP11
import Derived.Test.YtikgflpobacndaaP4
import Derived.Test.YtikgflpobacndaaP5
import Derived.Test.YtikgflpobacndaaP6
import Derived.Test.YtikgflpobacndaaP7
import Derived.Test.YtikgflpobacndaaP8
import Derived.Test.YtikgflpobacndaaP9
namespace Go.Proofs.Ytikgflpobacndaa.P
open Go.RowKit Go.Proofs.YtikgflpobacndaaW.PrintWords Go.Proofs.YtikgflpobacndaaW.PrintLast Go.Proofs.YtikgflpobacndaaW.PrintMore
set_option linter.unusedSimpArgs false
set_option linter.unusedVariables false
/-- The row, then the offset; or the index, the slot and the rest. -/
def mvS (row : List Int) (i s : Int) (rest : List Int) : List Int := row ++ (if rest.length = 0 then [i] else i :: s :: rest)
theorem clone_some (l : List Int) (h : l.length ≤ 1000000) : slices_Clone_int_int.f l = some l := by
 unfold slices_Clone_int_int.f
 simp only [Option.bind_some, List.length_nil, List.nil_append]
 rw [if_pos (by omega)]
section
variable (K : Int) (row : List Int) (at_ n : Int) (nodes : List S24) (slot : Int) (t1 t2 : ByteArray) (i s : Int) (rest : List Int)
theorem at_some (v : Int) (hr : row.length ≤ 1000000) : posmap_place_at.f K row at_ n nodes slot t1 t2 i s rest v = some (row ++ [v]) := by
 unfold posmap_place_at.f
 rw [clone_some row hr]
 simp only [Option.bind_some]
 rw [if_pos (by omega)]
theorem offset_some : posmap_place_offset.f K row at_ n nodes slot t1 t2 i s rest = some (decide (rest.length = 0)) := by
 unfold posmap_place_offset.f
 congr 1
 rw [Bool.eq_iff_iff]
 simp
theorem moved_some (v : Int) (hr : row.length ≤ 1000000) (hs : rest.length ≤ 1000000) (h1 : -9223372036854775808 ≤ i + v) (h2 : i + v ≤ 9223372036854775807) :
  posmap_place_moved.f K row at_ n nodes slot t1 t2 i s rest v = some (mvS row (i + v) s rest) := by
 unfold posmap_place_moved.f mvS
 rw [wrap_id h1 h2, at_some (hr := hr), offset_some]
 simp only [Option.bind_some]
 by_cases h : rest.length = 0
 ·rw [if_pos (by simp [h]), if_pos h]
 ·rw [if_neg (by simp [h]), if_neg h, if_pos (by simp; omega), if_pos (by simp; omega)]
  simp
theorem into_some (hr : row.length ≤ 1000000) (hs : rest.length ≤ 1000000) (h1 : -9223372036854775808 ≤ i - at_) (h2 : i - at_ ≤ 9223372036854775807) :
  posmap_place_into.f K row at_ n nodes slot t1 t2 i s rest = some (row ++ (at_ :: slot :: (if rest.length = 0 then [i - at_] else (i - at_) :: s :: rest))) := by
 unfold posmap_place_into.f
 rw [wrap_id h1 h2, at_some (hr := hr), offset_some]
 simp only [Option.bind_some]
 rw [if_pos (by simp; omega)]
 by_cases h : rest.length = 0
 ·rw [if_pos (by simp [h]), if_pos h]
  simp
 ·rw [if_neg (by simp [h]), if_neg h, if_pos (by simp; omega), if_pos (by simp; omega)]
  simp
theorem insert_ev (after : Bool) (hr : row.length ≤ 1000000) (hs : rest.length ≤ 1000000) (hn : nodes.length ≤ 1000000) (h1 : -1152921504606846976 ≤ i) (h2 : i ≤ 1152921504606846976) :
  Ev (fun k => posmap_place_insert.f k K row at_ n nodes slot t1 t2 i s rest after) (mvS row (if i < at_ ∨ (rest.length = 0 ∧ i = at_ ∧ after = false) then i else i + nodes.length) s rest) := by
 have hj : ∀ b : Bool, Ev (fun k => posmap_place_insert.j0 k (nodes.length : Int) b K row at_ n nodes slot t1 t2 i s rest) (mvS row (if b = true then i else i + nodes.length) s rest) := fun b => by
  refine Ev.step (f := fun _ => some (mvS row (if b = true then i else i + nodes.length) s rest)) (fun k => ?_) (Ev.now _)
  simp only [posmap_place_insert.j0]
  cases b with
  | true => rw [if_pos rfl, moved_some (hr := hr) (hs := hs) (h1 := by omega) (h2 := by omega)]; simp
  | false => rw [if_neg (by simp), moved_some (hr := hr) (hs := hs) (h1 := by omega) (h2 := by omega)]; simp
 unfold posmap_place_insert.f
 by_cases c1 : i < at_
 ·rw [if_pos (.inl c1)]; exact Ev.pos c1 (hj true)
 ·refine Ev.neg c1 (Ev.bindO (offset_some K row at_ n nodes slot t1 t2 i s rest) ?_)
  by_cases c2 : rest.length = 0
  ·refine Ev.pos (decide_eq_true c2) ?_
   by_cases c3 : i = at_
   ·refine Ev.pos c3 ?_
    cases after with
    | true => rw [if_neg (by simp; omega)]; exact hj false
    | false => rw [if_pos (.inr ⟨c2, c3, rfl⟩)]; exact hj true
   ·rw [if_neg (by omega)]; exact Ev.neg c3 (hj false)
  ·rw [if_neg (by omega)]
   exact Ev.neg (by simp [c2]) (hj false)
theorem remove_ev (hr : row.length ≤ 1000000) (hs : rest.length ≤ 1000000) (hn : nodes.length ≤ 1000000) (h1 : -1152921504606846976 ≤ i) (h2 : i ≤ 1152921504606846976) (a1 : -1152921504606846976 ≤ at_) (a2 : at_ ≤ 1152921504606846976) :
  Ev (fun k => posmap_place_remove.f k K row at_ n nodes slot t1 t2 i s rest) (if i < at_ ∨ (rest.length = 0 ∧ i = at_) then mvS row i s rest else if i < at_ + nodes.length then row ++ [at_] else mvS row (i - nodes.length) s rest) := by
 have hj : ∀ b : Bool, Ev (fun k => posmap_place_remove.j0 k at_ (nodes.length : Int) b K row at_ n nodes slot t1 t2 i s rest) (if b = true then mvS row i s rest else if i < at_ + nodes.length then row ++ [at_] else mvS row (i - nodes.length) s rest) := fun b => by
  refine Ev.step (f := fun _ => some (if b = true then mvS row i s rest else if i < at_ + nodes.length then row ++ [at_] else mvS row (i - nodes.length) s rest)) (fun k => ?_) (Ev.now _)
  simp only [posmap_place_remove.j0]
  have e1 : wrap64 (at_ + (nodes.length : Int)) = at_ + nodes.length := wrap_id (by omega) (by omega)
  have e2 : wrap64 (-(nodes.length : Int)) = -(nodes.length : Int) := wrap_id (by omega) (by omega)
  rw [e1, e2]
  cases b with
  | true => simp only [if_true]; rw [moved_some (hr := hr) (hs := hs) (h1 := by omega) (h2 := by omega)]; simp
  | false =>
   simp only [Bool.false_eq_true, if_false]
   by_cases c : i < at_ + nodes.length
   ·rw [if_pos c, if_pos c, at_some (hr := hr)]; rfl
   ·rw [if_neg c, if_neg c, moved_some (hr := hr) (hs := hs) (h1 := by omega) (h2 := by omega)]; rfl
 unfold posmap_place_remove.f
 by_cases c1 : i < at_
 ·rw [if_pos (.inl c1)]; exact Ev.pos c1 (hj true)
 ·refine Ev.neg c1 (Ev.bindO (offset_some K row at_ n nodes slot t1 t2 i s rest) ?_)
  by_cases c2 : rest.length = 0
  ·refine Ev.pos (decide_eq_true c2) ?_
   by_cases c3 : i = at_
   ·rw [if_pos (.inr ⟨c2, c3⟩), show (i == at_) = true by simpa using c3]; exact hj true
   ·rw [if_neg (by omega), show (i == at_) = false by simpa using c3]; exact hj false
  ·rw [if_neg (by omega)]
   exact Ev.neg (by simp [c2]) (hj false)
theorem wrap_ev (after : Bool) (hr : row.length ≤ 1000000) (hs : rest.length ≤ 1000000) (h1 : -1152921504606846976 ≤ i) (h2 : i ≤ 1152921504606846976) (a1 : -1152921504606846976 ≤ at_) (a2 : at_ ≤ 1152921504606846976) (n1 : -1152921504606846976 ≤ n) (n2 : n ≤ 1152921504606846976) :
  Ev (fun k => posmap_place_wrap.f k K row at_ n nodes slot t1 t2 i s rest after) (if rest.length = 0 ∧ i = at_ ∧ n = 0 ∧ after = true then row ++ [at_ + 1] else if i < at_ ∨ (rest.length = 0 ∧ i = at_) then mvS row i s rest else if i < at_ + n then row ++ (at_ :: slot :: (if rest.length = 0 then [i - at_] else (i - at_) :: s :: rest)) else mvS row (i - n + 1) s rest) := by
 have e1 : wrap64 (at_ + n) = at_ + n := wrap_id (by omega) (by omega)
 have e2 : wrap64 (1 - n) = 1 - n := wrap_id (by omega) (by omega)
 have e3 : wrap64 (at_ + 1) = at_ + 1 := wrap_id (by omega) (by omega)
 have e4 : i + (1 - n) = i - n + 1 := by omega
 have hj1 : ∀ b : Bool, Ev (fun k => posmap_place_wrap.j1 k at_ n b K row at_ n nodes slot t1 t2 i s rest) (if b = true then mvS row i s rest else if i < at_ + n then row ++ (at_ :: slot :: (if rest.length = 0 then [i - at_] else (i - at_) :: s :: rest)) else mvS row (i - n + 1) s rest) := fun b => by
  refine Ev.step (f := fun _ => some (if b = true then mvS row i s rest else if i < at_ + n then row ++ (at_ :: slot :: (if rest.length = 0 then [i - at_] else (i - at_) :: s :: rest)) else mvS row (i - n + 1) s rest)) (fun k => ?_) (Ev.now _)
  simp only [posmap_place_wrap.j1]
  rw [e1, e2]
  cases b with
  | true => simp only [if_true]; rw [moved_some (hr := hr) (hs := hs) (h1 := by omega) (h2 := by omega)]; simp
  | false =>
   simp only [Bool.false_eq_true, if_false]
   by_cases c : i < at_ + n
   ·rw [if_pos c, if_pos c, into_some (hr := hr) (hs := hs) (h1 := by omega) (h2 := by omega)]; rfl
   ·rw [if_neg c, if_neg c, moved_some (hr := hr) (hs := hs) (h1 := by omega) (h2 := by omega), e4]; rfl
 have hj0 : ∀ b : Bool, Ev (fun k => posmap_place_wrap.j0 k at_ n b K row at_ n nodes slot t1 t2 i s rest) (if b = true then row ++ [at_ + 1] else if i < at_ ∨ (rest.length = 0 ∧ i = at_) then mvS row i s rest else if i < at_ + n then row ++ (at_ :: slot :: (if rest.length = 0 then [i - at_] else (i - at_) :: s :: rest)) else mvS row (i - n + 1) s rest) := fun b => by
  cases b with
  | true =>
   rw [if_pos rfl]
   refine Ev.step (f := fun _ => some (row ++ [at_ + 1])) (fun k => ?_) (Ev.now _)
   simp only [posmap_place_wrap.j0]
   rw [e3, if_pos trivial, at_some (hr := hr)]
   rfl
  | false =>
   rw [if_neg (by simp)]
   refine Ev.step (f := fun k => if i < at_ then (posmap_place_wrap.j1 k at_ n true K row at_ n nodes slot t1 t2 i s rest) else ((posmap_place_offset.f K row at_ n nodes slot t1 t2 i s rest).bind fun t => (if t = true then (posmap_place_wrap.j1 k at_ n (i == at_) K row at_ n nodes slot t1 t2 i s rest) else (posmap_place_wrap.j1 k at_ n false K row at_ n nodes slot t1 t2 i s rest)))) (fun k => by simp only [posmap_place_wrap.j0]; rw [if_neg (by simp)]) ?_
   by_cases c1 : i < at_
   ·rw [if_pos (.inl c1)]; exact Ev.pos c1 (hj1 true)
   ·refine Ev.neg c1 (Ev.bindO (offset_some K row at_ n nodes slot t1 t2 i s rest) ?_)
    by_cases c2 : rest.length = 0
    ·refine Ev.pos (decide_eq_true c2) ?_
     by_cases c3 : i = at_
     ·rw [if_pos (.inr ⟨c2, c3⟩), show (i == at_) = true by simpa using c3]; exact hj1 true
     ·rw [if_neg (by omega), show (i == at_) = false by simpa using c3]; exact hj1 false
    ·rw [if_neg (by omega)]
     exact Ev.neg (by simp [c2]) (hj1 false)
 unfold posmap_place_wrap.f
 refine Ev.bindO (offset_some K row at_ n nodes slot t1 t2 i s rest) ?_
 by_cases c2 : rest.length = 0
 ·refine Ev.pos (decide_eq_true c2) ?_
  by_cases c3 : i = at_
  ·refine Ev.pos c3 ?_
   by_cases c4 : n = 0
   ·refine Ev.pos c4 ?_
    cases after with
    | true => rw [if_pos ⟨c2, c3, c4, rfl⟩]; exact hj0 true
    | false => rw [if_neg (by simp)]; exact hj0 false
   ·rw [if_neg (by simp [c4])]; exact Ev.neg c4 (hj0 false)
  ·rw [if_neg (by simp [c3])]; exact Ev.neg c3 (hj0 false)
 ·rw [if_neg (by omega)]
  exact Ev.neg (by simp [c2]) (hj0 false)
theorem unwrap_ev (hr : row.length ≤ 1000000) (hs : rest.length ≤ 1000000) (h1 : -1152921504606846976 ≤ i) (h2 : i ≤ 1152921504606846976) (a1 : -1152921504606846976 ≤ at_) (a2 : at_ ≤ 1152921504606846976) (n1 : -1152921504606846976 ≤ n) (n2 : n ≤ 1152921504606846976) (hrest : ∀ x ∈ rest, -1152921504606846976 ≤ x ∧ x ≤ 1152921504606846976) :
  Ev (fun k => posmap_place_unwrap.f k K row at_ n nodes slot t1 t2 i s rest) (if i < at_ ∨ (rest.length = 0 ∧ i = at_) then mvS row i s rest else if rest.length = 0 ∨ i > at_ then mvS row (i - 1 + n) s rest else if s < slot then row ++ [at_] else if s > slot then row ++ [at_ + n] else row ++ ((at_ + rd rest 0) :: rest.drop 1)) := by
 have e1 : wrap64 (at_ + n) = at_ + n := wrap_id (by omega) (by omega)
 have e2 : wrap64 (n - 1) = n - 1 := wrap_id (by omega) (by omega)
 have e4 : i + (n - 1) = i - 1 + n := by omega
 have hj1 : ∀ b : Bool, (b = false → rest.length ≠ 0) → Ev (fun k => posmap_place_unwrap.j1 k at_ n b K row at_ n nodes slot t1 t2 i s rest) (if b = true then mvS row (i - 1 + n) s rest else if s < slot then row ++ [at_] else if s > slot then row ++ [at_ + n] else row ++ ((at_ + rd rest 0) :: rest.drop 1)) := fun b hb => by
  refine Ev.step (f := fun _ => some (if b = true then mvS row (i - 1 + n) s rest else if s < slot then row ++ [at_] else if s > slot then row ++ [at_ + n] else row ++ ((at_ + rd rest 0) :: rest.drop 1))) (fun k => ?_) (Ev.now _)
  simp only [posmap_place_unwrap.j1]
  rw [e1, e2]
  cases b with
  | true => simp only [if_true]; rw [moved_some (hr := hr) (hs := hs) (h1 := by omega) (h2 := by omega), e4]; rfl
  | false =>
   have hne := hb rfl
   simp only [Bool.false_eq_true, if_false]
   by_cases c : s < slot
   ·rw [if_pos c, if_pos c, at_some (hr := hr)]; rfl
   ·rw [if_neg c, if_neg c]
    by_cases c2 : s > slot
    ·rw [if_pos c2, if_pos c2, at_some (hr := hr)]; rfl
    ·have h0 : rd rest 0 = rest[0]'(by omega) := rd_nat rest 0 (by omega)
     have hb0 := hrest _ (List.getElem_mem (show 0 < rest.length by omega))
     rw [if_neg c2, if_neg c2, if_pos (by omega), h0, wrap_id (by omega) (by omega), at_some (hr := hr)]
     simp only [Option.bind_some]
     rw [if_pos (by omega), if_pos (by simp; omega)]
     simp
 have hj0 : ∀ b : Bool, (b = true → i < at_ ∨ (rest.length = 0 ∧ i = at_)) → (b = false → ¬ (i < at_ ∨ (rest.length = 0 ∧ i = at_))) → Ev (fun k => posmap_place_unwrap.j0 k at_ n b K row at_ n nodes slot t1 t2 i s rest) (if i < at_ ∨ (rest.length = 0 ∧ i = at_) then mvS row i s rest else if rest.length = 0 ∨ i > at_ then mvS row (i - 1 + n) s rest else if s < slot then row ++ [at_] else if s > slot then row ++ [at_ + n] else row ++ ((at_ + rd rest 0) :: rest.drop 1)) := fun b hb hb2 => by
  cases b with
  | true =>
   rw [if_pos (hb rfl)]
   refine Ev.step (f := fun _ => some (mvS row i s rest)) (fun k => ?_) (Ev.now _)
   simp only [posmap_place_unwrap.j0]
   rw [if_pos trivial, moved_some (hr := hr) (hs := hs) (h1 := by omega) (h2 := by omega)]
   simp
  | false =>
   rw [if_neg (hb2 rfl)]
   refine Ev.step (f := fun k => (posmap_place_offset.f K row at_ n nodes slot t1 t2 i s rest).bind fun t => (if t = true then (posmap_place_unwrap.j1 k at_ n true K row at_ n nodes slot t1 t2 i s rest) else (posmap_place_unwrap.j1 k at_ n (decide (i > at_)) K row at_ n nodes slot t1 t2 i s rest))) (fun k => by simp only [posmap_place_unwrap.j0]; rw [if_neg (by simp)]) ?_
   refine Ev.bindO (offset_some K row at_ n nodes slot t1 t2 i s rest) ?_
   by_cases c2 : rest.length = 0
   ·rw [if_pos (.inl c2)]
    exact Ev.pos (decide_eq_true c2) (hj1 true (fun h => by cases h))
   ·refine Ev.neg (by simp [c2]) ?_
    by_cases c3 : i > at_
    ·rw [if_pos (.inr c3), decide_eq_true c3]; exact hj1 true (fun h => by cases h)
    ·rw [if_neg (by omega), decide_eq_false c3]; exact hj1 false (fun _ => c2)
 unfold posmap_place_unwrap.f
 by_cases c1 : i < at_
 ·exact Ev.pos c1 (hj0 true (fun _ => .inl c1) (fun h => by cases h))
 ·refine Ev.neg c1 (Ev.bindO (offset_some K row at_ n nodes slot t1 t2 i s rest) ?_)
  by_cases c2 : rest.length = 0
  ·refine Ev.pos (decide_eq_true c2) ?_
   by_cases c3 : i = at_
   ·rw [show (i == at_) = true by simpa using c3]; exact hj0 true (fun _ => .inr ⟨c2, c3⟩) (fun h => by cases h)
   ·rw [show (i == at_) = false by simpa using c3]; exact hj0 false (fun h => by cases h) (fun _ => by omega)
  ·exact Ev.neg (by simp [c2]) (hj0 false (fun h => by cases h) (fun _ => by omega))
end
end Go.Proofs.Ytikgflpobacndaa.P
