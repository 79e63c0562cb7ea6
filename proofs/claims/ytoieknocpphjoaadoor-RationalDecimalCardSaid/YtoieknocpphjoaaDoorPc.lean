--m
/- Small words for the pure statements of this seat: no program in sight. -/
import Derived.Test.YtoieknocpphjoaaDoorV1
import Derived.RowKit
namespace Go.Proofs.YtoieknocpphjoaaDoor.P
open Go.RowKit Go.Proofs.YtoieknocpphjoaaDoorW.PrintWords Go.Proofs.YtoieknocpphjoaaDoorW.PrintLast Go.Proofs.YtoieknocpphjoaaDoorW.PrintMore
/-! ### small words for the pure statements -/
theorem wrap_id {x : Int} (h : -9223372036854775808 ≤ x) (h2 : x ≤ 9223372036854775807) : wrap64 x = x := by unfold wrap64; omega
theorem wrap_succ {i : Nat} (h : i < 9223372036854775807) : wrap64 ((i : Int) + 1) = ((i + 1 : Nat) : Int) := by unfold wrap64; omega
/-- A loop that counts up to n: each round answers, or goes on with the same answer to come. -/
theorem ev_up {ρ σ : Type} (g : Nat → Int → σ → Option ρ) (n : Nat) (S : Nat → σ → ρ) (Inv : Nat → σ → Prop)
  (hend : ∀ s, Inv n s → ∀ k, g (k + 1) (n : Int) s = some (S n s))
  (hstep : ∀ i s, i < n → Inv i s → (∀ k, g (k + 1) (i : Int) s = some (S i s)) ∨ ∃ s', Inv (i + 1) s' ∧ (∀ k, g (k + 1) (i : Int) s = g k ((i + 1 : Nat) : Int) s') ∧ S (i + 1) s' = S i s) :
  ∀ i s, i ≤ n → Inv i s → Ev (fun k => g k (i : Int) s) (S i s) := by
 have one : ∀ (i : Nat) s, (∀ k, g (k + 1) (i : Int) s = some (S i s)) → Ev (fun k => g k (i : Int) s) (S i s) := fun i s h => ⟨1, fun k hk => by obtain ⟨m, rfl⟩ : ∃ m, k = m + 1 := ⟨k - 1, by omega⟩; exact h m⟩
 have key : ∀ d i s, i + d = n → Inv i s → Ev (fun k => g k (i : Int) s) (S i s) := by
  intro d
  induction d with
  | zero =>
   intro i s hi hI
   obtain rfl : i = n := by omega
   exact one _ _ (hend s hI)
  | succ d ih =>
   intro i s hi hI
   rcases hstep i s (by omega) hI with h | ⟨s', hI', hk, hS⟩
   ·exact one _ _ h
   ·have := ih (i + 1) s' (by omega) hI'
    rw [hS] at this
    exact Ev.step hk this
 intro i s hi hI
 exact key (n - i) i s (by omega) hI
/-- The same, where a round may call what has rounds of its own. -/
theorem ev_upE {ρ σ : Type} (g : Nat → Int → σ → Option ρ) (n : Nat) (S : Nat → σ → ρ) (Inv : Nat → σ → Prop)
  (hend : ∀ s, Inv n s → Ev (fun k => g (k + 1) (n : Int) s) (S n s))
  (hstep : ∀ i s, i < n → Inv i s → Ev (fun k => g (k + 1) (i : Int) s) (S i s) ∨ ∃ s', Inv (i + 1) s' ∧ (∀ r, Ev (fun k => g k ((i + 1 : Nat) : Int) s') r → Ev (fun k => g (k + 1) (i : Int) s) r) ∧ S (i + 1) s' = S i s) :
  ∀ i s, i ≤ n → Inv i s → Ev (fun k => g k (i : Int) s) (S i s) := by
 have one : ∀ (i : Nat) s r, Ev (fun k => g (k + 1) (i : Int) s) r → Ev (fun k => g k (i : Int) s) r := fun i s r ⟨K, h⟩ => ⟨K + 1, fun k hk => by obtain ⟨m, rfl⟩ : ∃ m, k = m + 1 := ⟨k - 1, by omega⟩; exact h m (by omega)⟩
 have key : ∀ d i s, i + d = n → Inv i s → Ev (fun k => g k (i : Int) s) (S i s) := by
  intro d
  induction d with
  | zero =>
   intro i s hi hI
   obtain rfl : i = n := by omega
   exact one _ _ _ (hend s hI)
  | succ d ih =>
   intro i s hi hI
   rcases hstep i s (by omega) hI with h | ⟨s', hI', hk, hS⟩
   ·exact one _ _ _ h
   ·have := ih (i + 1) s' (by omega) hI'
    rw [hS] at this
    exact one _ _ _ (hk _ this)
 intro i s hi hI
 exact key (n - i) i s (by omega) hI
theorem Ev.some {α : Type} {g : Nat → Option α} {r : α} (h : ∀ k, g k = some r) : Ev g r := ⟨0, fun k _ => h k⟩
theorem Ev.bindO {α β : Type} {o : Option α} {a : α} {f : Nat → α → Option β} {r : β} (h : o = Option.some a) (k : Ev (fun n => f n a) r) : Ev (fun n => o.bind (f n)) r := by subst h; exact k
theorem Ev.ite {α : Type} {c : Prop} [Decidable c] {g f : Nat → Option α} {r : α} (h : c → Ev g r) (h' : ¬ c → Ev f r) : Ev (fun n => if c then g n else f n) r := by
 by_cases hc : c
 ·simpa [hc] using h hc
 ·simpa [hc] using h' hc
theorem Ev.pos {α : Type} {c : Prop} [Decidable c] {g f : Nat → Option α} {r : α} (hc : c) (h : Ev g r) : Ev (fun n => if c then g n else f n) r := by simpa [hc] using h
theorem Ev.neg {α : Type} {c : Prop} [Decidable c] {g f : Nat → Option α} {r : α} (hc : ¬ c) (h : Ev f r) : Ev (fun n => if c then g n else f n) r := by simpa [hc] using h
theorem Ev.ret {α : Type} {a r : α} (h : a = r) : Ev (fun _ => Option.some a) r := by subst h; exact Ev.now _
theorem rdOf_nat {α : Type} (d : α) (l : List α) (k : Nat) (h : k < l.length) : rdOf d l (k : Int) = l[k] := by
 unfold rdOf
 rw [Int.toNat_natCast, List.getD_eq_getElem?_getD, List.getElem?_eq_getElem h]
 rfl
end Go.Proofs.YtoieknocpphjoaaDoor.P
