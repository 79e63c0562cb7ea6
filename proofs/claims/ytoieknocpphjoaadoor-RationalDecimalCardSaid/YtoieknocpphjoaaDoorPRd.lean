--m
/- Written by wip/tool/hprint.py (the kit's print.py with hand-proved contracts set in): contracts of the functions that the statements of this seat reach, without conditions beyond those named in each theorem. -/
import Derived.Test.YtoieknocpphjoaaDoorP0
import Derived.ChangeArms
import Derived.OpenShut
import Derived.SizedLaws
import Derived.ChangeSlices
import Derived.ChangeSame
import Derived.ChangeShapes
import Derived.KernelRfl
namespace Go.Proofs.YtoieknocpphjoaaDoor.P
open Go.RowKit Go.Proofs.YtoieknocpphjoaaDoorW.PrintWords Go.Proofs.YtoieknocpphjoaaDoorW.PrintLast Go.Proofs.YtoieknocpphjoaaDoorW.PrintMore
open Go.ChangeShapes Go.WideShapes
set_option linter.unusedVariables false
/-- What reads as type t in fewer than n steps is a value of the kind d, and wf holds of it. -/
def RdF (P : Program) (n : Nat) (t : TypeId) {α : Type} (d : Kd α) (wf : α → Prop) : Prop :=
 ∀ (H : Type) (enc : TypeId × Value → H) (W : World) (base : Nat) (sp : Nat → Bool) (held : Bool) (fuel : Nat) (cs : List Value) (x : DataW H × List MemPlace), fuel < n → DataW.trod enc P W base sp held fuel t cs = some x → ∃ y, d.K W y cs ∧ wf y
theorem RdF.mono {P : Program} {n m : Nat} {t : TypeId} {α : Type} {d : Kd α} {wf : α → Prop} (h : RdF P n t d wf) (hm : m ≤ n) : RdF P m t d wf :=
 fun H enc W base sp held fuel cs x hf ht => h H enc W base sp held fuel cs x (by omega) ht
theorem rdF_int {P : Program} {t : TypeId} {k : IntKind} (hu : P.underlying t = some (.int k)) (n : Nat) : RdF P n t (Kd.int k) (fun y => (Lit.int k y).wf = true) := by
 intro H enc W base sp held fuel cs x hf ht
 obtain ⟨m, rfl, rfl, hw⟩ := DataW.trod_int hu ht
 exact ⟨m, rfl, hw⟩
theorem rdF_bool {P : Program} {t : TypeId} (hu : P.underlying t = some .bool) (n : Nat) : RdF P n t Kd.bool (fun _ => True) := by
 intro H enc W base sp held fuel cs x hf ht
 obtain ⟨m, rfl, rfl⟩ := DataW.trod_bool hu ht
 exact ⟨m, rfl, trivial⟩
theorem rdF_string {P : Program} {t : TypeId} (hu : P.underlying t = some .string) (n : Nat) : RdF P n t Kd.string (fun s => s.size ≤ 9223372036854775807) := by
 intro H enc W base sp held fuel cs x hf ht
 obtain ⟨m, rfl, rfl, hw⟩ := DataW.trod_string hu ht
 exact ⟨m, rfl, hw⟩
theorem add_add (a : Addr) (i j : Nat) : (a.add i).add j = a.add (i + j) := by
 unfold Addr.add
 by_cases hi : i = 0
 ·subst hi; simp
 ·by_cases hj : j = 0
  ·subst hj; simp
  ·have : i + j ≠ 0 := by omega
   simp [hi, hj, Nat.add_assoc]
theorem rdF_slice {P : Program} {t e : TypeId} {α : Type} {d : Kd α} {wf : α → Prop} {n : Nat} (hu : P.underlying t = some (.slice e)) (hd : RdF P n e d wf) (hsz : P.cellsOf e = d.sz) :
  RdF P (n + 1) t (Kd.slice e d) (fun l => l.length ≤ 9223372036854775807 ∧ ∀ y ∈ l, wf y) := by
 intro H enc W base sp held fuel cs x hf ht
 rcases DataW.trod_slice hu ht with ⟨rfl, _⟩ | ⟨a, len, cap, elems, rest, m, rfl, rfl, _, hb, hl, hm, hlen, hel, _, _⟩
 ·exact ⟨[], ⟨none, 0, rfl, Nat.le_refl _, by refine ⟨rfl, by simp, fun h => absurd h (by simp)⟩⟩, by simp, by simp⟩
 ·have hone : ∀ i : Fin len, ∃ y, ∃ cs', d.K W y cs' ∧ wf y ∧ (∀ j u, cs'[j]? = some u → W.cell? (a.add (i.val * d.sz + j)) = some u) := by
   intro i
   have h1 := hel i.val i.isLt
   rw [List.getElem?_eq_getElem (by rw [hlen]; exact i.isLt)] at h1
   obtain ⟨cs', hc, ht'⟩ := Option.bind_eq_some_iff.1 h1
   obtain ⟨y, hy, hw⟩ := hd H enc W base sp held m cs' _ (by omega) ht'
   refine ⟨y, cs', hy, hw, fun j u hu' => ?_⟩
   obtain ⟨_, hcl, hcell⟩ := World.cells?_some hc
   have hj : j < cs'.length := (List.getElem?_eq_some_iff.1 hu').1
   have h2 := hcell j (by omega)
   rw [add_add, hsz] at h2
   rw [h2]
   exact hu'
  have hml : maxLen = 9223372036854775807 := rfl
  refine ⟨List.ofFn (fun i => Classical.choose (hone i)), ⟨some a, cap, by simp, by simpa using hl, ?_⟩, by simp; omega, fun y hy => ?_⟩
  ·refine ⟨rfl, by simp; omega, fun _ => ⟨a, rfl, fun j p hp => ?_⟩⟩
   have hj : j < len := by
    have := (List.getElem?_eq_some_iff.1 hp).1
    simpa using this
   have hpv : p = Classical.choose (hone ⟨j, hj⟩) := by
    have := (List.getElem?_eq_some_iff.1 hp).2
    rw [← this]
    simp
   subst hpv
   obtain ⟨cs', hK, _, hcell⟩ := Classical.choose_spec (hone ⟨j, hj⟩)
   exact ⟨cs', d.K_len hK, hK, hcell⟩
  ·obtain ⟨i, rfl⟩ := List.mem_ofFn.1 hy
   obtain ⟨_, _, hw, _⟩ := Classical.choose_spec (hone i)
   exact hw
/-- A slice argument, opened. -/
theorem open_row {P : Program} {t e : TypeId} {α : Type} {d : Kd α} {wf : α → Prop} {H : Type} {enc : TypeId × Value → H} {W : World} {base : Nat} {sp : Nat → Bool} {held : Bool} {a : Option Addr} {len cap : Nat} {x : DataW H} {ps : List MemPlace}
  (hu : P.underlying t = some (.slice e)) (hd : ∀ n, RdF P n e d wf) (hsz : P.cellsOf e = d.sz) (h : DataW.Trod enc P W base sp held t (.slice a len cap) x ps) :
  ∃ l : List α, l.length = len ∧ len ≤ cap ∧ Kd.C d W a len l ∧ ∀ y ∈ l, wf y := by
 obtain ⟨fuel, hf⟩ := h
 obtain ⟨l, ⟨A, c, hcs, hc, hC⟩, _, hw⟩ := rdF_slice hu (hd fuel) hsz H enc W base sp held fuel _ _ (by omega) hf
 simp [Value.cells] at hcs
 obtain ⟨rfl, rfl, rfl⟩ := hcs
 exact ⟨l, rfl, hc, hC, hw⟩
theorem sized_row {H : Type} {enc : TypeId × Value → H} {P : Program} {W : World} {base : Nat} {spare : Nat → Bool} {held : Bool} {t e : TypeId} {a : Option Addr} {len cap : Nat} {d : DataW H} {ps : List MemPlace} {ts : List TypeId} {ds : List (DataW H)} {j : Nat}
  (hsz : (DataW.weightsEach P ts ds).all (· ≤ reachBytes) = true) (ht : ts[j]? = some t) (hd : ds[j]? = some d) (hu : P.underlying t = some (.slice e)) {B : Nat} (hB : P.bytesOf e = B)
  (h : DataW.Trod enc P W base spare held t (.slice a len cap) d ps) : len * B ≤ 140737488351232 := by
 obtain ⟨fuel, hf⟩ := h
 rcases DataW.trod_slice hu hf with ⟨hcs, _⟩ | ⟨x, l, c, elems, rest, n, _, hcs, hx, _, hl, _, hlen, _, _, _⟩
 ·simp [Value.cells] at hcs
  obtain ⟨rfl, rfl, rfl⟩ := hcs
  simp
 ·simp [Value.cells] at hcs
  obtain ⟨rfl, rfl, rfl⟩ := hcs
  obtain ⟨hx, _⟩ := Prod.mk.inj hx
  subst hx
  have z := sized_slice hsz ht hd hu
  rw [hB] at z
  simp only [List.length_map, hlen] at z
  exact Nat.le_trans (Nat.mul_le_mul_right _ (by omega)) z
/-- A struct argument, opened. -/
theorem open_val {P : Program} {t : TypeId} {fs : Array Field} {α : Type} {d : Kd α} {wf : α → Prop} {H : Type} {enc : TypeId × Value → H} {W : World} {base b0 : Nat} {r : Reach} {sp : Nat → Bool} {held : Bool} {v : Value} {x : DataW H} {ps : List MemPlace}
  (hu : P.underlying t = some (.struct fs)) (hd : ∀ n, RdF P n t d wf) (hv : Value.okWide P W r b0 t v) (h : DataW.Trod enc P W base sp held t v x ps) :
  ∃ (y : α) (cs : List Value), v = .agg cs.toArray ∧ d.K W y cs ∧ wf y := by
 obtain ⟨fuel, hf⟩ := h
 simp only [Value.okWide, hu] at hv
 obtain ⟨cs, rfl, _, _⟩ := hv
 obtain ⟨y, hy, hw⟩ := hd (fuel + 1) H enc W base sp held fuel _ _ (by omega) hf
 exact ⟨y, cs.toList, by simp, hy, hw⟩
/-- An array argument, opened. -/
theorem open_arr {P : Program} {t : TypeId} {na : Nat} {ea : TypeId} {α : Type} {d : Kd α} {wf : α → Prop} {H : Type} {enc : TypeId × Value → H} {W : World} {base b0 : Nat} {r : Reach} {sp : Nat → Bool} {held : Bool} {v : Value} {x : DataW H} {ps : List MemPlace}
  (hu : P.underlying t = some (.array na ea)) (hd : ∀ n, RdF P n t d wf) (hv : Value.okWide P W r b0 t v) (h : DataW.Trod enc P W base sp held t v x ps) :
  ∃ (y : α) (cs : List Value), v = .agg cs.toArray ∧ d.K W y cs ∧ wf y := by
 obtain ⟨fuel, hf⟩ := h
 simp only [Value.okWide, hu] at hv
 obtain ⟨cs, rfl, _, _⟩ := hv
 obtain ⟨y, hy, hw⟩ := hd (fuel + 1) H enc W base sp held fuel _ _ (by omega) hf
 exact ⟨y, cs.toList, by simp, hy, hw⟩

def wf38 (x : S38) : Prop := (Lit.int .i16 x.f0).wf = true ∧ (Lit.int .i16 x.f1).wf = true
set_option maxRecDepth 100000 in
theorem rd38 (n : Nat) : RdF Tryd.prog n 38 k38 wf38 := by
 intro H enc W base sp held fuel cs x hf ht
 obtain ⟨xs, m, rfl, _, hl, hlen, hfs⟩ := DataW.trod_array Tryd.underlying38 ht
 have hl' : cs.length = 2 := hl.trans (by kernel_rfl)
 clear hl ht
 obtain _ | ⟨c0, cs⟩ := cs
 ·exact absurd hl' (by simp)
 obtain _ | ⟨c1, cs⟩ := cs
 ·exact absurd hl' (by simp)
 obtain _ | ⟨cx, cs⟩ := cs
 rotate_left
 ·exact absurd hl' (by simp)
 ·skip
  have e0 : Tryd.prog.cellsOf 37 = 1 := by kernel_rfl
  have z0 : DataW.trod enc Tryd.prog W base sp held m 37 (([c0, c1].drop 0).take (Tryd.prog.cellsOf 37)) = xs[0]? := by have q := hfs 0 (by decide); rw [e0] at q; rw [e0]; simpa only [Nat.zero_mul, Nat.one_mul, Nat.reduceMul] using q
  rw [List.getElem?_eq_getElem (show 0 < xs.length by rw [hlen]; decide), e0] at z0
  replace z0 : DataW.trod enc Tryd.prog W base sp held m 37 [c0] = _ := z0
  have e1 : Tryd.prog.cellsOf 37 = 1 := by kernel_rfl
  have z1 : DataW.trod enc Tryd.prog W base sp held m 37 (([c0, c1].drop 1).take (Tryd.prog.cellsOf 37)) = xs[1]? := by have q := hfs 1 (by decide); rw [e1] at q; rw [e1]; simpa only [Nat.zero_mul, Nat.one_mul, Nat.reduceMul] using q
  rw [List.getElem?_eq_getElem (show 1 < xs.length by rw [hlen]; decide), e1] at z1
  replace z1 : DataW.trod enc Tryd.prog W base sp held m 37 [c1] = _ := z1
  obtain ⟨y0, q0, w0⟩ := (rdF_int Tryd.underlying37 (m + 1)) H enc W base sp held m _ _ (by omega) z0
  obtain rfl := (List.cons.inj q0).1
  obtain ⟨y1, q1, w1⟩ := (rdF_int Tryd.underlying37 (m + 1)) H enc W base sp held m _ _ (by omega) z1
  obtain rfl := (List.cons.inj q1).1
  exact ⟨⟨y0, y1⟩, k38_mk W ⟨y0, y1⟩ , ⟨w0, w1⟩⟩
def wf40 (x : S40) : Prop := wf38 x.f0 ∧ wf38 x.f1 ∧ wf38 x.f2
set_option maxRecDepth 100000 in
theorem rd40 (n : Nat) : RdF Tryd.prog n 40 k40 wf40 := by
 intro H enc W base sp held fuel cs x hf ht
 obtain ⟨xs, m, rfl, _, hl, hlen, hfs⟩ := DataW.trod_array Tryd.underlying40 ht
 have hl' : cs.length = 6 := hl.trans (by kernel_rfl)
 clear hl ht
 obtain _ | ⟨c0, cs⟩ := cs
 ·exact absurd hl' (by simp)
 obtain _ | ⟨c1, cs⟩ := cs
 ·exact absurd hl' (by simp)
 obtain _ | ⟨c2, cs⟩ := cs
 ·exact absurd hl' (by simp)
 obtain _ | ⟨c3, cs⟩ := cs
 ·exact absurd hl' (by simp)
 obtain _ | ⟨c4, cs⟩ := cs
 ·exact absurd hl' (by simp)
 obtain _ | ⟨c5, cs⟩ := cs
 ·exact absurd hl' (by simp)
 obtain _ | ⟨cx, cs⟩ := cs
 rotate_left
 ·exact absurd hl' (by simp)
 ·skip
  have e0 : Tryd.prog.cellsOf 38 = 2 := by kernel_rfl
  have z0 : DataW.trod enc Tryd.prog W base sp held m 38 (([c0, c1, c2, c3, c4, c5].drop 0).take (Tryd.prog.cellsOf 38)) = xs[0]? := by have q := hfs 0 (by decide); rw [e0] at q; rw [e0]; simpa only [Nat.zero_mul, Nat.one_mul, Nat.reduceMul] using q
  rw [List.getElem?_eq_getElem (show 0 < xs.length by rw [hlen]; decide), e0] at z0
  replace z0 : DataW.trod enc Tryd.prog W base sp held m 38 [c0, c1] = _ := z0
  have e1 : Tryd.prog.cellsOf 38 = 2 := by kernel_rfl
  have z1 : DataW.trod enc Tryd.prog W base sp held m 38 (([c0, c1, c2, c3, c4, c5].drop 2).take (Tryd.prog.cellsOf 38)) = xs[1]? := by have q := hfs 1 (by decide); rw [e1] at q; rw [e1]; simpa only [Nat.zero_mul, Nat.one_mul, Nat.reduceMul] using q
  rw [List.getElem?_eq_getElem (show 1 < xs.length by rw [hlen]; decide), e1] at z1
  replace z1 : DataW.trod enc Tryd.prog W base sp held m 38 [c2, c3] = _ := z1
  have e2 : Tryd.prog.cellsOf 38 = 2 := by kernel_rfl
  have z2 : DataW.trod enc Tryd.prog W base sp held m 38 (([c0, c1, c2, c3, c4, c5].drop 4).take (Tryd.prog.cellsOf 38)) = xs[2]? := by have q := hfs 2 (by decide); rw [e2] at q; rw [e2]; simpa only [Nat.zero_mul, Nat.one_mul, Nat.reduceMul] using q
  rw [List.getElem?_eq_getElem (show 2 < xs.length by rw [hlen]; decide), e2] at z2
  replace z2 : DataW.trod enc Tryd.prog W base sp held m 38 [c4, c5] = _ := z2
  obtain ⟨y0, q0, w0⟩ := (rd38 (m + 1)) H enc W base sp held m _ _ (by omega) z0
  obtain ee0 := k38_open q0
  obtain ⟨rfl, rfl⟩ := (by simpa using ee0 : _)
  obtain ⟨y1, q1, w1⟩ := (rd38 (m + 1)) H enc W base sp held m _ _ (by omega) z1
  obtain ee1 := k38_open q1
  obtain ⟨rfl, rfl⟩ := (by simpa using ee1 : _)
  obtain ⟨y2, q2, w2⟩ := (rd38 (m + 1)) H enc W base sp held m _ _ (by omega) z2
  obtain ee2 := k38_open q2
  obtain ⟨rfl, rfl⟩ := (by simpa using ee2 : _)
  exact ⟨⟨y0, y1, y2⟩, k40_mk W ⟨y0, y1, y2⟩ , ⟨w0, w1, w2⟩⟩
def wf28 (x : S28) : Prop := (Lit.int .i64 x.f0).wf = true ∧ (Lit.int .i64 x.f1).wf = true
theorem rd28 (n : Nat) : RdF Tryd.prog n 28 k28 wf28 := by
 intro H enc W base sp held fuel cs x hf ht
 obtain ⟨xs, m, rfl, _, hl, hlen, hfs⟩ := DataW.trod_struct Tryd.underlying28 ht
 have hl' : cs.length = 2 := hl.trans (by kernel_rfl)
 clear hl ht
 obtain _ | ⟨c0, cs⟩ := cs
 ·exact absurd hl' (by simp)
 obtain _ | ⟨c1, cs⟩ := cs
 ·exact absurd hl' (by simp)
 obtain _ | ⟨cx, cs⟩ := cs
 rotate_left
 ·exact absurd hl' (by simp)
 ·skip
  have e0 : Tryd.prog.cellsOf 3 = 1 := by kernel_rfl
  have z0 : DataW.trod enc Tryd.prog W base sp held m 3 (([c0, c1].drop 0).take (Tryd.prog.cellsOf 3)) = xs[0]? := hfs 0 _ rfl
  rw [List.getElem?_eq_getElem (show 0 < xs.length by rw [hlen]; decide), e0] at z0
  replace z0 : DataW.trod enc Tryd.prog W base sp held m 3 [c0] = _ := z0
  have e1 : Tryd.prog.cellsOf 3 = 1 := by kernel_rfl
  have z1 : DataW.trod enc Tryd.prog W base sp held m 3 (([c0, c1].drop 1).take (Tryd.prog.cellsOf 3)) = xs[1]? := hfs 1 _ rfl
  rw [List.getElem?_eq_getElem (show 1 < xs.length by rw [hlen]; decide), e1] at z1
  replace z1 : DataW.trod enc Tryd.prog W base sp held m 3 [c1] = _ := z1
  obtain ⟨y0, q0, w0⟩ := (rdF_int Tryd.underlying3 (m + 1)) H enc W base sp held m _ _ (by omega) z0
  obtain rfl := (List.cons.inj q0).1
  obtain ⟨y1, q1, w1⟩ := (rdF_int Tryd.underlying3 (m + 1)) H enc W base sp held m _ _ (by omega) z1
  obtain rfl := (List.cons.inj q1).1
  exact ⟨⟨y0, y1⟩, k28_mk W ⟨y0, y1⟩ , ⟨w0, w1⟩⟩
def wf63 (x : S63) : Prop := (Lit.int .i8 x.f0).wf = true ∧ (Lit.int .i8 x.f1).wf = true
set_option maxRecDepth 100000 in
theorem rd63 (n : Nat) : RdF Tryd.prog n 63 k63 wf63 := by
 intro H enc W base sp held fuel cs x hf ht
 obtain ⟨xs, m, rfl, _, hl, hlen, hfs⟩ := DataW.trod_array Tryd.underlying63 ht
 have hl' : cs.length = 2 := hl.trans (by kernel_rfl)
 clear hl ht
 obtain _ | ⟨c0, cs⟩ := cs
 ·exact absurd hl' (by simp)
 obtain _ | ⟨c1, cs⟩ := cs
 ·exact absurd hl' (by simp)
 obtain _ | ⟨cx, cs⟩ := cs
 rotate_left
 ·exact absurd hl' (by simp)
 ·skip
  have e0 : Tryd.prog.cellsOf 62 = 1 := by kernel_rfl
  have z0 : DataW.trod enc Tryd.prog W base sp held m 62 (([c0, c1].drop 0).take (Tryd.prog.cellsOf 62)) = xs[0]? := by have q := hfs 0 (by decide); rw [e0] at q; rw [e0]; simpa only [Nat.zero_mul, Nat.one_mul, Nat.reduceMul] using q
  rw [List.getElem?_eq_getElem (show 0 < xs.length by rw [hlen]; decide), e0] at z0
  replace z0 : DataW.trod enc Tryd.prog W base sp held m 62 [c0] = _ := z0
  have e1 : Tryd.prog.cellsOf 62 = 1 := by kernel_rfl
  have z1 : DataW.trod enc Tryd.prog W base sp held m 62 (([c0, c1].drop 1).take (Tryd.prog.cellsOf 62)) = xs[1]? := by have q := hfs 1 (by decide); rw [e1] at q; rw [e1]; simpa only [Nat.zero_mul, Nat.one_mul, Nat.reduceMul] using q
  rw [List.getElem?_eq_getElem (show 1 < xs.length by rw [hlen]; decide), e1] at z1
  replace z1 : DataW.trod enc Tryd.prog W base sp held m 62 [c1] = _ := z1
  obtain ⟨y0, q0, w0⟩ := (rdF_int Tryd.underlying62 (m + 1)) H enc W base sp held m _ _ (by omega) z0
  obtain rfl := (List.cons.inj q0).1
  obtain ⟨y1, q1, w1⟩ := (rdF_int Tryd.underlying62 (m + 1)) H enc W base sp held m _ _ (by omega) z1
  obtain rfl := (List.cons.inj q1).1
  exact ⟨⟨y0, y1⟩, k63_mk W ⟨y0, y1⟩ , ⟨w0, w1⟩⟩
end Go.Proofs.YtoieknocpphjoaaDoor.P
