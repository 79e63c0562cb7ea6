--m
/- Written by wip/tool/hprint.py (the kit's print.py with hand-proved contracts set in): contracts of the functions that the statements of this seat reach, without conditions beyond those named in each theorem. -/
import Derived.Test.YtikgflpobacndaaProg
import Derived.Below
import Derived.Deep.Draws
import Derived.Deep.AppendLies
import Derived.Maps.AppendAt
import Derived.OwnWalk
import Derived.Laws.BytesArg
import Derived.Laws.MakeOwn
import Derived.Laws.OwnMore
import Derived.Deep.OwnRows
import Derived.Tactics
import Derived.Lib.ConvBytes
import Derived.Laws.Slices
import Derived.WalkKit
import Derived.KernelRfl
import Derived.RowKit3
import Derived.Deep.LoopGhost
import Derived.Deep.QuietTactic
import Derived.BigQuiet
import Derived.WideLaws
import Derived.Deep.DeepCutAuto
import Derived.Deep.CutBlock
import Derived.Deep.RegionHeld3
import Derived.Laws.Rows
import Derived.Lib.AppendStr
import Derived.ArgAppend
import Derived.Laws.IdiomCopy
import Derived.OrdersHeld
import Derived.Laws.BitsLemmas
import Derived.RowKit
import Derived.Test.YtikgflpobacndaaV1
namespace Go.Proofs.Ytikgflpobacndaa.P
open Go.RowKit Go.Proofs.YtikgflpobacndaaW.PrintWords Go.Proofs.YtikgflpobacndaaW.PrintLast Go.Proofs.YtikgflpobacndaaW.PrintMore
attribute [local go_sem] zaz zaA zaB zaC zaD zaE zaF zaG   -- for this text's walks alone
set_option linter.unusedVariables false
set_option linter.unusedSimpArgs false



def errW : Option Int → Value
 | none => .nilIface
 | some c => .iface 0 (.int .i64 c)
theorem errW_none : errW none = .nilIface := rfl
theorem errW_some (c : Int) : errW (some c) = .iface 0 (.int .i64 c) := rfl

theorem info3 : (Try.prog.info? 3).map (fun i => (i.zero, i.size, i.bytes)) = some (some (.int .i64 0), 1, 8) := by kernel_rfl
theorem info9 : (Try.prog.info? 9).map (fun i => (i.zero, i.size, i.bytes)) = some (some (.string ⟨#[]⟩), 1, 16) := by kernel_rfl
theorem info24 : (Try.prog.info? 24).map (fun i => (i.zero, i.size, i.bytes)) = some (some (.agg #[(.int .i64 0), (.string ⟨#[]⟩), (.int .i64 0), (.slice none 0 0)]), 4, 56) := by kernel_rfl
theorem info25 : (Try.prog.info? 25).map (fun i => (i.zero, i.size, i.bytes)) = some (some (.slice none 0 0), 1, 24) := by kernel_rfl
theorem info27 : (Try.prog.info? 27).map (fun i => (i.zero, i.size, i.bytes)) = some (some (.agg #[(.int .i64 0), (.slice none 0 0), (.int .i64 0), (.int .i64 0), (.slice none 0 0), (.int .i64 0), (.string ⟨#[]⟩), (.string ⟨#[]⟩)]), 8, 112) := by kernel_rfl
-- the values' own types
def rd_L1 (xs : List (List Int)) (i : Int) : (List Int) := xs.getD i.toNat ([] : List Int)
theorem at_L1 {w : World} {A : Option Addr} {n : Nat} {xs : List (List Int)} (h : Kd.C (Kd.slice 3 (Kd.int .i64)) w A n xs) (i : Int) (h0 : 0 ≤ i) (h1 : i < n) : ∃ ad A0 c0, A = some ad ∧ w.cell? (ad.add i.toNat) = some (.slice A0 (rd_L1 xs i).length c0) ∧ (rd_L1 xs i).length ≤ c0 ∧ (Kd.int .i64).C w A0 (rd_L1 xs i).length (rd_L1 xs i) := by
 obtain ⟨ad, c, e, _, hK, hc0⟩ := Kd.C_get h ([] : List Int) i h0 h1
 have hc : ∀ j u, c[j]? = some u → w.cell? (ad.add (i.toNat * 1 + j)) = some u := hc0
 obtain ⟨A0, c0, rfl, l0, g0⟩ := hK
 exact ⟨ad, A0, c0, e, by have hq := hc 0 _ rfl; rwa [Nat.mul_one, Nat.add_zero] at hq, l0, g0⟩

/-! #### struct type 24, nested in itself -/
structure S24 where
 f0 : Int
 f1 : ByteArray
 f2 : Int
 f3 : (List S24)
def z24 : S24 := ⟨(0 : Int), (⟨#[]⟩ : ByteArray), (0 : Int), ([] : List S24)⟩
def F24 (d : Kd S24) : Kd S24 := Kd.iso (Kd.pair (Kd.int .i64) (Kd.pair Kd.string (Kd.pair (Kd.int .i64) (Kd.slice 24 d)))) (fun x : S24 => (x.f0, x.f1, x.f2, x.f3))
theorem mono24 : Kd.Mono F24 := Kd.mono_iso _ (Kd.mono_pair (Kd.mono_const _) (Kd.mono_pair (Kd.mono_const _) (Kd.mono_pair (Kd.mono_const _) (Kd.mono_slice 24 Kd.mono_id))))
theorem sub24 : Kd.Sub F24 [24] := Kd.sub_iso _ (Kd.sub_pair (Kd.sub_const _ (by decide)) (Kd.sub_pair (Kd.sub_const _ (by decide)) (Kd.sub_pair (Kd.sub_const _ (by decide)) (Kd.sub_slice 24 (by decide) Kd.sub_id))))
theorem sz24 : ∀ n, (Kd.upto F24 4 [24] n).sz = 4 := Kd.upto_sz (fun _ => rfl)
def k24 : Kd S24 := Kd.fix F24 4 [24] sz24 (Kd.upto_E sub24)
theorem k24_heap : Kd.Heap k24 := Kd.heap_fix (fun _ h_ => Kd.heap_iso _ (Kd.heap_pair (Kd.heap_int .i64) (Kd.heap_pair Kd.heap_string (Kd.heap_pair (Kd.heap_int .i64) (Kd.heap_slice 24 h_)))))
theorem k24_open {w : World} {x : S24} {cs : List Value} (h : k24.K w x cs) : ∃ A3 c3, cs = [.int .i64 x.f0, .string x.f1, .int .i64 x.f2, .slice A3 x.f3.length c3] ∧ x.f3.length ≤ c3 ∧ k24.C w A3 x.f3.length x.f3 := by
 obtain ⟨n, h⟩ := h
 cases n with
 | zero => exact h.elim
 | succ n =>
  obtain ⟨_, _, rfl, rfl, ⟨_, _, rfl, rfl, ⟨_, _, rfl, rfl, ⟨A3, c3, rfl, l3, g3⟩⟩⟩⟩ := h
  exact ⟨A3, c3, rfl, l3, Kd.fix_C g3⟩
theorem k24_openM {w : World} {base : Nat} {ok : Nat → Prop} {x : S24} {cs : List Value} (h : k24.M w base ok x cs) : ∃ v3, cs = [.int .i64 x.f0, .string x.f1, .int .i64 x.f2, v3] ∧ k24.R 24 w base ok v3 x.f3 := by
 obtain ⟨n, h⟩ := h
 cases n with
 | zero => exact h.elim
 | succ n =>
  obtain ⟨_, _, rfl, rfl, ⟨_, _, rfl, rfl, ⟨_, _, rfl, rfl, ⟨v3, rfl, g3⟩⟩⟩⟩ := h
  exact ⟨v3, rfl, Kd.fix_R g3⟩
theorem k24_mk (w : World) (x : S24) {A3 : Option Addr} {c3 : Nat} (l3 : x.f3.length ≤ c3) (g3 : k24.C w A3 x.f3.length x.f3) : k24.K w x [.int .i64 x.f0, .string x.f1, .int .i64 x.f2, .slice A3 x.f3.length c3] := by
 obtain ⟨n3, q3⟩ := Kd.fix_C_back mono24 g3
 have r3 := Kd.upto_C_le mono24 sz24 (show n3 ≤ n3 by omega) q3
 exact ⟨n3 + 1, ⟨[.int .i64 x.f0], [.string x.f1, .int .i64 x.f2, .slice A3 x.f3.length c3], rfl, rfl, ⟨[.string x.f1], [.int .i64 x.f2, .slice A3 x.f3.length c3], rfl, rfl, ⟨[.int .i64 x.f2], [.slice A3 x.f3.length c3], rfl, rfl, ⟨A3, c3, rfl, l3, r3⟩⟩⟩⟩⟩
theorem k24_mkM (w : World) (base : Nat) (ok : Nat → Prop) (x : S24) {v3 : Value} (g3 : k24.R 24 w base ok v3 x.f3) : k24.M w base ok x [.int .i64 x.f0, .string x.f1, .int .i64 x.f2, v3] := by
 obtain ⟨n3, q3⟩ := Kd.fix_R_back mono24 g3
 have r3 := Kd.upto_R_le mono24 sz24 (show n3 ≤ n3 by omega) q3
 exact ⟨n3 + 1, ⟨[.int .i64 x.f0], [.string x.f1, .int .i64 x.f2, v3], rfl, rfl, ⟨[.string x.f1], [.int .i64 x.f2, v3], rfl, rfl, ⟨[.int .i64 x.f2], [v3], rfl, rfl, ⟨v3, rfl, r3⟩⟩⟩⟩⟩
theorem k24_openF {W : World} {ok : Nat → Prop} {x : S24} {cs : List Value} (h : Kd.FK k24 W ok x cs) : ∃ A3 c3, cs = [.int .i64 x.f0, .string x.f1, .int .i64 x.f2, .slice A3 x.f3.length c3] ∧ x.f3.length ≤ c3 ∧ Kd.F k24 W ok A3 x.f3.length x.f3 := by
 obtain ⟨A3, c3, rfl, l3, _⟩ := k24_open (Kd.FK_now h)
 exact ⟨A3, c3, rfl, l3, (fun W' hW => by obtain ⟨A3_, c3_, he, l3_, g3_⟩ := k24_open (h W' hW); injection (Option.some.inj (show some (Value.slice A3 x.f3.length c3) = some (Value.slice A3_ x.f3.length c3_) from congrArg (fun l => l[3]?) he)) with ha_ _ _; rw [ha_]; exact g3_)⟩
theorem k24_mkF (W : World) (ok : Nat → Prop) (x : S24) {A3 : Option Addr} {c3 : Nat} (l3 : x.f3.length ≤ c3) (g3 : Kd.F k24 W ok A3 x.f3.length x.f3) : Kd.FK k24 W ok x [.int .i64 x.f0, .string x.f1, .int .i64 x.f2, .slice A3 x.f3.length c3] := fun W2 hW => k24_mk W2 x l3 (g3 W2 hW)
def rd_T24 (xs : List S24) (i : Int) : S24 := xs.getD i.toNat z24
theorem at_T24 {w : World} {A : Option Addr} {n : Nat} {xs : List S24} (h : Kd.C k24 w A n xs) (i : Int) (h0 : 0 ≤ i) (h1 : i < n) : ∃ ad A3 c3, A = some ad ∧ w.cell? (ad.add (i.toNat * 4)) = some (.int .i64 (rd_T24 xs i).f0) ∧ w.cell? ⟨(ad.add (i.toNat * 4)).block, (ad.add (i.toNat * 4)).off + 1, none⟩ = some (.string (rd_T24 xs i).f1) ∧ w.cell? ⟨(ad.add (i.toNat * 4)).block, (ad.add (i.toNat * 4)).off + 2, none⟩ = some (.int .i64 (rd_T24 xs i).f2) ∧ w.cell? ⟨(ad.add (i.toNat * 4)).block, (ad.add (i.toNat * 4)).off + 3, none⟩ = some (.slice A3 (rd_T24 xs i).f3.length c3) ∧ (rd_T24 xs i).f3.length ≤ c3 ∧ k24.C w A3 (rd_T24 xs i).f3.length (rd_T24 xs i).f3 := by
 obtain ⟨ad, c, e, _, hK, hc0⟩ := Kd.C_get h z24 i h0 h1
 have hc : ∀ j u, c[j]? = some u → w.cell? (ad.add (i.toNat * 4 + j)) = some u := hc0
 obtain ⟨A3, c3, rfl, l3, g3⟩ := k24_open hK
 exact ⟨ad, A3, c3, e, hc 0 _ rfl, by rw [← zaO _ _ 1 (by omega)]; exact hc 1 _ rfl, by rw [← zaO _ _ 2 (by omega)]; exact hc 2 _ rfl, by rw [← zaO _ _ 3 (by omega)]; exact hc 3 _ rfl, l3, g3⟩

def rd_L4 (xs : List (List S24)) (i : Int) : (List S24) := xs.getD i.toNat ([] : List S24)
theorem at_L4 {w : World} {A : Option Addr} {n : Nat} {xs : List (List S24)} (h : Kd.C (Kd.slice 24 k24) w A n xs) (i : Int) (h0 : 0 ≤ i) (h1 : i < n) : ∃ ad A0 c0, A = some ad ∧ w.cell? (ad.add i.toNat) = some (.slice A0 (rd_L4 xs i).length c0) ∧ (rd_L4 xs i).length ≤ c0 ∧ k24.C w A0 (rd_L4 xs i).length (rd_L4 xs i) := by
 obtain ⟨ad, c, e, _, hK, hc0⟩ := Kd.C_get h ([] : List S24) i h0 h1
 have hc : ∀ j u, c[j]? = some u → w.cell? (ad.add (i.toNat * 1 + j)) = some u := hc0
 obtain ⟨A0, c0, rfl, l0, g0⟩ := hK
 exact ⟨ad, A0, c0, e, by have hq := hc 0 _ rfl; rwa [Nat.mul_one, Nat.add_zero] at hq, l0, g0⟩

/-! #### struct type 27 -/
structure S27 where
 f0 : Int
 f1 : (List Int)
 f2 : Int
 f3 : Int
 f4 : (List S24)
 f5 : Int
 f6 : ByteArray
 f7 : ByteArray
def z27 : S27 := ⟨(0 : Int), ([] : List Int), (0 : Int), (0 : Int), ([] : List S24), (0 : Int), (⟨#[]⟩ : ByteArray), (⟨#[]⟩ : ByteArray)⟩
def k27 : Kd S27 := Kd.iso (Kd.pair (Kd.int .i64) (Kd.pair (Kd.slice 3 (Kd.int .i64)) (Kd.pair (Kd.int .i64) (Kd.pair (Kd.int .i64) (Kd.pair (Kd.slice 24 k24) (Kd.pair (Kd.int .i64) (Kd.pair Kd.string Kd.string))))))) (fun x : S27 => (x.f0, x.f1, x.f2, x.f3, x.f4, x.f5, x.f6, x.f7))
theorem k27_heap : Kd.Heap k27 := Kd.heap_iso _ (Kd.heap_pair (Kd.heap_int .i64) (Kd.heap_pair (Kd.heap_slice 3 (Kd.heap_int .i64)) (Kd.heap_pair (Kd.heap_int .i64) (Kd.heap_pair (Kd.heap_int .i64) (Kd.heap_pair (Kd.heap_slice 24 k24_heap) (Kd.heap_pair (Kd.heap_int .i64) (Kd.heap_pair Kd.heap_string Kd.heap_string)))))))
theorem k27_open {w : World} {x : S27} {cs : List Value} (h : k27.K w x cs) : ∃ A1 c1 A4 c4, cs = [.int .i64 x.f0, .slice A1 x.f1.length c1, .int .i64 x.f2, .int .i64 x.f3, .slice A4 x.f4.length c4, .int .i64 x.f5, .string x.f6, .string x.f7] ∧ x.f1.length ≤ c1 ∧ (Kd.int .i64).C w A1 x.f1.length x.f1 ∧ x.f4.length ≤ c4 ∧ k24.C w A4 x.f4.length x.f4 := by
 obtain ⟨_, _, rfl, rfl, ⟨_, _, rfl, ⟨A1, c1, rfl, l1, g1⟩, ⟨_, _, rfl, rfl, ⟨_, _, rfl, rfl, ⟨_, _, rfl, ⟨A4, c4, rfl, l4, g4⟩, ⟨_, _, rfl, rfl, ⟨_, _, rfl, rfl, rfl⟩⟩⟩⟩⟩⟩⟩ := h
 exact ⟨A1, c1, A4, c4, rfl, l1, g1, l4, g4⟩
theorem k27_openM {w : World} {base : Nat} {ok : Nat → Prop} {x : S27} {cs : List Value} (h : k27.M w base ok x cs) : ∃ v1 v4, cs = [.int .i64 x.f0, v1, .int .i64 x.f2, .int .i64 x.f3, v4, .int .i64 x.f5, .string x.f6, .string x.f7] ∧ (Kd.int .i64).R 3 w base ok v1 x.f1 ∧ k24.R 24 w base ok v4 x.f4 := by
 obtain ⟨_, _, rfl, rfl, ⟨_, _, rfl, ⟨v1, rfl, g1⟩, ⟨_, _, rfl, rfl, ⟨_, _, rfl, rfl, ⟨_, _, rfl, ⟨v4, rfl, g4⟩, ⟨_, _, rfl, rfl, ⟨_, _, rfl, rfl, rfl⟩⟩⟩⟩⟩⟩⟩ := h
 exact ⟨v1, v4, rfl, g1, g4⟩
theorem k27_mk (w : World) (x : S27) {A1 : Option Addr} {c1 : Nat} (l1 : x.f1.length ≤ c1) (g1 : (Kd.int .i64).C w A1 x.f1.length x.f1) {A4 : Option Addr} {c4 : Nat} (l4 : x.f4.length ≤ c4) (g4 : k24.C w A4 x.f4.length x.f4) : k27.K w x [.int .i64 x.f0, .slice A1 x.f1.length c1, .int .i64 x.f2, .int .i64 x.f3, .slice A4 x.f4.length c4, .int .i64 x.f5, .string x.f6, .string x.f7] := ⟨[.int .i64 x.f0], [.slice A1 x.f1.length c1, .int .i64 x.f2, .int .i64 x.f3, .slice A4 x.f4.length c4, .int .i64 x.f5, .string x.f6, .string x.f7], rfl, rfl, ⟨[.slice A1 x.f1.length c1], [.int .i64 x.f2, .int .i64 x.f3, .slice A4 x.f4.length c4, .int .i64 x.f5, .string x.f6, .string x.f7], rfl, ⟨A1, c1, rfl, l1, g1⟩, ⟨[.int .i64 x.f2], [.int .i64 x.f3, .slice A4 x.f4.length c4, .int .i64 x.f5, .string x.f6, .string x.f7], rfl, rfl, ⟨[.int .i64 x.f3], [.slice A4 x.f4.length c4, .int .i64 x.f5, .string x.f6, .string x.f7], rfl, rfl, ⟨[.slice A4 x.f4.length c4], [.int .i64 x.f5, .string x.f6, .string x.f7], rfl, ⟨A4, c4, rfl, l4, g4⟩, ⟨[.int .i64 x.f5], [.string x.f6, .string x.f7], rfl, rfl, ⟨[.string x.f6], [.string x.f7], rfl, rfl, rfl⟩⟩⟩⟩⟩⟩⟩
theorem k27_mkM (w : World) (base : Nat) (ok : Nat → Prop) (x : S27) {v1 : Value} (g1 : (Kd.int .i64).R 3 w base ok v1 x.f1) {v4 : Value} (g4 : k24.R 24 w base ok v4 x.f4) : k27.M w base ok x [.int .i64 x.f0, v1, .int .i64 x.f2, .int .i64 x.f3, v4, .int .i64 x.f5, .string x.f6, .string x.f7] := ⟨[.int .i64 x.f0], [v1, .int .i64 x.f2, .int .i64 x.f3, v4, .int .i64 x.f5, .string x.f6, .string x.f7], rfl, rfl, ⟨[v1], [.int .i64 x.f2, .int .i64 x.f3, v4, .int .i64 x.f5, .string x.f6, .string x.f7], rfl, ⟨v1, rfl, g1⟩, ⟨[.int .i64 x.f2], [.int .i64 x.f3, v4, .int .i64 x.f5, .string x.f6, .string x.f7], rfl, rfl, ⟨[.int .i64 x.f3], [v4, .int .i64 x.f5, .string x.f6, .string x.f7], rfl, rfl, ⟨[v4], [.int .i64 x.f5, .string x.f6, .string x.f7], rfl, ⟨v4, rfl, g4⟩, ⟨[.int .i64 x.f5], [.string x.f6, .string x.f7], rfl, rfl, ⟨[.string x.f6], [.string x.f7], rfl, rfl, rfl⟩⟩⟩⟩⟩⟩⟩
theorem k27_openF {W : World} {ok : Nat → Prop} {x : S27} {cs : List Value} (h : Kd.FK k27 W ok x cs) : ∃ A1 c1 A4 c4, cs = [.int .i64 x.f0, .slice A1 x.f1.length c1, .int .i64 x.f2, .int .i64 x.f3, .slice A4 x.f4.length c4, .int .i64 x.f5, .string x.f6, .string x.f7] ∧ x.f1.length ≤ c1 ∧ Kd.F (Kd.int .i64) W ok A1 x.f1.length x.f1 ∧ x.f4.length ≤ c4 ∧ Kd.F k24 W ok A4 x.f4.length x.f4 := by
 obtain ⟨A1, c1, A4, c4, rfl, l1, _, l4, _⟩ := k27_open (Kd.FK_now h)
 exact ⟨A1, c1, A4, c4, rfl, l1, (fun W' hW => by obtain ⟨A1_, c1_, A4_, c4_, he, l1_, g1_, l4_, g4_⟩ := k27_open (h W' hW); injection (Option.some.inj (show some (Value.slice A1 x.f1.length c1) = some (Value.slice A1_ x.f1.length c1_) from congrArg (fun l => l[1]?) he)) with ha_ _ _; rw [ha_]; exact g1_), l4, (fun W' hW => by obtain ⟨A1_, c1_, A4_, c4_, he, l1_, g1_, l4_, g4_⟩ := k27_open (h W' hW); injection (Option.some.inj (show some (Value.slice A4 x.f4.length c4) = some (Value.slice A4_ x.f4.length c4_) from congrArg (fun l => l[4]?) he)) with ha_ _ _; rw [ha_]; exact g4_)⟩
theorem k27_mkF (W : World) (ok : Nat → Prop) (x : S27) {A1 : Option Addr} {c1 : Nat} (l1 : x.f1.length ≤ c1) (g1 : Kd.F (Kd.int .i64) W ok A1 x.f1.length x.f1) {A4 : Option Addr} {c4 : Nat} (l4 : x.f4.length ≤ c4) (g4 : Kd.F k24 W ok A4 x.f4.length x.f4) : Kd.FK k27 W ok x [.int .i64 x.f0, .slice A1 x.f1.length c1, .int .i64 x.f2, .int .i64 x.f3, .slice A4 x.f4.length c4, .int .i64 x.f5, .string x.f6, .string x.f7] := fun W2 hW => k27_mk W2 x l1 (g1 W2 hW) l4 (g4 W2 hW)
def rd_T27 (xs : List S27) (i : Int) : S27 := xs.getD i.toNat z27
theorem at_T27 {w : World} {A : Option Addr} {n : Nat} {xs : List S27} (h : Kd.C k27 w A n xs) (i : Int) (h0 : 0 ≤ i) (h1 : i < n) : ∃ ad A1 c1 A4 c4, A = some ad ∧ w.cell? (ad.add (i.toNat * 8)) = some (.int .i64 (rd_T27 xs i).f0) ∧ w.cell? ⟨(ad.add (i.toNat * 8)).block, (ad.add (i.toNat * 8)).off + 1, none⟩ = some (.slice A1 (rd_T27 xs i).f1.length c1) ∧ w.cell? ⟨(ad.add (i.toNat * 8)).block, (ad.add (i.toNat * 8)).off + 2, none⟩ = some (.int .i64 (rd_T27 xs i).f2) ∧ w.cell? ⟨(ad.add (i.toNat * 8)).block, (ad.add (i.toNat * 8)).off + 3, none⟩ = some (.int .i64 (rd_T27 xs i).f3) ∧ w.cell? ⟨(ad.add (i.toNat * 8)).block, (ad.add (i.toNat * 8)).off + 4, none⟩ = some (.slice A4 (rd_T27 xs i).f4.length c4) ∧ w.cell? ⟨(ad.add (i.toNat * 8)).block, (ad.add (i.toNat * 8)).off + 5, none⟩ = some (.int .i64 (rd_T27 xs i).f5) ∧ w.cell? ⟨(ad.add (i.toNat * 8)).block, (ad.add (i.toNat * 8)).off + 6, none⟩ = some (.string (rd_T27 xs i).f6) ∧ w.cell? ⟨(ad.add (i.toNat * 8)).block, (ad.add (i.toNat * 8)).off + 7, none⟩ = some (.string (rd_T27 xs i).f7) ∧ (rd_T27 xs i).f1.length ≤ c1 ∧ (Kd.int .i64).C w A1 (rd_T27 xs i).f1.length (rd_T27 xs i).f1 ∧ (rd_T27 xs i).f4.length ≤ c4 ∧ k24.C w A4 (rd_T27 xs i).f4.length (rd_T27 xs i).f4 := by
 obtain ⟨ad, c, e, _, hK, hc0⟩ := Kd.C_get h z27 i h0 h1
 have hc : ∀ j u, c[j]? = some u → w.cell? (ad.add (i.toNat * 8 + j)) = some u := hc0
 obtain ⟨A1, c1, A4, c4, rfl, l1, g1, l4, g4⟩ := k27_open hK
 exact ⟨ad, A1, c1, A4, c4, e, hc 0 _ rfl, by rw [← zaO _ _ 1 (by omega)]; exact hc 1 _ rfl, by rw [← zaO _ _ 2 (by omega)]; exact hc 2 _ rfl, by rw [← zaO _ _ 3 (by omega)]; exact hc 3 _ rfl, by rw [← zaO _ _ 4 (by omega)]; exact hc 4 _ rfl, by rw [← zaO _ _ 5 (by omega)]; exact hc 5 _ rfl, by rw [← zaO _ _ 6 (by omega)]; exact hc 6 _ rfl, by rw [← zaO _ _ 7 (by omega)]; exact hc 7 _ rfl, l1, g1, l4, g4⟩

/-! #### struct type 65 -/
structure S65 where
 f0 : S27
 f1 : Int
 f2 : Int
 f3 : (List Int)
def z65 : S65 := ⟨z27, (0 : Int), (0 : Int), ([] : List Int)⟩
def k65 : Kd S65 := Kd.iso (Kd.pair k27 (Kd.pair (Kd.int .i64) (Kd.pair (Kd.int .i64) (Kd.slice 3 (Kd.int .i64))))) (fun x : S65 => (x.f0, x.f1, x.f2, x.f3))
theorem k65_heap : Kd.Heap k65 := Kd.heap_iso _ (Kd.heap_pair k27_heap (Kd.heap_pair (Kd.heap_int .i64) (Kd.heap_pair (Kd.heap_int .i64) (Kd.heap_slice 3 (Kd.heap_int .i64)))))
theorem k65_open {w : World} {x : S65} {cs : List Value} (h : k65.K w x cs) : ∃ A1 c1 A4 c4 A10 c10, cs = [.int .i64 x.f0.f0, .slice A1 x.f0.f1.length c1, .int .i64 x.f0.f2, .int .i64 x.f0.f3, .slice A4 x.f0.f4.length c4, .int .i64 x.f0.f5, .string x.f0.f6, .string x.f0.f7, .int .i64 x.f1, .int .i64 x.f2, .slice A10 x.f3.length c10] ∧ x.f0.f1.length ≤ c1 ∧ (Kd.int .i64).C w A1 x.f0.f1.length x.f0.f1 ∧ x.f0.f4.length ≤ c4 ∧ k24.C w A4 x.f0.f4.length x.f0.f4 ∧ x.f3.length ≤ c10 ∧ (Kd.int .i64).C w A10 x.f3.length x.f3 := by
 obtain ⟨_, _, rfl, s0, ⟨_, _, rfl, rfl, ⟨_, _, rfl, rfl, ⟨A10, c10, rfl, l10, g10⟩⟩⟩⟩ := h
 obtain ⟨A1, c1, A4, c4, rfl, l1, g1, l4, g4⟩ := k27_open s0
 exact ⟨A1, c1, A4, c4, A10, c10, rfl, l1, g1, l4, g4, l10, g10⟩
theorem k65_openM {w : World} {base : Nat} {ok : Nat → Prop} {x : S65} {cs : List Value} (h : k65.M w base ok x cs) : ∃ v1 v4 v10, cs = [.int .i64 x.f0.f0, v1, .int .i64 x.f0.f2, .int .i64 x.f0.f3, v4, .int .i64 x.f0.f5, .string x.f0.f6, .string x.f0.f7, .int .i64 x.f1, .int .i64 x.f2, v10] ∧ (Kd.int .i64).R 3 w base ok v1 x.f0.f1 ∧ k24.R 24 w base ok v4 x.f0.f4 ∧ (Kd.int .i64).R 3 w base ok v10 x.f3 := by
 obtain ⟨_, _, rfl, s0, ⟨_, _, rfl, rfl, ⟨_, _, rfl, rfl, ⟨v10, rfl, g10⟩⟩⟩⟩ := h
 obtain ⟨v1, v4, rfl, g1, g4⟩ := k27_openM s0
 exact ⟨v1, v4, v10, rfl, g1, g4, g10⟩
theorem k65_mk (w : World) (x : S65) {A1 : Option Addr} {c1 : Nat} (l1 : x.f0.f1.length ≤ c1) (g1 : (Kd.int .i64).C w A1 x.f0.f1.length x.f0.f1) {A4 : Option Addr} {c4 : Nat} (l4 : x.f0.f4.length ≤ c4) (g4 : k24.C w A4 x.f0.f4.length x.f0.f4) {A10 : Option Addr} {c10 : Nat} (l10 : x.f3.length ≤ c10) (g10 : (Kd.int .i64).C w A10 x.f3.length x.f3) : k65.K w x [.int .i64 x.f0.f0, .slice A1 x.f0.f1.length c1, .int .i64 x.f0.f2, .int .i64 x.f0.f3, .slice A4 x.f0.f4.length c4, .int .i64 x.f0.f5, .string x.f0.f6, .string x.f0.f7, .int .i64 x.f1, .int .i64 x.f2, .slice A10 x.f3.length c10] := ⟨[.int .i64 x.f0.f0, .slice A1 x.f0.f1.length c1, .int .i64 x.f0.f2, .int .i64 x.f0.f3, .slice A4 x.f0.f4.length c4, .int .i64 x.f0.f5, .string x.f0.f6, .string x.f0.f7], [.int .i64 x.f1, .int .i64 x.f2, .slice A10 x.f3.length c10], rfl, (k27_mk w x.f0 l1 g1 l4 g4), ⟨[.int .i64 x.f1], [.int .i64 x.f2, .slice A10 x.f3.length c10], rfl, rfl, ⟨[.int .i64 x.f2], [.slice A10 x.f3.length c10], rfl, rfl, ⟨A10, c10, rfl, l10, g10⟩⟩⟩⟩
theorem k65_mkM (w : World) (base : Nat) (ok : Nat → Prop) (x : S65) {v1 : Value} (g1 : (Kd.int .i64).R 3 w base ok v1 x.f0.f1) {v4 : Value} (g4 : k24.R 24 w base ok v4 x.f0.f4) {v10 : Value} (g10 : (Kd.int .i64).R 3 w base ok v10 x.f3) : k65.M w base ok x [.int .i64 x.f0.f0, v1, .int .i64 x.f0.f2, .int .i64 x.f0.f3, v4, .int .i64 x.f0.f5, .string x.f0.f6, .string x.f0.f7, .int .i64 x.f1, .int .i64 x.f2, v10] := ⟨[.int .i64 x.f0.f0, v1, .int .i64 x.f0.f2, .int .i64 x.f0.f3, v4, .int .i64 x.f0.f5, .string x.f0.f6, .string x.f0.f7], [.int .i64 x.f1, .int .i64 x.f2, v10], rfl, (k27_mkM w base ok x.f0 g1 g4), ⟨[.int .i64 x.f1], [.int .i64 x.f2, v10], rfl, rfl, ⟨[.int .i64 x.f2], [v10], rfl, rfl, ⟨v10, rfl, g10⟩⟩⟩⟩
theorem k65_openF {W : World} {ok : Nat → Prop} {x : S65} {cs : List Value} (h : Kd.FK k65 W ok x cs) : ∃ A1 c1 A4 c4 A10 c10, cs = [.int .i64 x.f0.f0, .slice A1 x.f0.f1.length c1, .int .i64 x.f0.f2, .int .i64 x.f0.f3, .slice A4 x.f0.f4.length c4, .int .i64 x.f0.f5, .string x.f0.f6, .string x.f0.f7, .int .i64 x.f1, .int .i64 x.f2, .slice A10 x.f3.length c10] ∧ x.f0.f1.length ≤ c1 ∧ Kd.F (Kd.int .i64) W ok A1 x.f0.f1.length x.f0.f1 ∧ x.f0.f4.length ≤ c4 ∧ Kd.F k24 W ok A4 x.f0.f4.length x.f0.f4 ∧ x.f3.length ≤ c10 ∧ Kd.F (Kd.int .i64) W ok A10 x.f3.length x.f3 := by
 obtain ⟨A1, c1, A4, c4, A10, c10, rfl, l1, _, l4, _, l10, _⟩ := k65_open (Kd.FK_now h)
 exact ⟨A1, c1, A4, c4, A10, c10, rfl, l1, (fun W' hW => by obtain ⟨A1_, c1_, A4_, c4_, A10_, c10_, he, l1_, g1_, l4_, g4_, l10_, g10_⟩ := k65_open (h W' hW); injection (Option.some.inj (show some (Value.slice A1 x.f0.f1.length c1) = some (Value.slice A1_ x.f0.f1.length c1_) from congrArg (fun l => l[1]?) he)) with ha_ _ _; rw [ha_]; exact g1_), l4, (fun W' hW => by obtain ⟨A1_, c1_, A4_, c4_, A10_, c10_, he, l1_, g1_, l4_, g4_, l10_, g10_⟩ := k65_open (h W' hW); injection (Option.some.inj (show some (Value.slice A4 x.f0.f4.length c4) = some (Value.slice A4_ x.f0.f4.length c4_) from congrArg (fun l => l[4]?) he)) with ha_ _ _; rw [ha_]; exact g4_), l10, (fun W' hW => by obtain ⟨A1_, c1_, A4_, c4_, A10_, c10_, he, l1_, g1_, l4_, g4_, l10_, g10_⟩ := k65_open (h W' hW); injection (Option.some.inj (show some (Value.slice A10 x.f3.length c10) = some (Value.slice A10_ x.f3.length c10_) from congrArg (fun l => l[10]?) he)) with ha_ _ _; rw [ha_]; exact g10_)⟩
theorem k65_mkF (W : World) (ok : Nat → Prop) (x : S65) {A1 : Option Addr} {c1 : Nat} (l1 : x.f0.f1.length ≤ c1) (g1 : Kd.F (Kd.int .i64) W ok A1 x.f0.f1.length x.f0.f1) {A4 : Option Addr} {c4 : Nat} (l4 : x.f0.f4.length ≤ c4) (g4 : Kd.F k24 W ok A4 x.f0.f4.length x.f0.f4) {A10 : Option Addr} {c10 : Nat} (l10 : x.f3.length ≤ c10) (g10 : Kd.F (Kd.int .i64) W ok A10 x.f3.length x.f3) : Kd.FK k65 W ok x [.int .i64 x.f0.f0, .slice A1 x.f0.f1.length c1, .int .i64 x.f0.f2, .int .i64 x.f0.f3, .slice A4 x.f0.f4.length c4, .int .i64 x.f0.f5, .string x.f0.f6, .string x.f0.f7, .int .i64 x.f1, .int .i64 x.f2, .slice A10 x.f3.length c10] := fun W2 hW => k65_mk W2 x l1 (g1 W2 hW) l4 (g4 W2 hW) l10 (g10 W2 hW)
def rd_T65 (xs : List S65) (i : Int) : S65 := xs.getD i.toNat z65
theorem at_T65 {w : World} {A : Option Addr} {n : Nat} {xs : List S65} (h : Kd.C k65 w A n xs) (i : Int) (h0 : 0 ≤ i) (h1 : i < n) : ∃ ad A1 c1 A4 c4 A10 c10, A = some ad ∧ w.cell? (ad.add (i.toNat * 11)) = some (.int .i64 (rd_T65 xs i).f0.f0) ∧ w.cell? ⟨(ad.add (i.toNat * 11)).block, (ad.add (i.toNat * 11)).off + 1, none⟩ = some (.slice A1 (rd_T65 xs i).f0.f1.length c1) ∧ w.cell? ⟨(ad.add (i.toNat * 11)).block, (ad.add (i.toNat * 11)).off + 2, none⟩ = some (.int .i64 (rd_T65 xs i).f0.f2) ∧ w.cell? ⟨(ad.add (i.toNat * 11)).block, (ad.add (i.toNat * 11)).off + 3, none⟩ = some (.int .i64 (rd_T65 xs i).f0.f3) ∧ w.cell? ⟨(ad.add (i.toNat * 11)).block, (ad.add (i.toNat * 11)).off + 4, none⟩ = some (.slice A4 (rd_T65 xs i).f0.f4.length c4) ∧ w.cell? ⟨(ad.add (i.toNat * 11)).block, (ad.add (i.toNat * 11)).off + 5, none⟩ = some (.int .i64 (rd_T65 xs i).f0.f5) ∧ w.cell? ⟨(ad.add (i.toNat * 11)).block, (ad.add (i.toNat * 11)).off + 6, none⟩ = some (.string (rd_T65 xs i).f0.f6) ∧ w.cell? ⟨(ad.add (i.toNat * 11)).block, (ad.add (i.toNat * 11)).off + 7, none⟩ = some (.string (rd_T65 xs i).f0.f7) ∧ w.cell? ⟨(ad.add (i.toNat * 11)).block, (ad.add (i.toNat * 11)).off + 8, none⟩ = some (.int .i64 (rd_T65 xs i).f1) ∧ w.cell? ⟨(ad.add (i.toNat * 11)).block, (ad.add (i.toNat * 11)).off + 9, none⟩ = some (.int .i64 (rd_T65 xs i).f2) ∧ w.cell? ⟨(ad.add (i.toNat * 11)).block, (ad.add (i.toNat * 11)).off + 10, none⟩ = some (.slice A10 (rd_T65 xs i).f3.length c10) ∧ (rd_T65 xs i).f0.f1.length ≤ c1 ∧ (Kd.int .i64).C w A1 (rd_T65 xs i).f0.f1.length (rd_T65 xs i).f0.f1 ∧ (rd_T65 xs i).f0.f4.length ≤ c4 ∧ k24.C w A4 (rd_T65 xs i).f0.f4.length (rd_T65 xs i).f0.f4 ∧ (rd_T65 xs i).f3.length ≤ c10 ∧ (Kd.int .i64).C w A10 (rd_T65 xs i).f3.length (rd_T65 xs i).f3 := by
 obtain ⟨ad, c, e, _, hK, hc0⟩ := Kd.C_get h z65 i h0 h1
 have hc : ∀ j u, c[j]? = some u → w.cell? (ad.add (i.toNat * 11 + j)) = some u := hc0
 obtain ⟨A1, c1, A4, c4, A10, c10, rfl, l1, g1, l4, g4, l10, g10⟩ := k65_open hK
 exact ⟨ad, A1, c1, A4, c4, A10, c10, e, hc 0 _ rfl, by rw [← zaO _ _ 1 (by omega)]; exact hc 1 _ rfl, by rw [← zaO _ _ 2 (by omega)]; exact hc 2 _ rfl, by rw [← zaO _ _ 3 (by omega)]; exact hc 3 _ rfl, by rw [← zaO _ _ 4 (by omega)]; exact hc 4 _ rfl, by rw [← zaO _ _ 5 (by omega)]; exact hc 5 _ rfl, by rw [← zaO _ _ 6 (by omega)]; exact hc 6 _ rfl, by rw [← zaO _ _ 7 (by omega)]; exact hc 7 _ rfl, by rw [← zaO _ _ 8 (by omega)]; exact hc 8 _ rfl, by rw [← zaO _ _ 9 (by omega)]; exact hc 9 _ rfl, by rw [← zaO _ _ 10 (by omega)]; exact hc 10 _ rfl, l1, g1, l4, g4, l10, g10⟩

end Go.Proofs.Ytikgflpobacndaa.P
