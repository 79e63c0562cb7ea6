--m
/- Written by wip/tool/hprint.py (the kit's print.py with hand-proved contracts set in): contracts of the functions that the statements of this seat reach, without conditions beyond those named in each theorem. -/
import Derived.Test.YtoieknocpphjoaaDoorP0
import Derived.Test.YtoieknocpphjoaaDoorP3
import Derived.Lib.ConvBytes
import Derived.Laws.AppendOwn
namespace Go.Proofs.YtoieknocpphjoaaDoor.P
open Go.RowKit Go.Proofs.YtoieknocpphjoaaDoorW.PrintWords Go.Proofs.YtoieknocpphjoaaDoorW.PrintLast Go.Proofs.YtoieknocpphjoaaDoorW.PrintMore
attribute [local go_sem] zay zaz zaA zaB zaC zaD zaE zaF   -- for this text's walks alone
set_option linter.unusedVariables false
set_option linter.unusedSimpArgs false

-- IMPORTS:
-- IMPORTS: Derived.Lib.ConvBytes Derived.Laws.AppendOwn
/-- []byte(s): a row that is only read, in a block that is new. -/
theorem v_bytes {P : Program} {ops : Array Oper} {rest : List Oper} {o : Oper} {a : Act} {Q : Exit → Act → World → Prop} {w0 W : World} (base e : Nat) (hgd : o.guard = none) {N : Tmp} (hd : o.dst = some N) (f t : TypeId) (x : Operand) (ho : o.op = .convert f t x) (s : ByteArray) (hx : a.eval x = .string s) {u : TypeDesc}
  (hs : P.underlying f = some u) (ht : P.underlying t = some (.slice e)) (he : P.underlying e = some (.int .u8)) {ok : Nat → Prop} (hfresh : ok W.heap.size) (hl : s.size ≤ 9223372036854775807) (HB : Below base w0 W) (hbase : base ≤ W.heap.size)
  (h : ∀ v1 w1, Kd.V (Kd.int .u8) e w1 base ok v1 (zax s) → Below base w0 w1 → True → (∃ b, v1.ownBlock = some b ∧ W.heap.size ≤ b) → wpList P ops Q rest (a.put o.dst v1) w1) : wpList P ops Q (o :: rest) a W := by
 refine Kd.event_run hgd (v := .slice (some ⟨W.heap.size, 0, none⟩) s.size (grownCap W s.size 0 e)) (w1 := Lib.bytesWorld W e s) ?_ (h _ _ ⟨some ⟨W.heap.size, 0, none⟩, grownCap W s.size 0 e, by rw [zaJ], by rw [zaJ]; exact grownCap_ge W s.size 0 e, fun W' hW => ?_⟩ (zaS HB hbase (below_bytesWorld W e s)) trivial ⟨W.heap.size, by simp [Value.ownBlock], Nat.le_refl _⟩)
 ·have hr := Lib.run_convert_string_bytes W f t e s hs ht he
  simp only [execOp, ho, hx]
  rw [Sem.run_bind] <;> simp [hr]
 ·have hb := hW W.heap.size hfresh (by rw [Lib.bytesWorld_size]; omega)
  have hc : ∀ j, W'.cell? ⟨W.heap.size, j, none⟩ = (Lib.bytesWorld W e s).cell? ⟨W.heap.size, j, none⟩ := fun j => by simp only [World.cell?, hb]
  refine Kd.C_of_reads (d := (0 : Int)) (h1 := fun _ => rfl) ⟨rfl, by rw [zaJ]; exact hl, fun hn => ⟨_, rfl, fun j hj => ?_⟩⟩
  have hr := reads_bytesWorld W e s hl
  rw [zaJ] at hj hn
  obtain ⟨ad, ea, hcell⟩ := hr.2.2 hn
  cases ea
  have h3 := hcell j hj
  rw [add_plain] at h3 ⊢
  rw [hc]
  exact h3

end Go.Proofs.YtoieknocpphjoaaDoor.P
