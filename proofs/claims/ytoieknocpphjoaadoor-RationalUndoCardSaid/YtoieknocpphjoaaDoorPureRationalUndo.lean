--m
/- RationalUndo: the pure statement is proved: for every input its printed function answers true. No condition beyond those of the row. -/
import Derived.Test.YtoieknocpphjoaaDoorPoE
import Derived.Test.YtoieknocpphjoaaDoorSayRationalUndo
namespace Go.Proofs.YtoieknocpphjoaaDoor.P
open Go.RowKit Go.Proofs.YtoieknocpphjoaaDoorW.PrintWords Go.Proofs.YtoieknocpphjoaaDoorW.PrintLast Go.Proofs.YtoieknocpphjoaaDoorW.PrintMore
theorem undo_j1 (b : Bool) (n d m e p q : Int) (h : vld n d = true) (k : vld m e = true) (hb : b = true → m ≠ 0 ∧ mkR (n * m) (d * e) = (p, q, 0)) : Ev (fun r => vinculumlaw02_RationalUndo.j1 r b n d m e p q) true := by
 apply Ev.succ
 simp only [vinculumlaw02_RationalUndo.j1]
 refine Ev.ite (fun hb' => ?_) (fun _ => Ev.ret rfl)
 obtain ⟨hm, hs⟩ := hb hb'
 refine Ev.bind (Div_p p q m e) ?_
 rw [div_back h k hm hs]
 exact Ev.pos rfl (Ev.neg (by simp) (Ev.ret rfl))
theorem undo_j0 (n d m e : Int) (h : vld n d = true) (k : vld m e = true) : Ev (fun r => vinculumlaw02_RationalUndo.j0 r n d m e) true := by
 apply Ev.succ
 simp only [vinculumlaw02_RationalUndo.j0]
 refine Ev.bind (Mul_p n d m e) ?_
 rw [mulR_v h k]
 obtain ⟨k1, k2, k3⟩ := vb k
 obtain ⟨h1, h2, h3⟩ := vb h
 rcases mkR_cases (n * m) (d * e) (Int.mul_ne_zero h3 k3) with hs | ⟨p, q, hs⟩
 ·rw [hs]
  exact Ev.neg (by decide) (undo_j1 _ _ _ _ _ _ _ h k (fun hb => by simp at hb))
 ·rw [hs]
  exact Ev.pos rfl (undo_j1 _ _ _ _ _ _ _ h k (fun hb => ⟨by simpa using hb, hs⟩))
theorem RationalUndo.pure : RationalUndo.Pure := by
 intro y hy
 obtain ⟨⟨w1, w2⟩, ⟨w3, w4⟩, ⟨w5, w6⟩⟩ := hy
 refine Ev.rounds (g := fun k => vinculumlaw02_RationalUndo.f k y.f0.f0 y.f0.f1 y.f1.f0 y.f1.f1 y.f2.f0 y.f2.f1) ?_
 unfold vinculumlaw02_RationalUndo.f
 refine Ev.bind awake_p (Ev.pos rfl ?_)
 obtain ⟨n, d, m, e, z1, z2, en, h, k, _⟩ := numbers_ev w1 w2 w3 w4 w5 w6
 refine Ev.bind en (Ev.bind (Add_p n d m e) ?_)
 rw [addR_v h k]
 obtain ⟨k1, k2, k3⟩ := vb k
 obtain ⟨h1, h2, h3⟩ := vb h
 rcases mkR_cases (n * e + m * d) (d * e) (Int.mul_ne_zero h3 k3) with hs | ⟨p, q, hs⟩
 ·rw [hs]
  exact Ev.neg (by decide) (undo_j0 _ _ _ _ h k)
 ·rw [hs]
  refine Ev.pos rfl (Ev.bind (Sub_p p q m e (by omega)) ?_)
  rw [sub_back h k hs]
  exact Ev.pos rfl (Ev.neg (by simp) (undo_j0 _ _ _ _ h k))
end Go.Proofs.YtoieknocpphjoaaDoor.P
