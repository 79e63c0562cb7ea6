/- OpdictOrder: the pure statement of the law OpdictOrder is proved: for every input its printed function answers true. No condition beyond those of the row. -/
import Derived.Test.YtomogpiahcnmjaaSayOpdictOrder
import Derived.Test.YtomogpiahcnmjaaPoC
namespace Go.Proofs.Ytomogpiahcnmjaa.P
open Go.RowKit Go.Proofs.YtomogpiahcnmjaaW.PrintWords Go.Proofs.YtomogpiahcnmjaaW.PrintLast Go.Proofs.YtomogpiahcnmjaaW.PrintMore
theorem order_loop (l : List S27) (t : ByteArray) (hl : l.length ≤ 250) (hd : Dict l) :
    ∀ (i : Nat) (acc : List S27), i ≤ l.length → acc.length + i = l.length → acc ++ (l.take i).reverse = l.reverse → Ev (fun k => vinculumlaw08_OpdictOrder.l0 k l t acc ((i : Int) - 1)) true := by
  intro i
  induction i with
  | zero =>
    intro acc _ ha hacc
    obtain rfl : acc = l.reverse := by simpa using hacc
    refine Ev.step (f := fun k => (opdict_Valid.f l.reverse).bind fun t155 => (if t155 = true then ((opdict_Find.f l t).bind fun bt156 => ((opdict_Find.f l.reverse t).bind fun bt160 => (some (bt156.1.toList == bt160.1.toList && (bt156.2.1 == bt160.2.1 && (bt156.2.2.1 == bt160.2.2.1 && (bt156.2.2.2 == bt160.2.2.2))))))) else (some false))) (fun k => ?_) ?_
    · simp only [vinculumlaw08_OpdictOrder.l0]
      rw [if_neg (by omega)]
    · refine Ev.bindO (valid_eq _ (by simp; omega)) ?_
      refine Ev.pos ((validB_iff _).2 hd.reverse) ?_
      refine Ev.bindO (find_eq l t) ?_
      refine Ev.bindO (find_eq l.reverse t) ?_
      rw [findS_same hd.reverse.2.1 hd.2.1 (by simp) t]
      exact Ev.ret (by simp)
  | succ i ih =>
    intro acc hi ha hacc
    have hlt : i < l.length := by omega
    have hr := rdT_int l i hlt
    have e1 : ((i + 1 : Nat) : Int) - 1 = (i : Int) := by omega
    rw [e1]
    refine Ev.step (f := fun k => vinculumlaw08_OpdictOrder.l0 k l t (acc ++ [l[i]]) ((i : Int) - 1)) (fun k => ?_) (ih (acc ++ [l[i]]) (by omega) (by simp; omega) ?_)
    · simp only [vinculumlaw08_OpdictOrder.l0, hr]
      rw [if_pos (by omega), if_pos (by omega), if_pos (by omega), if_pos (by omega), wrap_id (by omega) (by omega)]
    · rw [← hacc, show l.take (i + 1) = l.take i ++ [l[i]] from List.take_succ_eq_append_getElem hlt, List.reverse_append, List.append_assoc]
      rfl
theorem OpdictOrder.pure : OpdictOrder.Pure := by
  intro l t hl hw _
  refine Ev.rounds (g := fun k => vinculumlaw08_OpdictOrder.f k l t) ?_
  unfold vinculumlaw08_OpdictOrder.f
  refine Ev.bindO awake_eq ?_
  refine Ev.pos rfl ?_
  have hj : Ev (fun k => vinculumlaw08_OpdictOrder.j0 k l t true) true := Ev.step (f := fun _ => some true) (fun k => by simp only [vinculumlaw08_OpdictOrder.j0]; rfl) (Ev.now _)
  refine Ev.ite (fun _ => hj) (fun h => ?_)
  refine Ev.bindO (valid_eq l (by omega)) ?_
  cases hv : validB l with
  | false => exact hj
  | true =>
    refine Ev.step (f := fun k => vinculumlaw08_OpdictOrder.l0 k l t [] (wrap64 ((l.length : Int) - 1))) (fun k => by simp only [vinculumlaw08_OpdictOrder.j0]; simp) ?_
    rw [wrap_id (by omega) (by omega)]
    exact order_loop l t (by omega) ((validB_iff _).1 hv) l.length [] (Nat.le_refl _) (by simp) (by simp)
end Go.Proofs.Ytomogpiahcnmjaa.P
