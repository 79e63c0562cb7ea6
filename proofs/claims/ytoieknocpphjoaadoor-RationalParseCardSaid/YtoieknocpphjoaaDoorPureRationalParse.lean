--m
/- RationalParse: for every string of up to 60 characters the program's number, or error, is the document's. No program in sight. -/
import Derived.Test.YtoieknocpphjoaaDoorPoI
import Derived.Test.YtoieknocpphjoaaDoorSayRationalParse
import Derived.Test.YtoieknocpphjoaaDoorP58
namespace Go.Proofs.YtoieknocpphjoaaDoor.P
open Go.RowKit Go.Proofs.YtoieknocpphjoaaDoorW.PrintWords Go.Proofs.YtoieknocpphjoaaDoorW.PrintLast Go.Proofs.YtoieknocpphjoaaDoorW.PrintMore
theorem RationalParse.pure : RationalParse.Pure := by
 intro s _
 refine Ev.rounds (g := fun k => vinculumlaw02_RationalParse.f k s) ?_
 unfold vinculumlaw02_RationalParse.f
 refine Ev.bind awake_p (Ev.pos rfl (Ev.ite (fun _ => Ev.ret rfl) (fun h => ?_)))
 obtain ⟨r, r1, r2⟩ := parse_both (s := s) (by omega)
 exact Ev.bind r1 (Ev.bind r2 (Ev.bindO (is_self _) (Ev.ret rfl)))
end Go.Proofs.YtoieknocpphjoaaDoor.P
