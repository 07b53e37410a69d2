/- cohousingref08.Rest, told as a call that may make something (the print's walks want a letter for the world behind it). -/
import Derived.Test.YtimcknjodeikmaaDoorPy1
import Derived.Test.YtimcknjodeikmaaDoorGen
set_option linter.unusedSimpArgs false
set_option linter.unusedVariables false
namespace Go.Proofs.YtimcknjodeikmaaDoor.P
open Go Go.RowKit Go.Proofs.YtimcknjodeikmaaDoorW.PrintWords Go.Proofs.YtimcknjodeikmaaDoorW.PrintLast Go.Proofs.YtimcknjodeikmaaDoorW.PrintMore
def cohousingref08_Rest.f (a0 : Int) : Option (Int) := Y.cohousingref08_Rest.f a0
theorem cohousingref08_Rest.calls (a0 : Int) (r : Int) (w : World) (h : cohousingref08_Rest.f a0 = some r) :
    Calls Tryd.prog 31 #[.int .i64 a0] w fun e w' => e = .returned (.int .i64 r) ∧ Below w.heap.size w w' := by
  refine (Y.cohousingref08_Rest.calls a0 r w h).mono ?_
  rintro e w' ⟨rfl, hd⟩
  exact ⟨rfl, hd.below⟩
end Go.Proofs.YtimcknjodeikmaaDoor.P
