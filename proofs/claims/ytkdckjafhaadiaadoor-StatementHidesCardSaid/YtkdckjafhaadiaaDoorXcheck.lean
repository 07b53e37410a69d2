/- digest.Check, told as a call that only reads its path. -/
import Derived.Test.YtkdckjafhaadiaaDoorXleaf
import Derived.Test.YtkdckjafhaadiaaDoorPz1
set_option linter.unusedSimpArgs false
set_option linter.unusedVariables false
namespace Go.Proofs.YtkdckjafhaadiaaDoor.P
open Go Go.RowKit Go.Proofs.YtkdckjafhaadiaaDoorW.PrintWords Go.Proofs.YtkdckjafhaadiaaDoorW.PrintLast Go.Proofs.YtkdckjafhaadiaaDoorW.PrintMore
def digest_Check.f (k : Nat) (a0 : Int) (a1 : Int) (a2 : Int) (a3 : Int) (l4 : List Int) : Option (Bool) := Z.digest_Check.f k a0 a1 a2 a3 l4
theorem digest_Check.mono : ∀ a0 a1 a2 a3 a4 k, LeO (digest_Check.f k a0 a1 a2 a3 a4) (digest_Check.f (k + 1) a0 a1 a2 a3 a4) := Z.digest_Check.mono
theorem digest_Check.calls (k : Nat) (a0 : Int) (a1 : Int) (a2 : Int) (a3 : Int) (A4 : Option Addr) (c4 : Nat) (l4 : List Int) (r : Bool) (w : World) (hr4 : Kd.C (Kd.int .u64) w A4 l4.length l4) (hc4 : l4.length ≤ c4) (h : digest_Check.f k a0 a1 a2 a3 l4 = some r) :
    Calls Tryd.prog 37 #[.int .u64 a0, .int .u64 a1, .int .i64 a2, .int .i64 a3, .slice A4 l4.length c4] w fun e w' => e = .returned (.bool r) ∧ Below w.heap.size w w' :=
  Z.digest_Check.calls k a0 a1 a2 a3 (fun k => k < w.heap.size) A4 c4 l4 r w (Kd.V_mk hc4 (Kd.C_F (Kd.heap_int .u64) hr4)) h
end Go.Proofs.YtkdckjafhaadiaaDoor.P
