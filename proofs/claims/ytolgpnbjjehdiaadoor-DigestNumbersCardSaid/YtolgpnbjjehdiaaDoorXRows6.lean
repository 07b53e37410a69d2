/- The kinds of layer 6's arguments, opened. -/
import Derived.Test.YtolgpnbjjehdiaaDoorXRowsT
set_option linter.unusedSimpArgs false
set_option linter.unusedVariables false
namespace Go.Proofs.YtolgpnbjjehdiaaDoor.P
open Go Go.RowKit Go.Proofs.YtolgpnbjjehdiaaDoorW.PrintWords Go.Proofs.YtolgpnbjjehdiaaDoor.Open
theorem o_bytes : Opens Tryd.prog (Kd.slice 5 (Kd.int .u8)) (fun l => (∀ a ∈ l, (Lit.int .u8 a).wf = true) ∧ l.length ≤ 9223372036854775807) 22 := opens_slice Tryd.underlying22 (by kernel_rfl) (opens_int Tryd.underlying5)
theorem o_uint64s : Opens Tryd.prog (Kd.slice 25 (Kd.int .u64)) (fun l => (∀ a ∈ l, (Lit.int .u64 a).wf = true) ∧ l.length ≤ 9223372036854775807) 24 := opens_slice Tryd.underlying24 (by kernel_rfl) (opens_int Tryd.underlying25)
end Go.Proofs.YtolgpnbjjehdiaaDoor.P
