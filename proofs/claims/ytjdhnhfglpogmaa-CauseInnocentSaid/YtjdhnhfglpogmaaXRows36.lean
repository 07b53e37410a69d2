/- The kinds of layer 36's arguments, opened. -/
import Derived.Test.YtjdhnhfglpogmaaGen
import Derived.Test.YtjdhnhfglpogmaaPx0
import Derived.Test.YtjdhnhfglpogmaaXC
set_option linter.unusedSimpArgs false
set_option linter.unusedVariables false
namespace Go.Proofs.Ytjdhnhfglpogmaa.P
open Go Go.RowKit Go.Proofs.YtjdhnhfglpogmaaW.PrintWords Go.Proofs.YtjdhnhfglpogmaaW.PrintLast Go.Proofs.YtjdhnhfglpogmaaW.PrintMore Go.Proofs.Ytjdhnhfglpogmaa.Open

theorem o_bools : Opens Try.prog (Kd.slice 4 Kd.bool) (fun l => (∀ a ∈ l, True) ∧ l.length ≤ 9223372036854775807) 23 := opens_slice Try.underlying23 (by kernel_rfl) (opens_bool Try.underlying4)
theorem o_ints : Opens Try.prog (Kd.slice 3 (Kd.int .i64)) (fun l => (∀ a ∈ l, (Lit.int .i64 a).wf = true) ∧ l.length ≤ 9223372036854775807) 36 := opens_slice Try.underlying36 (by kernel_rfl) (opens_int Try.underlying3)
theorem o_44 : Opens Try.prog k44 (fun v => (Lit.int .i64 v.f0).wf = true ∧ ((∀ a ∈ v.f1, (Lit.int .i64 a).wf = true) ∧ v.f1.length ≤ 9223372036854775807) ∧ ((∀ a ∈ v.f2, True) ∧ v.f2.length ≤ 9223372036854775807)) 44 :=
  opens_struct (n := 3) Try.underlying44 (by kernel_rfl) (opensF_cons (s := 1) (n := 2) (opens_int Try.underlying3) rfl (by kernel_rfl) (opensF_cons (s := 1) (n := 1) o_ints rfl (by kernel_rfl) (opensF_last o_bools rfl (by kernel_rfl)) rfl (by decide)) rfl (by decide)) (fun x : S44 => (x.f0, x.f1, x.f2)) (fun x => ⟨x.1, x.2.1, x.2.2⟩) (fun _ => rfl)
theorem o_48 : Opens Try.prog k48 (fun v => (Lit.int .i64 v.f0).wf = true ∧ True ∧ (Lit.int .i64 v.f2).wf = true) 48 :=
  opens_struct (n := 3) Try.underlying48 (by kernel_rfl) (opensF_cons (s := 1) (n := 2) (opens_int Try.underlying3) rfl (by kernel_rfl) (opensF_cons (s := 1) (n := 1) (opens_bool Try.underlying4) rfl (by kernel_rfl) (opensF_last (opens_int Try.underlying3) rfl (by kernel_rfl)) rfl (by decide)) rfl (by decide)) (fun x : S48 => (x.f0, x.f1, x.f2)) (fun x => ⟨x.1, x.2.1, x.2.2⟩) (fun _ => rfl)
theorem o_vars : Opens Try.prog (Kd.slice 44 k44) (fun _ => True) 22 := (opens_slice Try.underlying22 (by kernel_rfl) o_44).imp fun _ _ => trivial
theorem o_seen : Opens Try.prog (Kd.slice 48 k48) (fun _ => True) 24 := (opens_slice Try.underlying24 (by kernel_rfl) o_48).imp fun _ _ => trivial
end Go.Proofs.Ytjdhnhfglpogmaa.P
