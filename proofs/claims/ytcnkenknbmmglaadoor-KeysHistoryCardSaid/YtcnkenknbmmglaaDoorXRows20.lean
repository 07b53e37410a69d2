/- The kinds of chapter 20's arguments, opened. -/
import Derived.Test.YtcnkenknbmmglaaDoorXRowsT
import Derived.Test.YtcnkenknbmmglaaDoorPx0
set_option linter.unusedSimpArgs false
set_option linter.unusedVariables false
set_option linter.constructorNameAsVariable false
namespace Go.Proofs.YtcnkenknbmmglaaDoor.P
open Go Go.RowKit Go.Proofs.YtcnkenknbmmglaaDoorW.PrintWords Go.Proofs.YtcnkenknbmmglaaDoorW.PrintLast Go.Proofs.YtcnkenknbmmglaaDoorW.PrintMore Go.Proofs.YtcnkenknbmmglaaDoor.Open
theorem wf_u8 {a : Int} (h : (Lit.int .u8 a).wf = true) : 0 ≤ a ∧ a < 256 := by
  simp [Lit.wf, IntKind.min, IntKind.max, IntKind.bits, IntKind.signed] at h
  omega
theorem wf_u16 {a : Int} (h : (Lit.int .u16 a).wf = true) : 0 ≤ a ∧ a < 65536 := by
  simp [Lit.wf, IntKind.min, IntKind.max, IntKind.bits, IntKind.signed] at h
  omega
set_option maxRecDepth 100000 in
theorem o_key3 : Opens Tryd.prog k49 (fun v => (Lit.int .i64 v.f0).wf = true ∧ (Lit.int .i64 v.f1).wf = true ∧ (Lit.int .i64 v.f2).wf = true) 49 :=
  opens_struct (n := 3) Tryd.underlying49 (by kernel_rfl) (opensF_cons (s := 1) (n := 2) (opens_int Tryd.underlying3) rfl (by kernel_rfl) (opensF_cons (s := 1) (n := 1) (opens_int Tryd.underlying3) rfl (by kernel_rfl) (opensF_last (opens_int Tryd.underlying3) rfl (by kernel_rfl)) rfl (by decide)) rfl (by decide)) (fun x : S49 => (x.f0, x.f1, x.f2)) (fun x => ⟨x.1, x.2.1, x.2.2⟩) (fun _ => rfl)
theorem o_key : Opens Tryd.prog k49 (fun _ => True) 49 := o_key3.imp (fun _ _ => trivial)
theorem o_keys : Opens Tryd.prog (Kd.slice 49 k49) (fun l => (∀ a ∈ l, True) ∧ l.length ≤ 9223372036854775807) 22 := opens_slice Tryd.underlying22 (by kernel_rfl) o_key
set_option maxRecDepth 100000 in
theorem o_sig2 : Opens Tryd.prog k26 (fun v => (Lit.int .i64 v.f0).wf = true ∧ (Lit.int .i64 v.f1).wf = true) 26 :=
  opens_struct (n := 2) Tryd.underlying26 (by kernel_rfl) (opensF_cons (s := 1) (n := 1) (opens_int Tryd.underlying3) rfl (by kernel_rfl) (opensF_last (opens_int Tryd.underlying3) rfl (by kernel_rfl)) rfl (by decide)) (fun x : S26 => (x.f0, x.f1)) (fun x => ⟨x.1, x.2⟩) (fun _ => rfl)
set_option maxRecDepth 100000 in
theorem o_vouch5 : Opens Tryd.prog k28 (fun v => (Lit.int .i64 v.f0).wf = true ∧ (Lit.int .i64 v.f1).wf = true ∧ (Lit.int .i64 v.f2).wf = true ∧ (Lit.int .i64 v.f3).wf = true ∧ (Lit.int .i64 v.f4.f0).wf = true ∧ (Lit.int .i64 v.f4.f1).wf = true) 28 :=
  opens_struct (n := 6) Tryd.underlying28 (by kernel_rfl) (opensF_cons (s := 1) (n := 5) (opens_int Tryd.underlying3) rfl (by kernel_rfl) (opensF_cons (s := 1) (n := 4) (opens_int Tryd.underlying3) rfl (by kernel_rfl) (opensF_cons (s := 1) (n := 3) (opens_int Tryd.underlying3) rfl (by kernel_rfl) (opensF_cons (s := 1) (n := 2) (opens_int Tryd.underlying3) rfl (by kernel_rfl) (opensF_last o_sig2 rfl (by kernel_rfl)) rfl (by decide)) rfl (by decide)) rfl (by decide)) rfl (by decide)) (fun x : S28 => (x.f0, x.f1, x.f2, x.f3, x.f4)) (fun x => ⟨x.1, x.2.1, x.2.2.1, x.2.2.2.1, x.2.2.2.2⟩) (fun _ => rfl)
theorem o_vouch : Opens Tryd.prog k28 (fun _ => True) 28 := o_vouch5.imp (fun _ _ => trivial)
theorem o_vouches : Opens Tryd.prog (Kd.slice 28 k28) (fun l => (∀ a ∈ l, True) ∧ l.length ≤ 9223372036854775807) 24 := opens_slice Tryd.underlying24 (by kernel_rfl) o_vouch
end Go.Proofs.YtcnkenknbmmglaaDoor.P
