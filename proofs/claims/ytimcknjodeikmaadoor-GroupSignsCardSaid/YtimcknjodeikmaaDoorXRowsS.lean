/- A signature among the arguments, opened. -/
import Derived.Test.YtimcknjodeikmaaDoorXRowsT
set_option linter.unusedSimpArgs false
set_option linter.unusedVariables false
namespace Go.Proofs.YtimcknjodeikmaaDoor.P
open Go Go.RowKit Go.Proofs.YtimcknjodeikmaaDoorW.PrintWords Go.Proofs.YtimcknjodeikmaaDoor.Open
theorem o_sigP : Opens Tryd.prog (Kd.iso (Kd.pair (Kd.int .i64) (Kd.int .i64)) (fun x : Int × Int => x)) (fun v => (Lit.int .i64 v.1).wf = true ∧ (Lit.int .i64 v.2).wf = true) 23 :=
  opens_struct (n := 2) Tryd.underlying23 (by kernel_rfl) (opensF_cons (s := 1) (n := 1) (opens_int Tryd.underlying3) rfl (by kernel_rfl) (opensF_last (opens_int Tryd.underlying3) rfl (by kernel_rfl)) rfl (by decide)) (fun x : Int × Int => x) (fun x => x) (fun _ => rfl)
theorem open_sig {H : Type} {enc : TypeId × Value → H} {W : World} {base : Nat} {v : Value} {d : DataW H} {p : List MemPlace} (hv : Value.okWide Tryd.prog W .any base 23 v) (h : DataW.Trod enc Tryd.prog W 0 (fun _ => true) true 23 v d p) :
    ∃ (o0 o1 : Int), v = .agg #[.int .i64 o0, .int .i64 o1] ∧ (Lit.int .i64 o0).wf = true ∧ (Lit.int .i64 o1).wf = true := by
  obtain ⟨cs, rfl, _⟩ := WideShapes.okWide_struct Tryd.underlying23 hv
  obtain ⟨fuel, hf⟩ := h
  obtain ⟨o, ho, hw0, hw1⟩ := o_sigP H enc W _ _ _ hf
  have hc : cs.toList = [.int .i64 o.1, .int .i64 o.2] := by
    obtain ⟨a, b, e, h1, h2⟩ := ho
    simp only [Value.cells] at e
    rw [e, show a = _ from h1, show b = _ from h2]
    rfl
  exact ⟨o.1, o.2, by rw [show cs = #[.int .i64 o.1, .int .i64 o.2] from Array.ext' hc], hw0, hw1⟩
end Go.Proofs.YtimcknjodeikmaaDoor.P
