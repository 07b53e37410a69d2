/- A struct among the arguments, opened. -/
import Derived.Test.YtjdhnhfglpogmaaXRows36
set_option linter.unusedSimpArgs false
set_option linter.unusedVariables false
namespace Go.Proofs.Ytjdhnhfglpogmaa.P
open Go Go.RowKit Go.Proofs.YtjdhnhfglpogmaaW.PrintWords Go.Proofs.YtjdhnhfglpogmaaW.PrintLast Go.Proofs.YtjdhnhfglpogmaaW.PrintMore Go.Proofs.Ytjdhnhfglpogmaa.Open

theorem open_obs {H : Type} {enc : TypeId × Value → H} {W : World} {base : Nat} {v : Value} {d : DataW H} {p : List MemPlace} (hv : Value.okWide Try.prog W .any base 48 v) (h : DataW.Trod enc Try.prog W 0 (fun _ => true) true 48 v d p) :
    ∃ (o0 : Int) (o1 : Bool) (o2 : Int), v = .agg #[.int .i64 o0, .bool o1, .int .i64 o2] := by
  obtain ⟨cs, rfl, _⟩ := WideShapes.okWide_struct Try.underlying48 hv
  obtain ⟨fuel, hf⟩ := h
  obtain ⟨o, ho, _⟩ := o_48 H enc W _ _ _ hf
  have hc : cs.toList = [.int .i64 o.f0, .bool o.f1, .int .i64 o.f2] := by
    obtain ⟨a, b, e, h1, c, d, e2, h2, h3⟩ := ho
    simp only [Value.cells] at e
    rw [e, e2]
    rw [show a = _ from h1, show c = _ from h2, show d = _ from h3]
    rfl
  exact ⟨o.f0, o.f1, o.f2, by rw [show cs = #[.int .i64 o.f0, .bool o.f1, .int .i64 o.f2] from Array.ext' hc]⟩
end Go.Proofs.Ytjdhnhfglpogmaa.P
