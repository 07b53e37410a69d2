/- The kinds of chapter 40's arguments, opened. -/
import Derived.Test.YtkaebblbmoolaaaDoorXRowsT
import Derived.Test.YtkaebblbmoolaaaDoorPx0
set_option linter.unusedSimpArgs false
set_option linter.unusedVariables false
set_option linter.constructorNameAsVariable false
namespace Go.Proofs.YtkaebblbmoolaaaDoor.P
open Go Go.RowKit Go.Proofs.YtkaebblbmoolaaaDoorW.PrintWords Go.Proofs.YtkaebblbmoolaaaDoorW.PrintLast Go.Proofs.YtkaebblbmoolaaaDoorW.PrintMore Go.Proofs.YtkaebblbmoolaaaDoor.Open
def okC (v : S23) : Prop := (Lit.int .i64 v.f0).wf = true ∧ (Lit.int .i64 v.f1).wf = true
def okK (v : S53) : Prop := (Lit.int .i64 v.f0).wf = true ∧ (Lit.int .i64 v.f1).wf = true ∧ (Lit.int .i64 v.f2).wf = true
set_option maxRecDepth 100000 in
theorem o_cipP : Opens Tryd.prog k23 okC 23 :=
  opens_struct (n := 2) Tryd.underlying23 (by kernel_rfl) (opensF_cons (s := 1) (n := 1) (opens_int Tryd.underlying3) rfl (by kernel_rfl) (opensF_last (opens_int Tryd.underlying3) rfl (by kernel_rfl)) rfl (by decide)) (fun x : S23 => (x.f0, x.f1)) (fun x => ⟨x.1, x.2⟩) (fun _ => rfl)
set_option maxRecDepth 100000 in
theorem o_lnk3 : Opens Tryd.prog k53 (fun v => (Lit.int .i64 v.f0).wf = true ∧ (Lit.int .i64 v.f1).wf = true ∧ (Lit.int .i64 v.f2).wf = true) 53 :=
  opens_struct (n := 3) Tryd.underlying53 (by kernel_rfl) (opensF_cons (s := 1) (n := 2) (opens_int Tryd.underlying3) rfl (by kernel_rfl) (opensF_cons (s := 1) (n := 1) (opens_int Tryd.underlying3) rfl (by kernel_rfl) (opensF_last (opens_int Tryd.underlying3) rfl (by kernel_rfl)) rfl (by decide)) rfl (by decide)) (fun x : S53 => (x.f0, x.f1, x.f2)) (fun x => ⟨x.1, x.2.1, x.2.2⟩) (fun _ => rfl)
theorem o_lnkP : Opens Tryd.prog k53 okK 53 := o_lnk3.imp (fun _ h => h)
theorem o_ciphs : Opens Tryd.prog (Kd.slice 23 k23) (fun l => (∀ a ∈ l, okC a) ∧ l.length ≤ 9223372036854775807) 24 := opens_slice Tryd.underlying24 (by kernel_rfl) o_cipP
theorem o_lnks : Opens Tryd.prog (Kd.slice 53 k53) (fun l => (∀ a ∈ l, okK a) ∧ l.length ≤ 9223372036854775807) 26 := opens_slice Tryd.underlying26 (by kernel_rfl) o_lnkP
set_option maxRecDepth 100000 in
theorem open_cip {H : Type} {enc : TypeId × Value → H} {W : World} {base : Nat} {v : Value} {d : DataW H} {p : List MemPlace} (hv : Value.okWide Tryd.prog W .any base 23 v) (h : DataW.Trod enc Tryd.prog W 0 (fun _ => true) true 23 v d p) :
    ∃ (o0 o1 : Int), v = .agg #[.int .i64 o0, .int .i64 o1] ∧ (Lit.int .i64 o0).wf = true ∧ (Lit.int .i64 o1).wf = true := by
  obtain ⟨cs, rfl, _⟩ := WideShapes.okWide_struct (P := Tryd.prog) (t := 23) (w := W) (base := base) Tryd.underlying23 hv
  obtain ⟨fuel, hf⟩ := h
  obtain ⟨o, ho, hw0, hw1⟩ := o_cipP H enc W _ _ _ hf
  have hc : cs.toList = [.int .i64 o.f0, .int .i64 o.f1] := by
    obtain ⟨a, b, e, h1, h2⟩ := ho
    simp only [Value.cells] at e
    rw [e, show a = _ from h1, show b = _ from h2]
    rfl
  exact ⟨o.f0, o.f1, by rw [show cs = #[.int .i64 o.f0, .int .i64 o.f1] from Array.ext' hc], hw0, hw1⟩
set_option maxRecDepth 100000 in
theorem o_mixP : Opens Tryd.prog (Kd.iso (Kd.pair (Kd.slice 23 k23) (Kd.pair (Kd.slice 23 k23) (Kd.slice 53 k53))) (fun x : List S23 × List S23 × List S53 => x)) (fun v => ((∀ a ∈ v.1, okC a) ∧ v.1.length ≤ 9223372036854775807) ∧ ((∀ a ∈ v.2.1, okC a) ∧ v.2.1.length ≤ 9223372036854775807) ∧ ((∀ a ∈ v.2.2, okK a) ∧ v.2.2.length ≤ 9223372036854775807)) 28 :=
  opens_struct (n := 3) Tryd.underlying28 (by kernel_rfl) (opensF_cons (s := 1) (n := 2) o_ciphs rfl (by kernel_rfl) (opensF_cons (s := 1) (n := 1) o_ciphs rfl (by kernel_rfl) (opensF_last o_lnks rfl (by kernel_rfl)) rfl (by decide)) rfl (by decide)) (fun x : List S23 × List S23 × List S53 => x) (fun x => x) (fun _ => rfl)
set_option maxRecDepth 100000 in
theorem open_mix {H : Type} {enc : TypeId × Value → H} {W : World} {base : Nat} {v : Value} {d : DataW H} {p : List MemPlace} (hv : Value.okWide Tryd.prog W .any base 28 v) (h : DataW.Trod enc Tryd.prog W 0 (fun _ => true) true 28 v d p) :
    ∃ (A0 : Option Addr) (c0 : Nat) (l0 : List S23) (A1 : Option Addr) (c1 : Nat) (l1 : List S23) (A2 : Option Addr) (c2 : Nat) (l2 : List S53), v = .agg #[.slice A0 l0.length c0, .slice A1 l1.length c1, .slice A2 l2.length c2] ∧
      Kd.C k23 W A0 l0.length l0 ∧ l0.length ≤ c0 ∧ Kd.C k23 W A1 l1.length l1 ∧ l1.length ≤ c1 ∧ Kd.C k53 W A2 l2.length l2 ∧ l2.length ≤ c2 ∧ (∀ a ∈ l0, okC a) ∧ (∀ a ∈ l1, okC a) ∧ (∀ a ∈ l2, okK a) := by
  obtain ⟨cs, rfl, _⟩ := WideShapes.okWide_struct (P := Tryd.prog) (t := 28) (w := W) (base := base) Tryd.underlying28 hv
  obtain ⟨fuel, hf⟩ := h
  obtain ⟨⟨l0, l1, l2⟩, ho, hw0, hw1, hw2⟩ := o_mixP H enc W _ _ _ hf
  obtain ⟨a, b, e, h1, b1, b2, e2, h2, h3⟩ := ho
  obtain ⟨A0, c0, rfl, q0, r0⟩ := h1
  obtain ⟨A1, c1, rfl, q1, r1⟩ := h2
  obtain ⟨A2, c2, rfl, q2, r2⟩ := h3
  subst e2
  simp only [Value.cells, List.cons_append, List.nil_append] at e
  exact ⟨A0, c0, l0, A1, c1, l1, A2, c2, l2, by rw [show cs = #[.slice A0 l0.length c0, .slice A1 l1.length c1, .slice A2 l2.length c2] from Array.ext' e], r0, q0, r1, q1, r2, q2, hw0.1, hw1.1, hw2.1⟩
end Go.Proofs.YtkaebblbmoolaaaDoor.P
