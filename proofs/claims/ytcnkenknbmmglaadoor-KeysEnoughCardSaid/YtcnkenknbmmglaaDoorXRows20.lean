/- The kinds of chapter 20's arguments, opened. -/
import Derived.Test.YtcnkenknbmmglaaDoorXRowsT
import Derived.OpenShut
import Derived.Test.YtcnkenknbmmglaaDoorPx0
set_option linter.unusedSimpArgs false
set_option linter.unusedVariables false
set_option linter.constructorNameAsVariable false
namespace Go.Proofs.YtcnkenknbmmglaaDoor.P
open Go Go.RowKit Go.Proofs.YtcnkenknbmmglaaDoorW.PrintWords Go.Proofs.YtcnkenknbmmglaaDoorW.PrintLast Go.Proofs.YtcnkenknbmmglaaDoorW.PrintMore Go.Proofs.YtcnkenknbmmglaaDoor.Open
theorem wf_u8 {a : Int} (h : (Lit.int .u8 a).wf = true) : 0 ≤ a ∧ a < 256 := by
  simp [Lit.wf, IntKind.min, IntKind.max, IntKind.bits, IntKind.signed] at h
  omega
theorem wf_u16 {a : Int} (h : (Lit.int .u16 a).wf = true) : 0 ≤ a ∧ a < 65536 := by
  simp [Lit.wf, IntKind.min, IntKind.max, IntKind.bits, IntKind.signed] at h
  omega
set_option maxRecDepth 100000 in
theorem o_key3 : Opens Tryd.prog k49 (fun v => (Lit.int .i64 v.f0).wf = true ∧ (Lit.int .i64 v.f1).wf = true ∧ (Lit.int .i64 v.f2).wf = true) 49 :=
  opens_struct (n := 3) Tryd.underlying49 (by kernel_rfl) (opensF_cons (s := 1) (n := 2) (opens_int Tryd.underlying3) rfl (by kernel_rfl) (opensF_cons (s := 1) (n := 1) (opens_int Tryd.underlying3) rfl (by kernel_rfl) (opensF_last (opens_int Tryd.underlying3) rfl (by kernel_rfl)) rfl (by decide)) rfl (by decide)) (fun x : S49 => (x.f0, x.f1, x.f2)) (fun x => ⟨x.1, x.2.1, x.2.2⟩) (fun _ => rfl)
theorem o_key : Opens Tryd.prog k49 (fun _ => True) 49 := o_key3.imp (fun _ _ => trivial)
theorem o_keys : Opens Tryd.prog (Kd.slice 49 k49) (fun l => (∀ a ∈ l, True) ∧ l.length ≤ 9223372036854775807) 22 := opens_slice Tryd.underlying22 (by kernel_rfl) o_key
set_option maxRecDepth 100000 in
theorem o_sig2 : Opens Tryd.prog k26 (fun v => (Lit.int .i64 v.f0).wf = true ∧ (Lit.int .i64 v.f1).wf = true) 26 :=
  opens_struct (n := 2) Tryd.underlying26 (by kernel_rfl) (opensF_cons (s := 1) (n := 1) (opens_int Tryd.underlying3) rfl (by kernel_rfl) (opensF_last (opens_int Tryd.underlying3) rfl (by kernel_rfl)) rfl (by decide)) (fun x : S26 => (x.f0, x.f1)) (fun x => ⟨x.1, x.2⟩) (fun _ => rfl)
set_option maxRecDepth 100000 in
theorem o_vouch5 : Opens Tryd.prog k28 (fun v => (Lit.int .i64 v.f0).wf = true ∧ (Lit.int .i64 v.f1).wf = true ∧ (Lit.int .i64 v.f2).wf = true ∧ (Lit.int .i64 v.f3).wf = true ∧ (Lit.int .i64 v.f4.f0).wf = true ∧ (Lit.int .i64 v.f4.f1).wf = true) 28 :=
  opens_struct (n := 6) Tryd.underlying28 (by kernel_rfl) (opensF_cons (s := 1) (n := 5) (opens_int Tryd.underlying3) rfl (by kernel_rfl) (opensF_cons (s := 1) (n := 4) (opens_int Tryd.underlying3) rfl (by kernel_rfl) (opensF_cons (s := 1) (n := 3) (opens_int Tryd.underlying3) rfl (by kernel_rfl) (opensF_cons (s := 1) (n := 2) (opens_int Tryd.underlying3) rfl (by kernel_rfl) (opensF_last o_sig2 rfl (by kernel_rfl)) rfl (by decide)) rfl (by decide)) rfl (by decide)) rfl (by decide)) (fun x : S28 => (x.f0, x.f1, x.f2, x.f3, x.f4)) (fun x => ⟨x.1, x.2.1, x.2.2.1, x.2.2.2.1, x.2.2.2.2⟩) (fun _ => rfl)
theorem o_vouch : Opens Tryd.prog k28 (fun _ => True) 28 := o_vouch5.imp (fun _ _ => trivial)
theorem o_vouches : Opens Tryd.prog (Kd.slice 28 k28) (fun l => (∀ a ∈ l, True) ∧ l.length ≤ 9223372036854775807) 24 := opens_slice Tryd.underlying24 (by kernel_rfl) o_vouch
set_option maxRecDepth 100000 in
/-- An array of four words. -/
theorem open_four {H : Type} {enc : TypeId × Value → H} {W : World} {base : Nat} {v : Value} {d : DataW H} {p : List MemPlace} (hv : Value.okWide Tryd.prog W .any base 44 v) (h : DataW.Trod enc Tryd.prog W 0 (fun _ => true) true 44 v d p) :
    ∃ (o0 o1 o2 o3 : Int), v = .agg #[.int .u64 o0, .int .u64 o1, .int .u64 o2, .int .u64 o3] ∧ (Lit.int .u64 o0).wf = true ∧ (Lit.int .u64 o1).wf = true ∧ (Lit.int .u64 o2).wf = true ∧ (Lit.int .u64 o3).wf = true := by
  simp only [Value.okWide, Tryd.underlying44] at hv
  obtain ⟨cs, rfl, hsz, -⟩ := hv
  rw [show Tryd.prog.cellsOf 44 = 4 from by kernel_rfl] at hsz
  obtain ⟨fuel, hf⟩ := h
  obtain ⟨xs, m, rfl, hx, hl, hxl, hall⟩ := DataW.trod_array Tryd.underlying44 hf
  have hc : ∀ i, i < 4 → ∃ o, ((cs.toList.drop i).take 1) = [.int .u64 o] ∧ (Lit.int .u64 o).wf = true := fun i hi => by
    have h1 := hall i hi
    rw [show Tryd.prog.cellsOf 43 = 1 from by kernel_rfl, Nat.mul_one, List.getElem?_eq_getElem (by omega)] at h1
    obtain ⟨o, ho, hw⟩ := opens_int Tryd.underlying43 H enc W _ _ _ h1
    exact ⟨o, ho, hw⟩
  obtain ⟨o0, a0, w0⟩ := hc 0 (by omega)
  obtain ⟨o1, a1, w1⟩ := hc 1 (by omega)
  obtain ⟨o2, a2, w2⟩ := hc 2 (by omega)
  obtain ⟨o3, a3, w3⟩ := hc 3 (by omega)
  obtain ⟨l⟩ := cs
  match l, hsz, a0, a1, a2, a3 with
  | [b0, b1, b2, b3], _, a0, a1, a2, a3 =>
    simp at a0 a1 a2 a3
    exact ⟨o0, o1, o2, o3, by rw [a0, a1, a2, a3], w0, w1, w2, w3⟩
set_option maxRecDepth 100000 in
/-- An attestation. -/
theorem open_vouch {H : Type} {enc : TypeId × Value → H} {W : World} {base : Nat} {v : Value} {d : DataW H} {p : List MemPlace} (hv : Value.okWide Tryd.prog W .any base 28 v) (h : DataW.Trod enc Tryd.prog W 0 (fun _ => true) true 28 v d p) :
    ∃ (o0 o1 o2 o3 o4 o5 : Int), v = .agg #[.int .i64 o0, .int .i64 o1, .int .i64 o2, .int .i64 o3, .int .i64 o4, .int .i64 o5] ∧ (Lit.int .i64 o0).wf = true ∧ (Lit.int .i64 o1).wf = true ∧ (Lit.int .i64 o2).wf = true ∧ (Lit.int .i64 o3).wf = true ∧ (Lit.int .i64 o4).wf = true ∧ (Lit.int .i64 o5).wf = true := by
  obtain ⟨cs, rfl, _⟩ := WideShapes.okWide_struct (P := Tryd.prog) (t := 28) (w := W) (base := base) Tryd.underlying28 hv
  obtain ⟨fuel, hf⟩ := h
  obtain ⟨o, ho, hw0, hw1, hw2, hw3, hw4, hw5⟩ := o_vouch5 H enc W _ _ _ hf
  have hc : cs.toList = [.int .i64 o.f0, .int .i64 o.f1, .int .i64 o.f2, .int .i64 o.f3, .int .i64 o.f4.f0, .int .i64 o.f4.f1] := by
    obtain ⟨a, r1, e1, h1, b, r2, e2, h2, c, r3, e3, h3, d, r4, e4, h4, f, g, e5, h5, h6⟩ := ho
    simp only [Value.cells] at e1
    rw [e1, e2, e3, e4, e5, show a = _ from h1, show b = _ from h2, show c = _ from h3, show d = _ from h4, show f = _ from h5, show g = _ from h6]
    rfl
  exact ⟨o.f0, o.f1, o.f2, o.f3, o.f4.f0, o.f4.f1, by rw [show cs = #[.int .i64 o.f0, .int .i64 o.f1, .int .i64 o.f2, .int .i64 o.f3, .int .i64 o.f4.f0, .int .i64 o.f4.f1] from Array.ext' hc], hw0, hw1, hw2, hw3, hw4, hw5⟩
end Go.Proofs.YtcnkenknbmmglaaDoor.P
