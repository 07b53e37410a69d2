/- What a row's condition on laid variables gives the walks of layer 32; the kinds of the arguments, opened. -/
import Derived.Test.YtdhnojfpgpjabaaDoorXValid
import Derived.Test.YtdhnojfpgpjabaaDoorPx0
import Derived.Lib.LaidTab
import Derived.OpenShut
import Derived.ChangeSame
set_option linter.unusedSimpArgs false
set_option linter.unusedVariables false
namespace Go.Proofs.YtdhnojfpgpjabaaDoor.P
open Go Go.RowKit Go.ChangeShapes Go.Proofs.YtdhnojfpgpjabaaDoorW.PrintWords Go.Proofs.YtdhnojfpgpjabaaDoor.Open
theorem laidVars_reads {P : Program} {w : World} : ∀ {l : List (String × DataW Unit)} {ps : List MemPlace}, DataW.LaidVars P w l ps → ∀ n d, (n, d) ∈ l →
    ∃ g t cs fuel p, P.globalNamed n = some g ∧ (P.globals[g]?).map (·.type) = some t ∧ w.var? P n = some cs ∧ DataW.trod (fun _ => ()) P w 0 (fun _ => true) false fuel t cs.toList = some (d, p)
  | [], _, _, _, _, hm => by cases hm
  | (n', d') :: r, ps, h, n, d, hm => by
    obtain ⟨g, t, cs, fuel, p, q, h1, h2, h3, h4, h5, _⟩ := h
    rcases List.mem_cons.1 hm with e | e
    · cases e
      exact ⟨g, t, cs, fuel, p, h1, h2, h3, h4⟩
    · exact laidVars_reads h5 n d e
def pairD (a b : Int) : DataW Unit := .agg [.lit (.int .i64 a), .lit (.int .i64 b)]
def rangesD : DataW Unit := .agg [pairD 0 0, pairD 1 1000000000, pairD 1 100000, pairD 0 10000, pairD 1 1000000000, pairD 1 1000000000, pairD 0 0]
theorem pair_read {W : World} {base : Nat} {sp : Nat → Bool} {held : Bool} {fuel : Nat} {c : List Value} {a b : Int} {p : List MemPlace} (h : DataW.trod (fun _ => ()) Tryd.prog W base sp held fuel 57 c = some (pairD a b, p)) : c = [.int .i64 a, .int .i64 b] := by
  obtain ⟨y0, y1, n, hx, hl, h0, h1⟩ := trod_struct2 Tryd.underlying57 h
  simp only [pairD, Prod.mk.injEq, DataW.agg.injEq, List.cons.injEq, and_true] at hx
  obtain ⟨⟨e0, e1⟩, _⟩ := hx
  obtain ⟨z0, c0, i0, _⟩ := DataW.trod_int Tryd.underlying3 h0
  obtain ⟨z1, c1, i1, _⟩ := DataW.trod_int Tryd.underlying3 h1
  rw [i0] at e0
  rw [i1] at e1
  simp only [DataW.lit.injEq, Lit.int.injEq, true_and] at e0 e1
  subst e0 e1
  have hl2 : c.length = 2 := hl.trans (by kernel_rfl)
  match c, hl2 with
  | [u, v], _ =>
    rw [show Tryd.prog.cellsOf 3 = 1 from by kernel_rfl] at c0 c1
    simp at c0 c1
    rw [c0, c1]
theorem ranges_read {W : World} {base : Nat} {sp : Nat → Bool} {held : Bool} {fuel : Nat} {cs : List Value} {p : List MemPlace} (h : DataW.trod (fun _ => ()) Tryd.prog W base sp held fuel 58 cs = some (rangesD, p)) : cs = rangesTab.map fun z => Value.int .i64 z := by
  obtain ⟨xs, m, _, hx, hl, hxl, hall⟩ := DataW.trod_array Tryd.underlying58 h
  have hl2 : cs.length = 14 := hl.trans (by kernel_rfl)
  rw [show Tryd.prog.cellsOf 57 = 2 from by kernel_rfl] at hall
  simp only [rangesD, Prod.mk.injEq, DataW.agg.injEq] at hx
  have hmap := hx.1
  match xs, hxl with
  | [x0, x1, x2, x3, x4, x5, x6], _ =>
    simp only [List.map_cons, List.map_nil, List.cons.injEq, and_true] at hmap
    obtain ⟨e0, e1, e2, e3, e4, e5, e6⟩ := hmap
    have q0 := hall 0 (by decide)
    have q1 := hall 1 (by decide)
    have q2 := hall 2 (by decide)
    have q3 := hall 3 (by decide)
    have q4 := hall 4 (by decide)
    have q5 := hall 5 (by decide)
    have q6 := hall 6 (by decide)
    obtain ⟨x0, y0⟩ := x0
    obtain ⟨x1, y1⟩ := x1
    obtain ⟨x2, y2⟩ := x2
    obtain ⟨x3, y3⟩ := x3
    obtain ⟨x4, y4⟩ := x4
    obtain ⟨x5, y5⟩ := x5
    obtain ⟨x6, y6⟩ := x6
    simp only at e0 e1 e2 e3 e4 e5 e6
    subst e0 e1 e2 e3 e4 e5 e6
    have r0 := pair_read q0
    have r1 := pair_read q1
    have r2 := pair_read q2
    have r3 := pair_read q3
    have r4 := pair_read q4
    have r5 := pair_read q5
    have r6 := pair_read q6
    match cs, hl2 with
    | [a0, a1, a2, a3, a4, a5, a6, a7, a8, a9, b0, b1, b2, b3], _ =>
      simp at r0 r1 r2 r3 r4 r5 r6
      simp [rangesTab, r0, r1, r2, r3, r4, r5, r6]
theorem tab_of_reads {W : World} {l : List (String × DataW Unit)} (h : laidMet Tryd.prog l W) (hm : ("internal/strconv.uint64pow10", Lib.tabData .u64 Lib.pow10Tab) ∈ l) (hm2 : ("cohousing/capital.ranges", rangesD) ∈ l) : TabOk W := by
  obtain ⟨ps, hv, _⟩ := h
  refine ⟨?_, ?_⟩
  · obtain ⟨g, t, cs, fuel, p, hg, hty, hvar, hd⟩ := laidVars_reads hv _ _ hm
    obtain rfl := Option.some.inj ((show Tryd.prog.globalNamed "internal/strconv.uint64pow10" = some 1 by kernel_rfl).symm.trans hg)
    obtain rfl := Option.some.inj ((show (Tryd.prog.globals[1]?).map (·.type) = some 84 by kernel_rfl).symm.trans hty)
    unfold Lib.TabIs
    rw [hvar, ← Lib.cells_of_tab Tryd.underlying84 Tryd.underlying68 (by kernel_rfl) (by kernel_rfl) hd]
  · obtain ⟨g, t, cs, fuel, p, hg, hty, hvar, hd⟩ := laidVars_reads hv _ _ hm2
    obtain rfl := Option.some.inj ((show Tryd.prog.globalNamed "cohousing/capital.ranges" = some 0 by kernel_rfl).symm.trans hg)
    obtain rfl := Option.some.inj ((show (Tryd.prog.globals[0]?).map (·.type) = some 58 by kernel_rfl).symm.trans hty)
    unfold Lib.TabIs
    rw [hvar, ← ranges_read hd]
theorem o_36 : Opens Tryd.prog k36 (fun v => (Lit.int .i64 v.f0).wf = true ∧ (Lit.int .i64 v.f1).wf = true ∧ (Lit.int .i64 v.f2).wf = true) 36 :=
  opens_struct (n := 3) Tryd.underlying36 (by kernel_rfl) (opensF_cons (s := 1) (n := 2) (opens_int Tryd.underlying3) rfl (by kernel_rfl) (opensF_cons (s := 1) (n := 1) (opens_int Tryd.underlying3) rfl (by kernel_rfl) (opensF_last (opens_int Tryd.underlying3) rfl (by kernel_rfl)) rfl (by decide)) rfl (by decide)) (fun x : S36 => (x.f0, x.f1, x.f2)) (fun x => ⟨x.1, x.2.1, x.2.2⟩) (fun _ => rfl)
theorem o_steps : Opens Tryd.prog (Kd.slice 36 k36) (fun l => l.length ≤ 9223372036854775807) 22 := (opens_slice Tryd.underlying22 (by kernel_rfl) o_36).imp fun _ h => h.2
theorem wf_u16 {a : Int} (h : (Lit.int .u16 a).wf = true) : 0 ≤ a ∧ a ≤ 65535 := by
  simp [Lit.wf, IntKind.min, IntKind.max, IntKind.bits, IntKind.signed] at h
  omega
theorem wf_u32 {a : Int} (h : (Lit.int .u32 a).wf = true) : 0 ≤ a ∧ a ≤ 4294967295 := by
  simp [Lit.wf, IntKind.min, IntKind.max, IntKind.bits, IntKind.signed] at h
  omega
theorem wf_i64 {a : Int} (h : (Lit.int .i64 a).wf = true) : -9223372036854775808 ≤ a ∧ a ≤ 9223372036854775807 := by
  simp [Lit.wf, IntKind.min, IntKind.max, IntKind.bits, IntKind.signed] at h
  omega
end Go.Proofs.YtdhnojfpgpjabaaDoor.P
