/- What a row's condition on laid variables gives the walks; the kinds of the arguments, opened. -/
import Derived.Test.YtkdckjafhaadiaaDoorXints
import Derived.Lib.LaidTab
import Derived.Test.YtkdckjafhaadiaaDoorPx0
set_option linter.unusedSimpArgs false
set_option linter.unusedVariables false
namespace Go.Proofs.YtkdckjafhaadiaaDoor.P
open Go Go.RowKit Go.Proofs.YtkdckjafhaadiaaDoorW.PrintWords Go.Proofs.YtkdckjafhaadiaaDoor.Open
theorem laidVars_reads {P : Program} {w : World} : ∀ {l : List (String × DataW Unit)} {ps : List MemPlace}, DataW.LaidVars P w l ps → ∀ n d, (n, d) ∈ l →
    ∃ g t cs fuel p, P.globalNamed n = some g ∧ (P.globals[g]?).map (·.type) = some t ∧ w.var? P n = some cs ∧ DataW.trod (fun _ => ()) P w 0 (fun _ => true) false fuel t cs.toList = some (d, p)
  | [], _, _, _, _, hm => by cases hm
  | (n', d') :: r, ps, h, n, d, hm => by
    obtain ⟨g, t, cs, fuel, p, q, h1, h2, h3, h4, h5, _⟩ := h
    rcases List.mem_cons.1 hm with e | e
    · cases e
      exact ⟨g, t, cs, fuel, p, h1, h2, h3, h4⟩
    · exact laidVars_reads h5 n d e
theorem tab_of_reads {W : World} {l : List (String × DataW Unit)} (h : laidMet Tryd.prog l W) (hm : ("internal/strconv.uint64pow10", Lib.tabData .u64 Lib.pow10Tab) ∈ l) : TabOk W := by
  obtain ⟨ps, hv, _⟩ := h
  obtain ⟨g, t, cs, fuel, p, hg, hty, hvar, hd⟩ := laidVars_reads hv _ _ hm
  obtain rfl := Option.some.inj ((show Tryd.prog.globalNamed "internal/strconv.uint64pow10" = some 0 by kernel_rfl).symm.trans hg)
  obtain rfl := Option.some.inj ((show (Tryd.prog.globals[0]?).map (·.type) = some 114 by kernel_rfl).symm.trans hty)
  unfold TabOk Lib.TabIs
  rw [hvar, ← Lib.cells_of_tab Tryd.underlying114 Tryd.underlying23 (by kernel_rfl) (by kernel_rfl) hd]
theorem o_ints : Opens Tryd.prog (Kd.slice 3 (Kd.int .i64)) (fun l => (∀ a ∈ l, (Lit.int .i64 a).wf = true) ∧ l.length ≤ 9223372036854775807) 43 := opens_slice Tryd.underlying43 (by kernel_rfl) (opens_int Tryd.underlying3)
end Go.Proofs.YtkdckjafhaadiaaDoor.P
/- The kinds of chapter 43's arguments, opened. -/
set_option linter.unusedSimpArgs false
set_option linter.unusedVariables false
set_option linter.constructorNameAsVariable false
namespace Go.Proofs.YtkdckjafhaadiaaDoor.P
open Go Go.RowKit Go.Proofs.YtkdckjafhaadiaaDoorW.PrintWords Go.Proofs.YtkdckjafhaadiaaDoorW.PrintLast Go.Proofs.YtkdckjafhaadiaaDoorW.PrintMore Go.Proofs.YtkdckjafhaadiaaDoor.Open
def okL (v : S50) : Prop := (Lit.int .i64 v.f0).wf = true ∧ (Lit.int .i64 v.f1).wf = true ∧ (Lit.int .i64 v.f2).wf = true
set_option maxRecDepth 100000 in
theorem o_lin3 : Opens Tryd.prog k50 (fun v => (Lit.int .i64 v.f0).wf = true ∧ (Lit.int .i64 v.f1).wf = true ∧ (Lit.int .i64 v.f2).wf = true) 50 :=
  opens_struct (n := 3) Tryd.underlying50 (by kernel_rfl) (opensF_cons (s := 1) (n := 2) (opens_int Tryd.underlying3) rfl (by kernel_rfl) (opensF_cons (s := 1) (n := 1) (opens_int Tryd.underlying3) rfl (by kernel_rfl) (opensF_last (opens_int Tryd.underlying3) rfl (by kernel_rfl)) rfl (by decide)) rfl (by decide)) (fun x : S50 => (x.f0, x.f1, x.f2)) (fun x => ⟨x.1, x.2.1, x.2.2⟩) (fun _ => rfl)
theorem o_linP : Opens Tryd.prog k50 okL 50 := o_lin3.imp (fun _ h => h)
theorem o_lines : Opens Tryd.prog (Kd.slice 50 k50) (fun l => (∀ a ∈ l, okL a) ∧ l.length ≤ 9223372036854775807) 32 := opens_slice Tryd.underlying32 (by kernel_rfl) o_linP
theorem o_liness : Opens Tryd.prog (Kd.slice 32 (Kd.slice 50 k50)) (fun l => (∀ a ∈ l, (∀ b ∈ a, okL b) ∧ a.length ≤ 9223372036854775807) ∧ l.length ≤ 9223372036854775807) 22 := opens_slice Tryd.underlying22 (by kernel_rfl) o_lines
end Go.Proofs.YtkdckjafhaadiaaDoor.P
