/- What a row's condition on laid variables gives the walks; the kinds of the arguments, opened. -/
import Derived.Test.YtcnkenknbmmglaaDoorXints
import Derived.Lib.LaidTab
set_option linter.unusedSimpArgs false
set_option linter.unusedVariables false
namespace Go.Proofs.YtcnkenknbmmglaaDoor.P
open Go Go.RowKit Go.Proofs.YtcnkenknbmmglaaDoorW.PrintWords Go.Proofs.YtcnkenknbmmglaaDoor.Open
theorem laidVars_reads {P : Program} {w : World} : ∀ {l : List (String × DataW Unit)} {ps : List MemPlace}, DataW.LaidVars P w l ps → ∀ n d, (n, d) ∈ l →
    ∃ g t cs fuel p, P.globalNamed n = some g ∧ (P.globals[g]?).map (·.type) = some t ∧ w.var? P n = some cs ∧ DataW.trod (fun _ => ()) P w 0 (fun _ => true) false fuel t cs.toList = some (d, p)
  | [], _, _, _, _, hm => by cases hm
  | (n', d') :: r, ps, h, n, d, hm => by
    obtain ⟨g, t, cs, fuel, p, q, h1, h2, h3, h4, h5, _⟩ := h
    rcases List.mem_cons.1 hm with e | e
    · cases e
      exact ⟨g, t, cs, fuel, p, h1, h2, h3, h4⟩
    · exact laidVars_reads h5 n d e
theorem tab_of_reads {W : World} {l : List (String × DataW Unit)} (h : laidMet Tryd.prog l W) (hm : ("internal/strconv.uint64pow10", Lib.tabData .u64 Lib.pow10Tab) ∈ l) : TabOk W := by
  obtain ⟨ps, hv, _⟩ := h
  obtain ⟨g, t, cs, fuel, p, hg, hty, hvar, hd⟩ := laidVars_reads hv _ _ hm
  obtain rfl := Option.some.inj ((show Tryd.prog.globalNamed "internal/strconv.uint64pow10" = some 0 by kernel_rfl).symm.trans hg)
  obtain rfl := Option.some.inj ((show (Tryd.prog.globals[0]?).map (·.type) = some 103 by kernel_rfl).symm.trans hty)
  unfold TabOk Lib.TabIs
  rw [hvar, ← Lib.cells_of_tab Tryd.underlying103 Tryd.underlying43 (by kernel_rfl) (by kernel_rfl) hd]
theorem o_ints : Opens Tryd.prog (Kd.slice 3 (Kd.int .i64)) (fun l => (∀ a ∈ l, (Lit.int .i64 a).wf = true) ∧ l.length ≤ 9223372036854775807) 23 := opens_slice Tryd.underlying23 (by kernel_rfl) (opens_int Tryd.underlying3)
end Go.Proofs.YtcnkenknbmmglaaDoor.P
