/- The law SettleMatchesReference of layer 31 returns true for every two lists of charges and every two amounts, and leaves its arguments as they were. No condition. -/
import Derived.Test.YtffbomfhihhmhaaBaseO
import Derived.Test.YtffbomfhihhmhaaSettle13
set_option linter.unusedSimpArgs false
set_option linter.unusedVariables false
namespace Go.Proofs.Ytffbomfhihhmhaa.Settle
open Go Go.RowKit Go.ChangeShapes Go.WideShapes Go.ChangeAt Go.Deep Go.Proofs.Ytffbomfhihhmhaa.Base

theorem cells36 : Try.prog.cellsOf 36 = 5 := by kernel_rfl
theorem cells34 : Try.prog.cellsOf 34 = 2 := by kernel_rfl
theorem cells3 : Try.prog.cellsOf 3 = 1 := by kernel_rfl
theorem cells4 : Try.prog.cellsOf 4 = 1 := by kernel_rfl
theorem ch_down {H : Type} {enc : TypeId × Value → H} {W : World} {base : Nat} {sp : Nat → Bool} {hd : Bool} (fuel : Nat) (cs : List Value) (x : DataW H × List MemPlace) (h : DataW.trod enc Try.prog W base sp hd fuel 36 cs = some x) : ∃ c : Ch, cs = c.cells := by
  obtain ⟨y0, y1, y2, y3, n, _, hl, h0, h1, h2, h3⟩ := Go.Joins.trod_struct4 Try.underlying36 h
  obtain ⟨z0, z1, m, _, hl2, g0, g1⟩ := trod_struct2 Try.underlying34 h2
  simp only [cells36] at hl
  simp only [cells34] at hl2 g0 g1 h2
  simp only [cells3] at h0 h1 g0 g1
  simp only [cells4] at h3
  obtain ⟨n0, e0, _⟩ := DataW.trod_int Try.underlying3 h0
  obtain ⟨n1, e1, _⟩ := DataW.trod_int Try.underlying3 h1
  obtain ⟨n2, e2, _⟩ := DataW.trod_int Try.underlying3 g0
  obtain ⟨n3, e3, _⟩ := DataW.trod_int Try.underlying3 g1
  obtain ⟨b4, e4, _⟩ := DataW.trod_bool Try.underlying4 h3
  match cs, hl with
  | [c0, c1, c2, c3, c4], _ =>
    simp [cells34] at e0 e1 e2 e3 e4
    subst e0 e1 e2 e3 e4
    exact ⟨⟨n0, n1, n2, n3, b4⟩, rfl⟩

set_option maxRecDepth 100000 in
set_option maxHeartbeats 1000000 in
theorem lifted (os : Os) (started : os.Started) (H : Type) (enc : TypeId × Value → H) :
    ReturnsInHanded {} Try.checked os 3 .any (Rows.settleMatchesReferenceSpec.pre6 enc Try.prog Try.f3 Rows.settleMatchesReferenceRow.domain false) (Rows.settleMatchesReferenceSpec.post enc Try.prog Try.f3 false true false false) := by
  refine returnsInHanded_of_change (C := Try.checked) own started (by kernel_rfl) Try.func3
    (ChangeSpec.witness6 (enc := enc) (C := Try.checked) false ⟨#[], #[.slice none 0 0, .slice none 0 0, .int .i64 0, .int .i64 0], []⟩ 8 (by kernel_rfl) (by kernel_rfl) (by kernel_rfl) (by kernel_rfl)) ?_
  intro W base args ds gs before hval0 hW _ _
  have hval : ∀ (j : Nat) t v, Try.f3.params[j]? = some t → args[j]? = some v → Value.okWide Try.prog W .any base t v := hval0
  have hW' := hW
  obtain ⟨p, q, hA0, hV, rfl, _, _⟩ := hW
  have hA : DataW.TrodAll enc Try.prog W 0 (fun _ => true) true Try.f3.params.toList args.toList ds p := hA0
  rw [Try.params3] at hA hval
  obtain ⟨v0, v1, v2, v3, d0, d1, d2, d3, p0, p1, p2, p3, rfl, rfl, rfl, h0, h1, h2, h3⟩ := trodAll_four hA
  obtain ⟨rfl, rfl⟩ := trodVars_none hV
  obtain ⟨a0, len0, cap0, rfl⟩ := okWide_slice Try.underlying22 (hval 0 22 v0 rfl rfl)
  obtain ⟨a1, len1, cap1, rfl⟩ := okWide_slice Try.underlying22 (hval 1 22 v1 rfl rfl)
  obtain ⟨n2, rfl, rfl, rfl, w2⟩ := open_int Try.underlying3 (hval 2 3 v2 rfl rfl) h2
  obtain ⟨n3, rfl, rfl, rfl, w3⟩ := open_int Try.underlying3 (hval 3 3 v3 rfl rfl) h3
  clear hA0 hval0
  simp only [List.append_nil] at hW'
  have hlt : ∀ x ∈ p0 ++ p1, x.block < W.heap.size := fun x hx => by simpa using hW'.lt x hx
  have g0 := fun W1 (hb : Below W.heap.size W W1) => Below.trod (enc := enc) laidOut (by kernel_rfl) (of_decide_eq_true (by kernel_rfl)) h0 hb (fun x hx => hlt x (List.mem_append.2 (.inl hx)))
  have g1 := fun W1 (hb : Below W.heap.size W W1) => Below.trod (enc := enc) laidOut (by kernel_rfl) (of_decide_eq_true (by kernel_rfl)) h1 hb (fun x hx => hlt x (List.mem_append.2 (.inr hx)))
  obtain ⟨xs, rfl, r0, b0⟩ := open_rows cells_len Try.underlying22 cells36 (by omega) ch_down h0
  obtain ⟨ys, rfl, r1, b1⟩ := open_rows cells_len Try.underlying22 cells36 (by omega) ch_down h1
  refine (law_calls xs ys n2 n3 a0 a1 cap0 cap1 W b0 b1 r0 r1).mono ?_
  rintro e W1 ⟨rfl, hb⟩
  have hb : Below W.heap.size W W1 := hb
  refine ⟨_, rfl, _, _, _, [], _, [], hW', ?_, trodAll_mk4 (g0 W1 hb) (g1 W1 hb) (shut_int Try.underlying3 w2) (shut_int Try.underlying3 w3), rfl, hb.frame _, fun h => by cases h⟩
  exact trodAll_mk1 (shut_bool Try.underlying4 _)

theorem holds : Rows.SettleMatchesReferenceSaid :=
  OpenClaim.holds_of_wide 3 Try.f3 rfl rfl rfl rfl rfl rfl rfl ⟨rfl, rfl, rfl, rfl, rfl⟩ rfl rfl rfl rfl rfl (by kernel_rfl) Try.func3 (by kernel_rfl)
    (of_decide_eq_true (by kernel_rfl)) (by unfold Func.isWrapper; first | (rw [if_pos (by decide +kernel)]; kernel_rfl) | (rw [if_neg (by decide +kernel)]; exact ⟨rfl, rfl⟩))
    (fun os started H enc _ => lifted os started H enc)
end Go.Proofs.Ytffbomfhihhmhaa.Settle
