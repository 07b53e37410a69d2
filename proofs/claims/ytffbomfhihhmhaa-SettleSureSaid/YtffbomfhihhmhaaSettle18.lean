/- The law SettleSure of layer 31 returns true for every two lists of charges and every two amounts, and leaves its arguments as they were. No condition. -/
import Derived.Test.YtffbomfhihhmhaaSettle14
import Derived.Test.YtffbomfhihhmhaaSettle17
set_option linter.unusedSimpArgs false
set_option linter.unusedVariables false
namespace Go.Proofs.Ytffbomfhihhmhaa.Settle
open Go Go.RowKit Go.ChangeShapes Go.WideShapes Go.ChangeAt Go.Deep Go.Proofs.Ytffbomfhihhmhaa.Base

set_option maxRecDepth 100000 in
set_option maxHeartbeats 1000000 in
theorem sure_lifted (os : Os) (started : os.Started) (H : Type) (enc : TypeId × Value → H) :
    ReturnsInHanded {} Try.checked os 7 .any (Rows.settleSureSpec.pre6 enc Try.prog Try.f7 Rows.settleSureRow.domain false) (Rows.settleSureSpec.post enc Try.prog Try.f7 false true false false) := by
  refine returnsInHanded_of_change (C := Try.checked) own started (by kernel_rfl) Try.func7
    (ChangeSpec.witness6 (enc := enc) (C := Try.checked) false ⟨#[], #[.slice none 0 0, .slice none 0 0, .int .i64 0, .int .i64 0], []⟩ 8 (by kernel_rfl) (by kernel_rfl) (by kernel_rfl) (by kernel_rfl)) ?_
  intro W base args ds gs before hval0 hW _ _
  have hval : ∀ (j : Nat) t v, Try.f7.params[j]? = some t → args[j]? = some v → Value.okWide Try.prog W .any base t v := hval0
  have hW' := hW
  obtain ⟨p, q, hA0, hV, rfl, _, _⟩ := hW
  have hA : DataW.TrodAll enc Try.prog W 0 (fun _ => true) true Try.f7.params.toList args.toList ds p := hA0
  rw [Try.params7] at hA hval
  obtain ⟨v0, v1, v2, v3, d0, d1, d2, d3, p0, p1, p2, p3, rfl, rfl, rfl, h0, h1, h2, h3⟩ := trodAll_four hA
  obtain ⟨rfl, rfl⟩ := trodVars_none hV
  obtain ⟨a0, len0, cap0, rfl⟩ := okWide_slice Try.underlying22 (hval 0 22 v0 rfl rfl)
  obtain ⟨a1, len1, cap1, rfl⟩ := okWide_slice Try.underlying22 (hval 1 22 v1 rfl rfl)
  obtain ⟨n2, rfl, rfl, rfl, w2⟩ := open_int Try.underlying3 (hval 2 3 v2 rfl rfl) h2
  obtain ⟨n3, rfl, rfl, rfl, w3⟩ := open_int Try.underlying3 (hval 3 3 v3 rfl rfl) h3
  clear hA0 hval0
  simp only [List.append_nil] at hW'
  have hlt : ∀ x ∈ p0 ++ p1, x.block < W.heap.size := fun x hx => by simpa using hW'.lt x hx
  have g0 := fun W1 (hb : Below W.heap.size W W1) => Below.trod (enc := enc) laidOut (by kernel_rfl) (of_decide_eq_true (by kernel_rfl)) h0 hb (fun x hx => hlt x (List.mem_append.2 (.inl hx)))
  have g1 := fun W1 (hb : Below W.heap.size W W1) => Below.trod (enc := enc) laidOut (by kernel_rfl) (of_decide_eq_true (by kernel_rfl)) h1 hb (fun x hx => hlt x (List.mem_append.2 (.inr hx)))
  obtain ⟨xs, rfl, r0, b0⟩ := open_rows cells_len Try.underlying22 cells36 (by omega) ch_down h0
  obtain ⟨ys, rfl, r1, b1⟩ := open_rows cells_len Try.underlying22 cells36 (by omega) ch_down h1
  refine (sure_calls xs ys n2 n3 a0 a1 cap0 cap1 W b0 b1 r0 r1).mono ?_
  rintro e W1 ⟨rfl, hb⟩
  have hb : Below W.heap.size W W1 := hb
  refine ⟨_, rfl, _, _, _, [], _, [], hW', ?_, trodAll_mk4 (g0 W1 hb) (g1 W1 hb) (shut_int Try.underlying3 w2) (shut_int Try.underlying3 w3), rfl, hb.frame _, fun h => by cases h⟩
  exact trodAll_mk1 (shut_bool Try.underlying4 _)

theorem sure_holds : Rows.SettleSureSaid :=
  OpenClaim.holds_of_wide 7 Try.f7 rfl rfl rfl rfl rfl rfl rfl ⟨rfl, rfl, rfl, rfl, rfl⟩ rfl rfl rfl rfl rfl (by kernel_rfl) Try.func7 (by kernel_rfl)
    (of_decide_eq_true (by kernel_rfl)) (by unfold Func.isWrapper; first | (rw [if_pos (by decide +kernel)]; kernel_rfl) | (rw [if_neg (by decide +kernel)]; exact ⟨rfl, rfl⟩))
    (fun os started H enc _ => sure_lifted os started H enc)
end Go.Proofs.Ytffbomfhihhmhaa.Settle
