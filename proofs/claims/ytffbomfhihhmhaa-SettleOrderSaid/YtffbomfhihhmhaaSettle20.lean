/- The law SettleOrder of layer 31 returns true for every three lists of charges, and leaves its arguments as they were. No condition. -/
import Derived.Test.YtffbomfhihhmhaaSettle14
import Derived.Test.YtffbomfhihhmhaaSettle19
set_option linter.unusedSimpArgs false
set_option linter.unusedVariables false
namespace Go.Proofs.Ytffbomfhihhmhaa.Settle
open Go Go.RowKit Go.ChangeShapes Go.WideShapes Go.ChangeAt Go.Deep Go.Proofs.Ytffbomfhihhmhaa.Base

set_option maxRecDepth 100000 in
set_option maxHeartbeats 1000000 in
theorem order_lifted (os : Os) (started : os.Started) (H : Type) (enc : TypeId × Value → H) :
    ReturnsInHanded {} Try.checked os 5 .any (Rows.settleOrderSpec.pre6 enc Try.prog Try.f5 Rows.settleOrderRow.domain false) (Rows.settleOrderSpec.post enc Try.prog Try.f5 false true false false) := by
  refine returnsInHanded_of_change (C := Try.checked) own started (by kernel_rfl) Try.func5
    (ChangeSpec.witness6 (enc := enc) (C := Try.checked) false ⟨#[], #[.slice none 0 0, .slice none 0 0, .slice none 0 0], []⟩ 8 (by kernel_rfl) (by kernel_rfl) (by kernel_rfl) (by kernel_rfl)) ?_
  intro W base args ds gs before hval0 hW _ _
  have hval : ∀ (j : Nat) t v, Try.f5.params[j]? = some t → args[j]? = some v → Value.okWide Try.prog W .any base t v := hval0
  have hW' := hW
  obtain ⟨p, q, hA0, hV, rfl, _, _⟩ := hW
  have hA : DataW.TrodAll enc Try.prog W 0 (fun _ => true) true Try.f5.params.toList args.toList ds p := hA0
  rw [Try.params5] at hA hval
  obtain ⟨v0, v1, v2, d0, d1, d2, p0, p1, p2, rfl, rfl, rfl, h0, h1, h2⟩ := trodAll_three hA
  obtain ⟨rfl, rfl⟩ := trodVars_none hV
  obtain ⟨a0, len0, cap0, rfl⟩ := okWide_slice Try.underlying22 (hval 0 22 v0 rfl rfl)
  obtain ⟨a1, len1, cap1, rfl⟩ := okWide_slice Try.underlying22 (hval 1 22 v1 rfl rfl)
  obtain ⟨a2, len2, cap2, rfl⟩ := okWide_slice Try.underlying22 (hval 2 22 v2 rfl rfl)
  clear hA0 hval0
  simp only [List.append_nil] at hW'
  have hlt : ∀ x, (x ∈ p0 ∨ x ∈ p1 ∨ x ∈ p2) → x.block < W.heap.size := fun x hx => by
    have := hW'.lt x (by simp only [List.mem_append]; rcases hx with h | h | h <;> simp [h])
    simpa using this
  have g0 := fun W1 (hb : Below W.heap.size W W1) => Below.trod (enc := enc) laidOut (by kernel_rfl) (of_decide_eq_true (by kernel_rfl)) h0 hb (fun x hx => hlt x (.inl hx))
  have g1 := fun W1 (hb : Below W.heap.size W W1) => Below.trod (enc := enc) laidOut (by kernel_rfl) (of_decide_eq_true (by kernel_rfl)) h1 hb (fun x hx => hlt x (.inr (.inl hx)))
  have g2 := fun W1 (hb : Below W.heap.size W W1) => Below.trod (enc := enc) laidOut (by kernel_rfl) (of_decide_eq_true (by kernel_rfl)) h2 hb (fun x hx => hlt x (.inr (.inr hx)))
  obtain ⟨xs, rfl, r0, b0⟩ := open_rows cells_len Try.underlying22 cells36 (by omega) ch_down h0
  obtain ⟨ys, rfl, r1, b1⟩ := open_rows cells_len Try.underlying22 cells36 (by omega) ch_down h1
  obtain ⟨zs, rfl, r2, b2⟩ := open_rows cells_len Try.underlying22 cells36 (by omega) ch_down h2
  refine (order_calls xs ys zs a0 a1 a2 cap0 cap1 cap2 W b0 b1 b2 r0 r1 r2).mono ?_
  rintro e W1 ⟨rfl, hb⟩
  have hb : Below W.heap.size W W1 := hb
  refine ⟨_, rfl, _, _, _, [], _, [], hW', ?_, trodAll_mk3 (g0 W1 hb) (g1 W1 hb) (g2 W1 hb), rfl, hb.frame _, fun h => by cases h⟩
  exact trodAll_mk1 (shut_bool Try.underlying4 _)

theorem order_holds : Rows.SettleOrderSaid :=
  OpenClaim.holds_of_wide 5 Try.f5 rfl rfl rfl rfl rfl rfl rfl ⟨rfl, rfl, rfl, rfl, rfl⟩ rfl rfl rfl rfl rfl (by kernel_rfl) Try.func5 (by kernel_rfl)
    (of_decide_eq_true (by kernel_rfl)) (by unfold Func.isWrapper; first | (rw [if_pos (by decide +kernel)]; kernel_rfl) | (rw [if_neg (by decide +kernel)]; exact ⟨rfl, rfl⟩))
    (fun os started H enc _ => order_lifted os started H enc)
end Go.Proofs.Ytffbomfhihhmhaa.Settle
