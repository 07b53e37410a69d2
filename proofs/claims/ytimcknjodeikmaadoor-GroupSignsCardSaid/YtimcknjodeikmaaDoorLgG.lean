/- Layer 8: GroupSigns. -/
import Derived.Test.YtimcknjodeikmaaDoorLg2
import Derived.Test.YtimcknjodeikmaaDoorPx16
set_option linter.unusedSimpArgs false
set_option linter.unusedVariables false
namespace Go.Proofs.YtimcknjodeikmaaDoor.P
open Go Go.RowKit Go.Proofs.YtimcknjodeikmaaDoorW.PrintWords Go.Proofs.YtimcknjodeikmaaDoorW.PrintLast Go.Proofs.YtimcknjodeikmaaDoorW.PrintMore

theorem tmod_range (a : Int) : -1073741789 < Int.tmod a 1073741789 ∧ Int.tmod a 1073741789 < 1073741789 :=
  ⟨Int.lt_tmod_of_pos _ (by omega), Int.tmod_lt_of_pos _ (by omega)⟩
theorem signs_ev (a0 a1 : Int) (l : List Int) (c s : Int) (w0 : (Lit.int .u64 a0).wf = true) (w1 : (Lit.int .u64 a1).wf = true) (h : ∀ a ∈ l, (Lit.int .i64 a).wf = true) (b : l.length ≤ 9223372036854775807) :
    ∃ K, ∀ k, K ≤ k → cohousinglaw08_GroupSigns.f k a0 a1 l c s = some true := by
  refine ⟨40000, fun k hk => ?_⟩
  obtain ⟨k, rfl⟩ : ∃ m, k = m + 1 := ⟨k - 1, by omega⟩
  obtain ⟨p0, p1⟩ := sec_lt a0
  obtain ⟨q0, q1⟩ := sec_lt a1
  have m := few_msg h
  unfold cohousinglaw08_GroupSigns.f
  rw [head_k _ (by omega), refSecretOf_f a0 w0, refSecretOf_f a1 w1, few_f l b]
  simp only [obs]
  rw [refPub_f _ p1 _ (by omega), sign_f _ _ _ m _ (by omega)]
  simp only [obs]
  rw [verify_f _ _ _ _ m _ (by omega), verV_made p0 p1 q0 q1, signV_ok p0 p1 q0 q1]
  simp only [obs, if_true, Bool.not_true]
  simp only [cohousinglaw08_GroupSigns.j0, Bool.false_eq_true, if_false]
  have hc := tmod_range c
  have hs := tmod_range s
  rw [refRest_f _ (by omega) (by omega), refRest_f _ (by omega) (by omega)]
  simp only [obs]
  have ec : expB (Int.tmod c 1073741789 % 1073741789) = true := expB_of (by omega) (by omega)
  have es : expB (Int.tmod s 1073741789 % 1073741789) = true := expB_of (by omega) (by omega)
  generalize Int.tmod c 1073741789 % 1073741789 = x at *
  generalize Int.tmod s 1073741789 % 1073741789 = y at *
  have hm := (memB_nat _).2 ⟨pub_lt (sec a0), pub_el (sec a0)⟩
  rw [verify_f _ _ _ _ m _ (by omega), refBack_f 4 _ _ _ (by omega) hm ec es _ (by omega)]
  simp only [obs]
  have hml := m.1
  rw [if_pos (by simp only [List.length_cons, List.length_nil]; omega)]
  unfold verV
  rw [hm, ec, es]
  simp only [Bool.and_self, if_true]
  have hch := refChallenge_f (backV 4 (pub (sec a0)) x y :: (pub (sec a0) : Int) :: l.take 20) (by simp only [List.length_cons]; omega) (msg2 m (ok_back _ _ _ _) (ok_mem hm)) k (by simp only [List.length_cons]; omega)
  rw [show ([backV 4 (pub (sec a0)) x y, (pub (sec a0) : Int)] : List Int) ++ l.take 20 = backV 4 (pub (sec a0)) x y :: (pub (sec a0) : Int) :: l.take 20 from rfl, hch]
  simp
end Go.Proofs.YtimcknjodeikmaaDoor.P
