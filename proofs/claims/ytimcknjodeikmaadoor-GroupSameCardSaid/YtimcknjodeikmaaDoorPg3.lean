/- Layer 8: the examples, few, words: what the laws share. -/
import Derived.Test.YtimcknjodeikmaaDoorPg2
import Derived.KernelRfl
import Derived.Test.YtimcknjodeikmaaDoorPx6
import Derived.Test.YtimcknjodeikmaaDoorPx7
set_option linter.unusedSimpArgs false
set_option linter.unusedVariables false
namespace Go.Proofs.YtimcknjodeikmaaDoor.P
open Go Go.RowKit Go.Proofs.YtimcknjodeikmaaDoorW.PrintWords Go.Proofs.YtimcknjodeikmaaDoorW.PrintLast Go.Proofs.YtimcknjodeikmaaDoorW.PrintMore

theorem head_10 : cohousinglaw08_head.f 10 = some true := by kernel_rfl
theorem head_k : ∀ k, 10 ≤ k → cohousinglaw08_head.f k = some true
  | 0, h => by omega
  | k + 1, h => by
    by_cases e : k + 1 = 10
    · rw [e]; exact head_10
    · exact cohousinglaw08_head.mono k _ (head_k k (by omega))

theorem wf_u64 {a : Int} (h : (Lit.int .u64 a).wf = true) : 0 ≤ a ∧ a < 18446744073709551616 := by
  simp [Lit.wf, IntKind.min, IntKind.max, IntKind.bits, IntKind.signed] at h
  omega
theorem wf_i64 {a : Int} (h : (Lit.int .i64 a).wf = true) : -9223372036854775808 ≤ a ∧ a ≤ 9223372036854775807 := by
  simp [Lit.wf, IntKind.min, IntKind.max, IntKind.bits, IntKind.signed] at h
  omega
/-- 'Option.bind_some', not by computation (the kernel may compute the wrong side). -/
theorem obs {α β : Type} (a : α) (f : α → Option β) : (some a).bind f = f a := (Option.bind_some a f).trans (Eq.refl _)
theorem few_f (l : List Int) (hl : l.length ≤ 9223372036854775807) : cohousinglaw08_few.f l = some (l.take 20) := by
  unfold cohousinglaw08_few.f
  have h : mn (l.length : Int) 20 = ((min l.length 20 : Nat) : Int) := by unfold mn; omega
  rw [h, if_pos (by omega), if_pos (by omega), Int.toNat_natCast]
  congr 1
  rcases Nat.le_total l.length 20 with h1 | h1
  · rw [Nat.min_eq_left h1, List.take_length, List.take_of_length_le h1]
  · rw [Nat.min_eq_right h1]
theorem few_msg {l : List Int} (h : ∀ a ∈ l, (Lit.int .i64 a).wf = true) : Msg (l.take 20) := by
  refine ⟨by rw [List.length_take]; omega, fun x hx => ?_⟩
  have := wf_i64 (h x (List.mem_of_mem_take hx))
  exact okInt_of this.1 this.2
end Go.Proofs.YtimcknjodeikmaaDoor.P
