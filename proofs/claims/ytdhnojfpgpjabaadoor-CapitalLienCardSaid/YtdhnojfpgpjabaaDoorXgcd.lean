/- rational.common: the greatest common divisor (a loop with a label). -/
import Derived.Test.YtdhnojfpgpjabaaDoorGen
import Derived.Test.YtdhnojfpgpjabaaDoorXWm
import Derived.Test.YtdhnojfpgpjabaaDoorWLast
import Derived.Deep.LoopGhost
import Derived.Test.YtdhnojfpgpjabaaDoorProg
import Derived.WalkKit
import Derived.Test.YtdhnojfpgpjabaaDoorOrd
set_option linter.unusedSimpArgs false
set_option linter.unusedVariables false
namespace Go.Proofs.YtdhnojfpgpjabaaDoor.P
open Go Go.RowKit Go.Proofs.YtdhnojfpgpjabaaDoorW.PrintWords Go.Proofs.YtdhnojfpgpjabaaDoorW.PrintLast Go.Proofs.YtdhnojfpgpjabaaDoorW.PrintMore Go.Proofs.YtdhnojfpgpjabaaDoor.Ord

def rational_common.l0 : Nat → Int → Int → Option Int
  | 0, _, _ => none
  | k + 1, a, b => if b = 0 then some a else rational_common.l0 k b (Int.tmod a b)
def rational_common.f (k : Nat) (a0 : Int) (a1 : Int) : Option (Int) := rational_common.l0 k a0 a1
theorem rational_common.mono_l : ∀ (k : Nat) (a b : Int), LeO (rational_common.l0 k a b) (rational_common.l0 (k + 1) a b)
  | 0, a, b => fun r h => by simp [rational_common.l0] at h
  | k + 1, a, b => by
    unfold rational_common.l0
    by_cases h : b = 0
    · rw [if_pos h, if_pos h]
      exact LeO.refl _
    · rw [if_neg h, if_neg h]
      exact rational_common.mono_l k b (Int.tmod a b)
theorem rational_common.mono (a0 a1 : Int) (k : Nat) : LeO (rational_common.f k a0 a1) (rational_common.f (k + 1) a0 a1) := rational_common.mono_l k a0 a1
set_option maxRecDepth 100000 in
set_option maxHeartbeats 1000000 in
theorem rational_common.calls (k : Nat) (a0 : Int) (a1 : Int) (r : Int) (w : World) (h : rational_common.f k a0 a1 = some r) :
    Calls Tryd.prog 38 #[.int .u64 a0, .int .u64 a1] w fun e w' => e = .returned (.int .u64 r) ∧ Below w.heap.size w w' := by
  have H' := Lib.hid h
  clear h
  go_enter Tryd.func38, Tryd.ntmps38
  go_wp2_with fail
  go_step3
  go_wp2_with fail
  go_step3
  go_wp2_with fail
  go_loopg [0, 1] k (fun kq v0 v1 w' => ∃ x y : Int, v0 = .int .u64 x ∧ v1 = .int .u64 y ∧ Hid (rational_common.l0 kq x y = some r) ∧ Hid (kq ≤ k) ∧ Below w.heap.size w w')
  case atStart => exact ⟨a0, a1, rfl, rfl, H'.out, Nat.le_refl _, Below.refl _ _⟩
  case round =>
    clear H'
    obtain ⟨x, y, rfl, rfl, HA, HK1, hB⟩ := hrel
    cases gk with
    | zero => exact absurd HA.out (by simp [rational_common.l0])
    | succ k1 =>
      have H := HA.out
      clear HA
      simp only [rational_common.l0] at H
      by_cases c : y = 0
      · rw [if_pos c] at H
        obtain rfl := Option.some.inj H
        subst c
        go_wp2_with fail
        try rw [Exit.noGoto_ret]
        go_ret
        exact ⟨rfl, hB⟩
      · rw [if_neg c] at H
        have HA := Lib.hid H
        clear H
        have c1 : (y == 0) = false := by rw [beq_eq_false_iff_ne]; exact c
        go_wp2_with fail
        refine wp_region_auto (fun W => Below w.heap.size w W) ((0, none, none) :: (0, none, none) :: (0, none, none) :: (0, none, none) :: (0, none, none) :: (0, none, none) :: []) (by kernel_rfl) (by kernel_rfl) (fun _ _ d _ _ h => by cases d <;> exact h) (below_drew1 hB) ?_
        repeat' (first
          | (with_reducible apply rel_pass
             focus (intro W hW; first | (go_simp; exact rfl) | go_simp)
             simp only [Act.put, List.setIfInBounds_toArray, List.set_cons_zero, List.set_cons_succ])
          | (with_reducible apply rel_yes
             focus (exact rfl))
          | (with_reducible apply rel_no
             focus (exact rfl)
             simp only [Act.put, List.setIfInBounds_toArray, List.set_cons_zero, List.set_cons_succ])
          | (with_reducible apply rel_askF
             focus (exact rfl)
             all_goals (intro hb; simp only [hb, Act.put, List.setIfInBounds_toArray, List.set_cons_zero, List.set_cons_succ]))
          | (with_reducible apply rel_askT
             focus (exact rfl)
             all_goals (intro hb; simp only [hb, Act.put, List.setIfInBounds_toArray, List.set_cons_zero, List.set_cons_succ]))
          | (with_reducible apply rel_front1)
          | (with_reducible apply rel_front2)
          | (with_reducible apply rel_front3)
          | (with_reducible apply rel_front4)
          | (with_reducible apply rel_front5)
          | (with_reducible apply rel_front6))
        apply rel_nil
        simp only [Exit.then, Exit.inBlock]
        go_wp2_with fail
        go_roundg k1
        case measure => have := HK1.out; omega
        case rel => exact ⟨y, Int.tmod x y, rfl, rfl, HA, by have := HK1.out; unfold Hid; omega, below_drew1 hB⟩
end Go.Proofs.YtdhnojfpgpjabaaDoor.P
