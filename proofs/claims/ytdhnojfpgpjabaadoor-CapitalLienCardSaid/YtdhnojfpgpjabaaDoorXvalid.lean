/- Chapter 32: capital.valid, that is: money.Text's error. strconv's table lies as laid. -/
import Derived.Test.YtdhnojfpgpjabaaDoorGen
import Derived.Test.YtdhnojfpgpjabaaDoorXWm
import Derived.Test.YtdhnojfpgpjabaaDoorOrd
import Derived.Test.YtdhnojfpgpjabaaDoorWLast
import Derived.Test.YtdhnojfpgpjabaaDoorShelfI
import Derived.Lib.AppendIntMem
import Derived.Lib.ItoaLen
set_option linter.unusedSimpArgs false
set_option linter.unusedVariables false
namespace Go.Proofs.YtdhnojfpgpjabaaDoor.P
open Go Go.RowKit Go.Proofs.YtdhnojfpgpjabaaDoorW.PrintWords Go.Proofs.YtdhnojfpgpjabaaDoorW.PrintLast Go.Proofs.YtdhnojfpgpjabaaDoorW.PrintMore Go.Proofs.YtdhnojfpgpjabaaDoor.Ord

/-- The bounds of a step's number, by its kind. -/
def rangesTab : List Int := [0, 0, 1, 1000000000, 1, 100000, 0, 10000, 1, 1000000000, 1, 1000000000, 0, 0]
/-- strconv's table of powers of ten, and package capital's ranges, lie as laid. -/
def TabOk (w : World) : Prop := Lib.TabIs Tryd.prog w "internal/strconv.uint64pow10" .u64 Lib.pow10Tab ∧ Lib.TabIs Tryd.prog w "cohousing/capital.ranges" .i64 rangesTab
theorem TabOk.below {w w' : World} (h : TabOk w) (hb : Below w.heap.size w w') : TabOk w' := ⟨Lib.tabBelow_of_tabIs h.1 w' hb, Lib.tabBelow_of_tabIs h.2 w' hb⟩
/-- An amount. -/
def amtB (c : Int) : Bool := decide (-1000000000 ≤ c) && decide (c ≤ 1000000000)
theorem amount_calls (c : Int) (w : World) : Calls Tryd.prog 34 #[.int .i64 c] w fun e w' => e = .returned (.bool (amtB c)) ∧ w' = w := by
  unfold amtB
  by_cases h1 : -1000000000 ≤ c
  · by_cases h2 : c ≤ 1000000000
    · have b1 := decide_eq_true h1
      have b2 := decide_eq_true h2
      rw [b1, b2]
      clear h1 h2
      go_enter Tryd.func34, Tryd.ntmps34
      go_wp2_with fail
      go_ret
      exact ⟨rfl, rfl⟩
    · have b1 := decide_eq_true h1
      have b2 := decide_eq_false h2
      rw [b1, b2]
      clear h1 h2
      go_enter Tryd.func34, Tryd.ntmps34
      go_wp2_with fail
      go_ret
      exact ⟨rfl, rfl⟩
  · have b1 := decide_eq_false h1
    rw [b1]
    clear h1
    go_enter Tryd.func34, Tryd.ntmps34
    go_wp2_with fail
    go_ret
    exact ⟨rfl, rfl⟩
theorem itoa_calls (n : Int) (h0 : -9223372036854775808 ≤ n) (h1 : n ≤ 9223372036854775807) (w : World) (hT : TabOk w) :
    Calls Tryd.prog 40 #[.int .i64 n] w fun e w' => e = .returned (.string ⟨(Lib.itoa n).toArray⟩) ∧ Below w.heap.size w w' := by
  refine (Any.strconv_Itoa Tryd.laysM171 n h0 h1 w hT.1).mono ?_
  rintro e w' ⟨rfl, k, os, rfl⟩
  exact ⟨rfl, Lib.below_grow w.heap.size w (Nat.le_refl _) k os⟩
theorem itoa_len (n : Int) (h0 : -9223372036854775808 ≤ n) (h1 : n ≤ 9223372036854775807) : 1 ≤ (⟨(Lib.itoa n).toArray⟩ : ByteArray).size ∧ (⟨(Lib.itoa n).toArray⟩ : ByteArray).size ≤ 21 := by
  have e : (⟨(Lib.itoa n).toArray⟩ : ByteArray).size = (Lib.itoa n).length := by simp [ByteArray.size]
  rw [e]
  refine ⟨?_, Lib.itoa_length_le n h0 h1⟩
  unfold Lib.itoa
  split
  · simp
  · rw [Lib.decDigits]
    split <;> simp
set_option maxRecDepth 100000 in
set_option maxHeartbeats 1000000 in
theorem text_calls (c : Int) (w : World) (hT : TabOk w) :
    Calls Tryd.prog 36 #[.int .i64 c] w fun e w' => (∃ s, e = .returned (.tuple #[.string s, .int .i64 (if amtB c = true then 0 else 1)])) ∧ Below w.heap.size w w' := by
  have HA := amount_calls c w
  have HT := Lib.hid hT
  clear hT
  cases hb : amtB c with
  | false =>
    rw [hb] at HA
    have HA := Lib.hid HA
    clear hb
    go_enter Tryd.func36, Tryd.ntmps36
    go_wp2_with fail
    refine HA.out.mono ?_
    rintro e w1 ⟨rfl, rfl⟩
    go_wp2_with fail
    go_ret2
    exact ⟨⟨_, rfl⟩, Below.refl _ _⟩
  | true =>
    rw [hb] at HA
    have HA := Lib.hid HA
    have hbd : -1000000000 ≤ c ∧ c ≤ 1000000000 := by unfold amtB at hb; simpa using hb
    clear hb
    by_cases hn : c < 0
    · obtain ⟨m, rfl⟩ : ∃ m : Nat, c = -(m : Int) := ⟨c.natAbs, by omega⟩
      have b1 : decide (-(m : Int) < 0) = true := decide_eq_true hn
      have hm0 : 0 < m := by omega
      have hm : m ≤ 1000000000 := by omega
      clear hn hbd
      go_enter Tryd.func36, Tryd.ntmps36
      go_wp2_with fail
      refine HA.out.mono ?_
      rintro e w1 ⟨rfl, rfl⟩
      have L1 := itoa_len (100 + (m : Int) % 100) (by omega) (by omega)
      have L2 := itoa_len ((m : Int) / 100) (by omega) (by omega)
      have C1 := Lib.hid (fun w h => itoa_calls (100 + (m : Int) % 100) (by omega) (by omega) w h)
      have C2 := Lib.hid (fun w h => itoa_calls ((m : Int) / 100) (by omega) (by omega) w h)
      generalize (⟨(Lib.itoa (100 + (m : Int) % 100)).toArray⟩ : ByteArray) = s1 at L1 C1
      generalize (⟨(Lib.itoa ((m : Int) / 100)).toArray⟩ : ByteArray) = s2 at L2 C2
      obtain ⟨L1a, L1b⟩ := L1
      obtain ⟨L2a, L2b⟩ := L2
      have q1 : (9223372036854775807 < 1 + s2.size) = False := eq_false (by omega)
      have q2 : (9223372036854775807 < 1 + s2.size + 1) = False := eq_false (by omega)
      have hx : (s1.extract 1 s1.size).size = s1.size - 1 := by simp
      have q3 : (9223372036854775807 < 1 + s2.size + 1 + (s1.size - 1)) = False := eq_false (by omega)
      have L1i : (1 : Int) ≤ (s1.size : Int) := by omega
      go_wp2_with fail
      refine (C1.out _ HT.out).mono ?_
      rintro e w2 ⟨rfl, hb2⟩
      have HB2 := Lib.hid hb2
      clear hb2
      go_wp2_with fail
      refine wp_region_auto (fun W => Below w1.heap.size w1 W) ((0, none, none) :: (0, none, none) :: (0, none, none) :: (3, none, none) :: (3, none, none) :: (0, none, some true) :: (0, none, none) :: (0, none, none) :: (0, none, none) :: (0, none, none) :: (0, none, none) :: []) (by kernel_rfl) (by kernel_rfl) (fun _ _ d _ _ h => by cases d <;> exact h) (below_drew1 HB2.out) ?_
      repeat' (first
        | (with_reducible apply rel_pass
           focus (intro W hW; first | (go_simp; exact rfl) | go_simp)
           simp only [Act.put, List.setIfInBounds_toArray, List.set_cons_zero, List.set_cons_succ])
        | (with_reducible apply rel_yes
           focus (exact rfl))
        | (with_reducible apply rel_no
           focus (exact rfl)
           simp only [Act.put, List.setIfInBounds_toArray, List.set_cons_zero, List.set_cons_succ])
        | (with_reducible apply rel_askF
           focus (exact rfl)
           all_goals (intro hb; simp only [hb, Act.put, List.setIfInBounds_toArray, List.set_cons_zero, List.set_cons_succ]))
        | (with_reducible apply rel_askT
           focus (exact rfl)
           all_goals (intro hb; simp only [hb, Act.put, List.setIfInBounds_toArray, List.set_cons_zero, List.set_cons_succ]))
        | (with_reducible apply rel_front1)
        | (with_reducible apply rel_front2)
        | (with_reducible apply rel_front3)
        | (with_reducible apply rel_front4)
        | (with_reducible apply rel_front5)
        | (with_reducible apply rel_front6))
      with_reducible apply rel_act
      intro K hK
      go_simp
      rw [show IntKind.i64.wrap ((m : Int) / 100) = (m : Int) / 100 from by rw [IntKind.wrap_i64]; omega]
      refine (C2.out _ (TabOk.below HT.out (below_drew1 HB2.out))).mono ?_
      rintro e w3 ⟨rfl, hb3⟩
      have HB3 := Lib.hid (below_step (below_drew1 HB2.out) hb3)
      clear hb3
      refine hK _ _ ⟨fun _ => HB3.out, ?_⟩
      clear hK K
      try simp only [Act.put, List.setIfInBounds_toArray, List.set_cons_zero, List.set_cons_succ]
      repeat' (first
        | (with_reducible apply rel_pass
           focus (intro W hW; first | (go_simp; exact rfl) | go_simp)
           simp only [Act.put, List.setIfInBounds_toArray, List.set_cons_zero, List.set_cons_succ])
        | (with_reducible apply rel_yes
           focus (exact rfl))
        | (with_reducible apply rel_no
           focus (exact rfl)
           simp only [Act.put, List.setIfInBounds_toArray, List.set_cons_zero, List.set_cons_succ])
        | (with_reducible apply rel_askF
           focus (exact rfl)
           all_goals (intro hb; simp only [hb, Act.put, List.setIfInBounds_toArray, List.set_cons_zero, List.set_cons_succ]))
        | (with_reducible apply rel_askT
           focus (exact rfl)
           all_goals (intro hb; simp only [hb, Act.put, List.setIfInBounds_toArray, List.set_cons_zero, List.set_cons_succ]))
        | (with_reducible apply rel_front1)
        | (with_reducible apply rel_front2)
        | (with_reducible apply rel_front3)
        | (with_reducible apply rel_front4)
        | (with_reducible apply rel_front5)
        | (with_reducible apply rel_front6))
      apply rel_nil
      simp only [Exit.then, Exit.inBlock]
      go_wp2_with fail
      go_ret2
      exact ⟨⟨_, rfl⟩, HB3.out⟩
    · obtain ⟨m, rfl⟩ : ∃ m : Nat, c = (m : Int) := ⟨c.natAbs, by omega⟩
      have b1 : decide ((m : Int) < 0) = false := decide_eq_false hn
      have hm : m ≤ 1000000000 := by omega
      clear hn hbd
      go_enter Tryd.func36, Tryd.ntmps36
      go_wp2_with fail
      refine HA.out.mono ?_
      rintro e w1 ⟨rfl, rfl⟩
      have L1 := itoa_len (100 + (m : Int) % 100) (by omega) (by omega)
      have L2 := itoa_len ((m : Int) / 100) (by omega) (by omega)
      have C1 := Lib.hid (fun w h => itoa_calls (100 + (m : Int) % 100) (by omega) (by omega) w h)
      have C2 := Lib.hid (fun w h => itoa_calls ((m : Int) / 100) (by omega) (by omega) w h)
      generalize (⟨(Lib.itoa (100 + (m : Int) % 100)).toArray⟩ : ByteArray) = s1 at L1 C1
      generalize (⟨(Lib.itoa ((m : Int) / 100)).toArray⟩ : ByteArray) = s2 at L2 C2
      obtain ⟨L1a, L1b⟩ := L1
      obtain ⟨L2a, L2b⟩ := L2
      have q0 : (9223372036854775807 < s2.size) = False := eq_false (by omega)
      have q1 : (9223372036854775807 < s2.size + 1) = False := eq_false (by omega)
      have hx : (s1.extract 1 s1.size).size = s1.size - 1 := by simp
      have q3 : (9223372036854775807 < s2.size + 1 + (s1.size - 1)) = False := eq_false (by omega)
      have L1i : (1 : Int) ≤ (s1.size : Int) := by omega
      go_wp2_with fail
      refine (C1.out _ HT.out).mono ?_
      rintro e w2 ⟨rfl, hb2⟩
      have HB2 := Lib.hid hb2
      clear hb2
      go_wp2_with fail
      refine wp_region_auto (fun W => Below w1.heap.size w1 W) ((0, none, none) :: (0, none, none) :: (0, none, none) :: (3, none, none) :: (3, none, none) :: (0, none, some true) :: (0, none, none) :: (0, none, none) :: (0, none, none) :: (0, none, none) :: (0, none, none) :: []) (by kernel_rfl) (by kernel_rfl) (fun _ _ d _ _ h => by cases d <;> exact h) (below_drew1 HB2.out) ?_
      repeat' (first
        | (with_reducible apply rel_pass
           focus (intro W hW; first | (go_simp; exact rfl) | go_simp)
           simp only [Act.put, List.setIfInBounds_toArray, List.set_cons_zero, List.set_cons_succ])
        | (with_reducible apply rel_yes
           focus (exact rfl))
        | (with_reducible apply rel_no
           focus (exact rfl)
           simp only [Act.put, List.setIfInBounds_toArray, List.set_cons_zero, List.set_cons_succ])
        | (with_reducible apply rel_askF
           focus (exact rfl)
           all_goals (intro hb; simp only [hb, Act.put, List.setIfInBounds_toArray, List.set_cons_zero, List.set_cons_succ]))
        | (with_reducible apply rel_askT
           focus (exact rfl)
           all_goals (intro hb; simp only [hb, Act.put, List.setIfInBounds_toArray, List.set_cons_zero, List.set_cons_succ]))
        | (with_reducible apply rel_front1)
        | (with_reducible apply rel_front2)
        | (with_reducible apply rel_front3)
        | (with_reducible apply rel_front4)
        | (with_reducible apply rel_front5)
        | (with_reducible apply rel_front6))
      with_reducible apply rel_act
      intro K hK
      go_simp
      rw [show IntKind.i64.wrap ((m : Int) / 100) = (m : Int) / 100 from by rw [IntKind.wrap_i64]; omega]
      refine (C2.out _ (TabOk.below HT.out (below_drew1 HB2.out))).mono ?_
      rintro e w3 ⟨rfl, hb3⟩
      have HB3 := Lib.hid (below_step (below_drew1 HB2.out) hb3)
      clear hb3
      refine hK _ _ ⟨fun _ => HB3.out, ?_⟩
      clear hK K
      try simp only [Act.put, List.setIfInBounds_toArray, List.set_cons_zero, List.set_cons_succ]
      repeat' (first
        | (with_reducible apply rel_pass
           focus (intro W hW; first | (go_simp; exact rfl) | go_simp)
           simp only [Act.put, List.setIfInBounds_toArray, List.set_cons_zero, List.set_cons_succ])
        | (with_reducible apply rel_yes
           focus (exact rfl))
        | (with_reducible apply rel_no
           focus (exact rfl)
           simp only [Act.put, List.setIfInBounds_toArray, List.set_cons_zero, List.set_cons_succ])
        | (with_reducible apply rel_askF
           focus (exact rfl)
           all_goals (intro hb; simp only [hb, Act.put, List.setIfInBounds_toArray, List.set_cons_zero, List.set_cons_succ]))
        | (with_reducible apply rel_askT
           focus (exact rfl)
           all_goals (intro hb; simp only [hb, Act.put, List.setIfInBounds_toArray, List.set_cons_zero, List.set_cons_succ]))
        | (with_reducible apply rel_front1)
        | (with_reducible apply rel_front2)
        | (with_reducible apply rel_front3)
        | (with_reducible apply rel_front4)
        | (with_reducible apply rel_front5)
        | (with_reducible apply rel_front6))
      apply rel_nil
      simp only [Exit.then, Exit.inBlock]
      go_wp2_with fail
      go_ret2
      exact ⟨⟨_, rfl⟩, HB3.out⟩
set_option maxRecDepth 100000 in
theorem valid_calls (c : Int) (w : World) (hT : TabOk w) : Calls Tryd.prog 26 #[.int .i64 c] w fun e w' => e = .returned (.bool (amtB c)) ∧ Below w.heap.size w w' := by
  have HX := Lib.hid (text_calls c w hT)
  clear hT
  cases hb : amtB c with
  | false =>
    rw [hb] at HX
    clear hb
    go_enter Tryd.func26, Tryd.ntmps26
    go_wp2_with fail
    refine HX.out.mono ?_
    rintro e w1 ⟨⟨s, rfl⟩, hb1⟩
    go_wp2_with fail
    go_ret
    exact ⟨rfl, hb1⟩
  | true =>
    rw [hb] at HX
    clear hb
    go_enter Tryd.func26, Tryd.ntmps26
    go_wp2_with fail
    refine HX.out.mono ?_
    rintro e w1 ⟨⟨s, rfl⟩, hb1⟩
    go_wp2_with fail
    go_ret
    exact ⟨rfl, hb1⟩
def capital_valid.f (a0 : Int) : Option (Bool) := some (amtB a0)
theorem capital_valid.calls (a0 : Int) (r : Bool) (w : World) (hT : TabOk w) (h : capital_valid.f a0 = some r) :
    Calls Tryd.prog 26 #[.int .i64 a0] w fun e w' => e = .returned (.bool r) ∧ Below w.heap.size w w' := by
  obtain rfl := Option.some.inj h
  exact valid_calls a0 w hT
end Go.Proofs.YtdhnojfpgpjabaaDoor.P
