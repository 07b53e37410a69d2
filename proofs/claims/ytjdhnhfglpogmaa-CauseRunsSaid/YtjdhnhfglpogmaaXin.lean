/- cohousinglaw36.in: whether all numbers of a list are in another one. -/
import Derived.Test.YtjdhnhfglpogmaaXBlame
import Derived.Test.YtjdhnhfglpogmaaSets
set_option linter.unusedSimpArgs false
set_option linter.unusedVariables false
namespace Go.Proofs.Ytjdhnhfglpogmaa.P
open Go Go.RowKit Go.Proofs.YtjdhnhfglpogmaaW.PrintWords Go.Proofs.YtjdhnhfglpogmaaW.PrintLast Go.Proofs.YtjdhnhfglpogmaaW.PrintMore

theorem set_contains (ks : List Int) (x y : Int) : (if ks.contains x then ks else ks ++ [x]).contains y = (ks.contains y || (y == x)) := by
  split
  · rename_i h
    by_cases e : y = x
    · subst e; rw [h]; rfl
    · simp [e]
  · by_cases e : y = x
    · subst e; simp
    · simp [e]
def inB (l m : List Int) : Bool := l.all (fun x => m.contains x)
set_option maxHeartbeats 2000000 in
theorem in_calls (A0 : Option Addr) (c0 : Nat) (l0 : List Int) (A1 : Option Addr) (c1 : Nat) (l1 : List Int) (w : World) (hr0 : Kd.C (Kd.int .i64) w A0 l0.length l0) (hr1 : Kd.C (Kd.int .i64) w A1 l1.length l1) :
    Calls Try.prog 29 #[.slice A0 l0.length c0, .slice A1 l1.length c1] w fun e w' => e = .returned (.bool (inB l0 l1)) ∧ Below w.heap.size w w' := by
  have HR0 := Lib.hid hr0
  have HR1 := Lib.hid hr1
  have hl0 : l0.length ≤ 9223372036854775807 := hr0.2.1
  have hl1 : l1.length ≤ 9223372036854775807 := hr1.2.1
  clear hr0 hr1
  have hmm := @run_makeMap Try.prog
  have hlk : ∀ (W : World) (ks : List Int) (x : Int), IntSet W w.heap.size ks → (Instr.lookup 53 (.map (some w.heap.size)) (.int .i64 x) false).run Try.prog W = .ok (.bool (ks.contains x)) W := fun W ks x h =>
    run_lookup_set Try.underlying53 Try.underlying3 (fun w => Try.zeroValue4 w) h x
  have HLK := Lib.hid hlk
  clear hlk
  go_enter Try.func29, Try.ntmps29
  go_wp2_with fail
  clear hmm
  go_loopw [13] (fun i wr => ∃ (k : Nat) (ks : List Int), k ≤ l1.length ∧ i = .int .i64 k ∧ IntSet wr w.heap.size ks ∧ Hid (∀ y, ks.contains y = (l1.take k).contains y) ∧ Below w.heap.size w wr) (fun i _ => l1.length - (intOf i).toNat)
  case atStart => exact ⟨0, [], Nat.zero_le _, rfl, IntSet.new w, fun y => by simp, below_alloc (Below.refl _ _) _⟩
  case round =>
    obtain ⟨k, ks, hk, rfl, hset, hks, hB⟩ := hrel
    by_cases hlt : k < l1.length
    · obtain ⟨ad, e, hx0⟩ := Kd.at_int HR1.out (k : Int) (by omega) (by omega)
      cases e
      simp only [Int.toNat_natCast] at hx0
      replace hx0 := (hB.cell (World.block_lt_of_cell? w _ hx0)).trans hx0
      have htk : Hid (l1.take (k + 1) = l1.take k ++ [rd l1 k]) := by unfold Hid; rw [List.take_succ_eq_append_getElem hlt]; simp [rd, List.getD_eq_getElem?_getD, List.getElem?_eq_getElem hlt]
      generalize rd l1 (k : Int) = x at *
      have HSET := Lib.hid hset
      clear hset
      go_wp2_with (at_mapUpdate; refine wpList_update_set rfl _ _ _ rfl Try.underlying53 Try.underlying3 rfl HSET.out _ rfl rfl ?_; intro W2 hm2 hg2; have HK := Lib.hid (And.intro hm2 (hB.grown hg2 hB.size (fun k_ hk_ => by cases hk_; exact Nat.le_refl _))); clear hm2 hg2)
      go_roundw
      case rel => exact ⟨k + 1, _, by omega, by go_num, HK.out.1, fun y => by rw [set_contains, hks.out, htk.out, Bool.eq_iff_iff]; simp, HK.out.2⟩
      case measure => simp [intOf]; omega
    · obtain rfl : k = l1.length := by omega
      have HKS : Hid (∀ y, ks.contains y = l1.contains y) := fun y => by rw [hks.out, List.take_length]
      clear hks
      go_wp2_with fail
      go_loopw [22] (fun i wq => ∃ (j : Nat), j ≤ l0.length ∧ i = .int .i64 j ∧ Hid ((l0.take j).all (fun x => l1.contains x) = true) ∧ wr = wq) (fun i _ => l0.length - (intOf i).toNat)
      case atStart => exact ⟨0, Nat.zero_le _, rfl, rfl, rfl⟩
      case round =>
        obtain ⟨j, hj, rfl, hall, rfl⟩ := hrel
        by_cases hlt2 : j < l0.length
        · obtain ⟨ad, e, hx0⟩ := Kd.at_int HR0.out (j : Int) (by omega) (by omega)
          cases e
          simp only [Int.toNat_natCast] at hx0
          replace hx0 := (hB.cell (World.block_lt_of_cell? w _ hx0)).trans hx0
          have htk : Hid (l0.take (j + 1) = l0.take j ++ [rd l0 j]) := by unfold Hid; rw [List.take_succ_eq_append_getElem hlt2]; simp [rd, List.getD_eq_getElem?_getD, List.getElem?_eq_getElem hlt2]
          have hmem : Hid (rd l0 j ∈ l0) := by unfold Hid; simp [rd, List.getD_eq_getElem?_getD, List.getElem?_eq_getElem hlt2]
          generalize rd l0 (j : Int) = x at *
          have hlx := HLK.out wr ks x hset
          rw [HKS.out x] at hlx
          cases hc : l1.contains x with
          | false =>
            rw [hc] at hlx
            have HH : Hid (inB l0 l1 = false) := by unfold Hid inB; rw [List.all_eq_false]; exact ⟨x, hmem.out, by rw [hc]; simp⟩
            clear hc
            go_wp2_with fail
            go_ret
            exact ⟨by rw [HH.out]; rfl, hB⟩
          | true =>
            rw [hc] at hlx
            have HA : Hid ((l0.take (j + 1)).all (fun x => l1.contains x) = true) := by unfold Hid; rw [htk.out, List.all_append, hall.out]; simp only [List.all_cons, List.all_nil, hc]; rfl
            clear hc
            go_wp2_with fail
            go_roundw
            case rel => exact ⟨j + 1, by omega, by go_num, HA, trivial⟩
            case measure => simp [intOf]; omega
        · have HH : Hid (inB l0 l1 = true) := by
            have h := hall.out
            rw [List.take_of_length_le (by omega)] at h
            exact h
          go_wp2_with fail
          go_ret
          exact ⟨by rw [HH.out]; rfl, hB⟩
def cohousinglaw36_in.f (l0 : List Int) (l1 : List Int) : Option (Bool) := some (inB l0 l1)
theorem cohousinglaw36_in.calls (A0 : Option Addr) (c0 : Nat) (l0 : List Int) (A1 : Option Addr) (c1 : Nat) (l1 : List Int) (r : Bool) (w : World) (hr0 : Kd.C (Kd.int .i64) w A0 l0.length l0) (hc0 : l0.length ≤ c0) (hr1 : Kd.C (Kd.int .i64) w A1 l1.length l1) (hc1 : l1.length ≤ c1) (h : cohousinglaw36_in.f l0 l1 = some r) :
    Calls Try.prog 29 #[.slice A0 l0.length c0, .slice A1 l1.length c1] w fun e w' => e = .returned (.bool r) ∧ Below w.heap.size w w' := by
  have hs := in_calls A0 c0 l0 A1 c1 l1 w hr0 hr1
  have e := Option.some.inj h
  rw [e] at hs
  exact hs
end Go.Proofs.Ytjdhnhfglpogmaa.P
