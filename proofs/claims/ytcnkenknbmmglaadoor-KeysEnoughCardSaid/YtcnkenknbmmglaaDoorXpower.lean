/- group.power: powers by squaring, with its two boxed variables. -/
import Derived.Test.YtcnkenknbmmglaaDoorGen
import Derived.Test.YtcnkenknbmmglaaDoorPy0

set_option linter.unusedSimpArgs false
set_option linter.unusedVariables false
namespace Go.Proofs.YtcnkenknbmmglaaDoor.P
open Go Go.RowKit Go.Proofs.YtcnkenknbmmglaaDoorW.PrintWords Go.Proofs.YtcnkenknbmmglaaDoorW.PrintLast Go.Proofs.YtcnkenknbmmglaaDoorW.PrintMore

/-- A product modulo P. -/
def mulP (n b : Int) : Int := Int.tmod (wrap64 (n * b)) 2147483579
/-- A power by squaring, in at most so many rounds. -/
def powZ : Nat → Int → Int → Int → Int
  | 0, _, _, o => o
  | k + 1, a, x, o => if 0 < x then powZ k (mulP a a) (x / 2) (if x % 2 = 1 then mulP o a else o) else o
theorem powZ_end (k : Nat) (a x o : Int) (h : ¬ 0 < x) : powZ k a x o = o := by
  cases k with
  | zero => rfl
  | succ k => rw [powZ, if_neg h]

set_option maxRecDepth 100000 in
theorem times_out (n b : Int) (o : Obj) (w : World) :
    Calls Tryd.prog 68 #[.pointer (some ⟨w.heap.size + 1, 0, none⟩), .int .i64 b] ((w.alloc o).alloc (.cells #[.int .i64 n] 3)) fun e w' => e = .returned (.tuple #[]) ∧ w' = (w.alloc o).alloc (.cells #[.int .i64 (mulP n b)] 3) := by
  go_enter Tryd.func68, Tryd.ntmps68
  go_wp2_with fail
  go_end0
  exact ⟨rfl, rfl⟩
set_option maxRecDepth 100000 in
theorem times_a (n b : Int) (o : Obj) (w : World) :
    Calls Tryd.prog 68 #[.pointer (some ⟨w.heap.size, 0, none⟩), .int .i64 b] ((w.alloc (.cells #[.int .i64 n] 3)).alloc o) fun e w' => e = .returned (.tuple #[]) ∧ w' = (w.alloc (.cells #[.int .i64 (mulP n b)] 3)).alloc o := by
  go_enter Tryd.func68, Tryd.ntmps68
  go_wp2_with fail
  go_end0
  exact ⟨rfl, rfl⟩
theorem and1 (x : Int) (h0 : 0 < x) (h1 : x < 2 ^ 63) : Go.bits .and .i64 x 1 = x % 2 := by
  obtain ⟨n, rfl⟩ := Int.eq_ofNat_of_zero_le (Int.le_of_lt h0)
  have hn : n < 9223372036854775808 := by omega
  have hm : n % 2 < 2 := Nat.mod_lt _ (by omega)
  have e : (BitVec.ofInt IntKind.i64.bits (n : Int) &&& BitVec.ofInt IntKind.i64.bits 1).toNat = n % 2 := by
    rw [BitVec.toNat_and, BitVec.toNat_ofInt, BitVec.toNat_ofInt]
    show ((n : Int) % 18446744073709551616).toNat &&& 1 = n % 2
    rw [show ((n : Int) % 18446744073709551616).toNat = n from by omega, Nat.and_one_is_mod]
  unfold Go.bits
  simp only [e]
  rw [IntKind.wrap_i64]
  omega
set_option maxRecDepth 100000 in
set_option maxHeartbeats 1000000 in
theorem power_calls (a x : Int) (w : World) (hx : x < 2 ^ 63) :
    Calls Tryd.prog 53 #[.int .i64 a, .int .i64 x] w fun e w' => e = .returned (.int .i64 (powZ 64 a x 1)) ∧ Below w.heap.size w w' := by
  go_enter Tryd.func53, Tryd.ntmps53
  go_wp2_with fail
  go_loopw [1] (fun v wr => ∃ (k : Nat) (a' x' o' : Int), v = .int .i64 x' ∧ wr = (w.alloc (.cells #[.int .i64 a'] 3)).alloc (.cells #[.int .i64 o'] 3) ∧ x' < 2 ^ 63 ∧ x' < 2 ^ k ∧ Hid (powZ k a' x' o' = powZ 64 a x 1)) (fun v _ => (intOf v).toNat)
  case atStart => exact ⟨64, a, x, 1, rfl, rfl, hx, by omega, rfl⟩
  case round =>
    obtain ⟨k, a', x', o', rfl, rfl, hx', hk, hp⟩ := hrel
    by_cases h0 : 0 < x'
    · obtain ⟨k, rfl⟩ : ∃ m, k = m + 1 := ⟨k - 1, by rcases k with _ | k <;> simp at hk ⊢; omega⟩
      unfold Hid at hp
      rw [powZ, if_pos h0] at hp
      have HP := Lib.hid hp
      clear hp
      have hsh : 0 < x' := h0
      by_cases h1 : x' % 2 = 1
      · have hb : (Go.bits .and .i64 x' 1 == 1) = true := by rw [and1 x' h0 hx', h1]; rfl
        rw [if_pos h1] at HP
        go_wp2_with fail
        refine (times_out o' a' _ w).mono ?_
        rintro e w' ⟨rfl, rfl⟩
        go_wp2_with fail
        refine (times_a a' a' _ w).mono ?_
        rintro e w' ⟨rfl, rfl⟩
        go_wp2_with fail
        go_roundw
        case rel =>
          exact ⟨k, mulP a' a', x' / 2, mulP o' a', rfl, rfl, by omega, by rw [Int.pow_succ] at hk; omega, HP.out⟩
        case measure => simp [intOf]; omega
      · have hb : (Go.bits .and .i64 x' 1 == 1) = false := by rw [and1 x' h0 hx']; simpa using h1
        rw [if_neg h1] at HP
        go_wp2_with fail
        refine (times_a a' a' _ w).mono ?_
        rintro e w' ⟨rfl, rfl⟩
        go_wp2_with fail
        go_roundw
        case rel => exact ⟨k, mulP a' a', x' / 2, o', rfl, rfl, by omega, by rw [Int.pow_succ] at hk; omega, HP.out⟩
        case measure => simp [intOf]; omega
    · go_wp2_with fail
      go_ret
      unfold Hid at hp
      rw [powZ_end _ _ _ _ (by omega)] at hp
      subst hp
      exact ⟨rfl, below_alloc (below_alloc (Below.refl _ _) _) _⟩
def group_power.f (a0 : Int) (a1 : Int) : Option (Int) := if a1 < 2 ^ 63 then some (powZ 64 a0 a1 1) else none
theorem group_power.calls (a0 : Int) (a1 : Int) (r : Int) (w : World) (h : group_power.f a0 a1 = some r) :
    Calls Tryd.prog 53 #[.int .i64 a0, .int .i64 a1] w fun e w' => e = .returned (.int .i64 r) ∧ Below w.heap.size w w' := by
  unfold group_power.f at h
  by_cases hx : a1 < 2 ^ 63
  · rw [if_pos hx] at h
    obtain rfl := Option.some.inj h
    exact power_calls a0 a1 w hx
  · rw [if_neg hx] at h
    cases h
end Go.Proofs.YtcnkenknbmmglaaDoor.P
