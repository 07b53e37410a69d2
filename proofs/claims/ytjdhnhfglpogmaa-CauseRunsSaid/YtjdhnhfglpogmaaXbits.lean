/- Bits of unsigned numbers, as the walk spells them. -/
import Derived.Test.YtjdhnhfglpogmaaPx0
set_option linter.unusedSimpArgs false
set_option linter.unusedVariables false
namespace Go.Proofs.Ytjdhnhfglpogmaa.P
open Go.RowKit Go.Proofs.YtjdhnhfglpogmaaW.PrintWords Go.Proofs.YtjdhnhfglpogmaaW.PrintLast Go.Proofs.YtjdhnhfglpogmaaW.PrintMore

theorem wrap_u64 (n : Int) : IntKind.u64.wrap n = n % 18446744073709551616 := by simp [IntKind.wrap, IntKind.bits, IntKind.signed]
theorem u64_32 (n : Int) (h0 : 0 ≤ n) (h1 : n < 2 ^ 32) : IntKind.u64.wrap n = n := by rw [wrap_u64]; omega
theorem i64_32 (n : Int) (h0 : 0 ≤ n) (h1 : n < 2 ^ 32) : IntKind.i64.wrap n = n := by rw [IntKind.wrap_i64]; omega
theorem and_one (a : Nat) : a &&& 1 = if a.testBit 0 then 1 else 0 := by
  rw [Nat.and_one_is_mod, Nat.testBit_zero]
  by_cases h : a % 2 = 1
  · simp [h]
  · have : a % 2 = 0 := by omega
    simp [this]
theorem bit_u64 (s m : Nat) (hs : s < 2 ^ 32) : bits .and .u64 ((s : Int) / 2 ^ m) 1 = if s.testBit m then 1 else 0 := by
  have h1 : ((s : Int) / 2 ^ m) = ((s / 2 ^ m : Nat) : Int) := by simp
  have h2 : s / 2 ^ m < 2 ^ 32 := Nat.lt_of_le_of_lt (Nat.div_le_self _ _) hs
  rw [h1, show (1 : Int) = ((1 : Nat) : Int) from rfl, (bits_nat .u64 32 (by decide) u64_32 (s / 2 ^ m) 1 h2 (by decide)).1, and_one]
  have h3 : (s / 2 ^ m).testBit 0 = s.testBit m := by rw [← Nat.shiftRight_eq_div_pow, Nat.testBit_shiftRight, Nat.add_zero]
  rw [h3]
  split <;> rfl
theorem or_u64 (a b : Nat) (ha : a < 2 ^ 32) (hb : b < 2 ^ 32) : bits .or .u64 (a : Int) (b : Int) = ((a ||| b : Nat) : Int) := (bits_nat .u64 32 (by decide) u64_32 a b ha hb).2
theorem or_i64 (a b : Nat) (ha : a < 2 ^ 32) (hb : b < 2 ^ 32) : bits .or .i64 (a : Int) (b : Int) = ((a ||| b : Nat) : Int) := (bits_nat .i64 32 (by decide) i64_32 a b ha hb).2
theorem pow_lt32 {p : Nat} (hp : p < 32) : 2 ^ p < 2 ^ 32 := Nat.pow_lt_pow_right (by omega) hp
/-- out |= s >> m & 1 << p -/
theorem orbit_u64 (out s m p : Nat) (ho : out < 2 ^ 32) (hs : s < 2 ^ 32) (hp : p < 32) :
    bits .or .u64 (out : Int) (IntKind.u64.wrap (bits .and .u64 ((s : Int) / 2 ^ m) 1 * 2 ^ p)) = ((out ||| (if s.testBit m then 2 ^ p else 0) : Nat) : Int) := by
  rw [bit_u64 s m hs]
  have hpw := pow_lt32 hp
  split
  · rw [Int.one_mul, show ((2 : Int) ^ p) = ((2 ^ p : Nat) : Int) from by simp]
    generalize 2 ^ p = q at *
    rw [u64_32 _ (by omega) (by omega), or_u64 _ _ ho hpw]
  · rw [Int.zero_mul, u64_32 _ (by omega) (by omega), show (0 : Int) = ((0 : Nat) : Int) from rfl, or_u64 _ _ ho (by omega)]
theorem w64_32 (n : Int) (h0 : 0 ≤ n) (h1 : n < 2 ^ 32) : wrap64 n = n := by unfold wrap64; omega
theorem orbit_i64 (out s m p : Nat) (ho : out < 2 ^ 32) (hs : s < 2 ^ 32) (hp : p < 31) :
    bits .or .i64 (out : Int) (wrap64 (wrap64 (bits .and .u64 ((s : Int) / 2 ^ m) 1) * 2 ^ p)) = ((out ||| (if s.testBit m then 2 ^ p else 0) : Nat) : Int) := by
  rw [bit_u64 s m hs]
  have hpw := pow_lt32 (show p < 32 by omega)
  split
  · rw [w64_32 1 (by omega) (by omega), Int.one_mul, show ((2 : Int) ^ p) = ((2 ^ p : Nat) : Int) from by simp]
    generalize 2 ^ p = q at *
    rw [w64_32 _ (by omega) (by omega), or_i64 _ _ ho hpw]
  · rw [w64_32 0 (by omega) (by omega), Int.zero_mul, w64_32 0 (by omega) (by omega), show (0 : Int) = ((0 : Nat) : Int) from rfl, or_i64 _ _ ho (by omega)]
theorem shl_one_u64 (p : Nat) (hp : p < 32) : IntKind.u64.wrap (2 ^ p) = ((2 ^ p : Nat) : Int) := by
  have hpw := pow_lt32 hp
  rw [show ((2 : Int) ^ p) = ((2 ^ p : Nat) : Int) from by simp]
  generalize 2 ^ p = q at *
  exact u64_32 _ (by omega) (by omega)
end Go.Proofs.Ytjdhnhfglpogmaa.P
