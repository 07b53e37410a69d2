/- Layer 6: the bytes of nodes. -/
import Derived.Test.YtolgpnbjjehdiaaDoorPd
import Derived.Test.YtolgpnbjjehdiaaDoorPx2
set_option linter.unusedSimpArgs false
set_option linter.unusedVariables false
namespace Go.Proofs.YtolgpnbjjehdiaaDoor.P
open Go Go.RowKit Go.Proofs.YtolgpnbjjehdiaaDoorW.PrintWords Go.Proofs.YtolgpnbjjehdiaaDoorW.PrintLast Go.Proofs.YtolgpnbjjehdiaaDoorW.PrintMore

theorem octs_eq (n : Int) : octs n = [n / 2 ^ 56 % 256, n / 2 ^ 48 % 256, n / 2 ^ 40 % 256, n / 2 ^ 32 % 256, n / 2 ^ 24 % 256, n / 2 ^ 16 % 256, n / 2 ^ 8 % 256, n / 2 ^ 0 % 256] := rfl
theorem shr_k (n : Int) (k : Nat) (hk : k ≤ 64) : shr .u64 n (k : Int) = n / 2 ^ k := by
  unfold shr
  rw [Int.toNat_natCast, Nat.min_eq_left (by simpa [IntKind.bits] using hk)]
/-- The eight bytes of one number. -/
theorem bytes_l1 (acc : List Int) (n : Int) (x11 : List Int) (x12 x13 : Int) (ha : acc.length ≤ 1000000) (k : Nat) :
    cohousinglaw06_bytes.l1 (k + 9) acc n 56 x11 x12 x13 = cohousinglaw06_bytes.l0 k (acc ++ octs n) x11 x12 (wrap64 (x13 + 1)) := by
  have step : ∀ (k j : Nat) (acc : List Int), j ≤ 56 → acc.length ≤ 1000010 → cohousinglaw06_bytes.l1 (k + 1) acc n (j : Int) x11 x12 x13 = cohousinglaw06_bytes.l1 k (acc ++ [n / 2 ^ j % 256]) n ((j : Int) - 8) x11 x12 x13 := by
    intro k j acc hj hl
    simp only [cohousinglaw06_bytes.l1]
    rw [if_pos (by omega), if_pos (by omega), if_pos (by omega), shr_k n j (by omega), wrap_id (by omega) (by omega)]
  have s8 := step (k + 8) 56 acc (by omega) (by omega)
  have s7 := step (k + 7) 48 (acc ++ [n / 2 ^ 56 % 256]) (by omega) (by simp; omega)
  have s6 := step (k + 6) 40 (acc ++ [n / 2 ^ 56 % 256] ++ [n / 2 ^ 48 % 256]) (by omega) (by simp; omega)
  have s5 := step (k + 5) 32 (acc ++ [n / 2 ^ 56 % 256] ++ [n / 2 ^ 48 % 256] ++ [n / 2 ^ 40 % 256]) (by omega) (by simp; omega)
  have s4 := step (k + 4) 24 (acc ++ [n / 2 ^ 56 % 256] ++ [n / 2 ^ 48 % 256] ++ [n / 2 ^ 40 % 256] ++ [n / 2 ^ 32 % 256]) (by omega) (by simp; omega)
  have s3 := step (k + 3) 16 (acc ++ [n / 2 ^ 56 % 256] ++ [n / 2 ^ 48 % 256] ++ [n / 2 ^ 40 % 256] ++ [n / 2 ^ 32 % 256] ++ [n / 2 ^ 24 % 256]) (by omega) (by simp; omega)
  have s2 := step (k + 2) 8 (acc ++ [n / 2 ^ 56 % 256] ++ [n / 2 ^ 48 % 256] ++ [n / 2 ^ 40 % 256] ++ [n / 2 ^ 32 % 256] ++ [n / 2 ^ 24 % 256] ++ [n / 2 ^ 16 % 256]) (by omega) (by simp; omega)
  have s1 := step (k + 1) 0 (acc ++ [n / 2 ^ 56 % 256] ++ [n / 2 ^ 48 % 256] ++ [n / 2 ^ 40 % 256] ++ [n / 2 ^ 32 % 256] ++ [n / 2 ^ 24 % 256] ++ [n / 2 ^ 16 % 256] ++ [n / 2 ^ 8 % 256]) (by omega) (by simp; omega)
  have e : ∀ (k : Nat) (acc : List Int), cohousinglaw06_bytes.l1 (k + 1) acc n (-8) x11 x12 x13 = cohousinglaw06_bytes.l0 k acc x11 x12 (wrap64 (x13 + 1)) := by
    intro k acc
    simp only [cohousinglaw06_bytes.l1]
    rw [if_neg (by omega)]
  refine s8.trans (s7.trans (s6.trans (s5.trans (s4.trans (s3.trans (s2.trans (s1.trans ?_)))))))
  refine (e k _).trans ?_
  rw [octs_eq]
  simp only [List.append_assoc, List.singleton_append]
  rfl
theorem bytes_one (b n : Int) (k : Nat) (hk : 20 ≤ k) : cohousinglaw06_bytes.f k b [n] = some (b :: octs n) := by
  obtain ⟨k, rfl⟩ : ∃ m, k = m + 11 := ⟨k - 11, by omega⟩
  unfold cohousinglaw06_bytes.f
  simp only [cohousinglaw06_bytes.l0]
  rw [if_pos (by simp), if_pos (by omega), if_pos (by simp), show k + 10 = (k + 1) + 9 from rfl, bytes_l1 _ _ _ _ _ (by simp)]
  simp only [cohousinglaw06_bytes.l0]
  rw [show wrap64 (0 + 1) = 1 from wrap_id (by omega) (by omega), if_neg (by simp)]
  rfl
theorem bytes_two (b n m : Int) (k : Nat) (hk : 40 ≤ k) : cohousinglaw06_bytes.f k b [n, m] = some (b :: (octs n ++ octs m)) := by
  obtain ⟨k, rfl⟩ : ∃ m, k = m + 22 := ⟨k - 22, by omega⟩
  unfold cohousinglaw06_bytes.f
  simp only [cohousinglaw06_bytes.l0]
  rw [if_pos (by simp), if_pos (by omega), if_pos (by simp), show k + 21 = (k + 12) + 9 from rfl, bytes_l1 _ _ _ _ _ (by simp)]
  rw [show wrap64 (0 + 1) = 1 from wrap_id (by omega) (by omega)]
  simp only [cohousinglaw06_bytes.l0]
  rw [if_pos (by simp), if_pos (by omega), if_pos (by simp), show k + 11 = (k + 2) + 9 from rfl, bytes_l1 _ _ _ _ _ (by rw [List.length_append, octs_len]; simp)]
  simp only [cohousinglaw06_bytes.l0]
  rw [show wrap64 (1 + 1) = 2 from wrap_id (by omega) (by omega), if_neg (by simp)]
  rfl
end Go.Proofs.YtolgpnbjjehdiaaDoor.P
