/- Layer 6: digests are one to one in each of their bytes; DigestOneByte. -/
import Derived.Test.YtolgpnbjjehdiaaDoorPd
import Derived.Test.YtolgpnbjjehdiaaDoorPx10
set_option linter.unusedSimpArgs false
set_option linter.unusedVariables false
namespace Go.Proofs.YtolgpnbjjehdiaaDoor.P
open Go Go.RowKit Go.Proofs.YtolgpnbjjehdiaaDoorW.PrintWords Go.Proofs.YtolgpnbjjehdiaaDoorW.PrintLast Go.Proofs.YtolgpnbjjehdiaaDoorW.PrintMore

theorem xor_u64 (a b : Nat) (ha : a < 18446744073709551616) (hb : b < 18446744073709551616) : Go.bits .xor .u64 (a : Int) (b : Int) = ((a ^^^ b : Nat) : Int) := by
  have hx : a ^^^ b < 18446744073709551616 := Nat.xor_lt_two_pow (n := 64) ha hb
  have e : (BitVec.ofInt IntKind.u64.bits (a : Int) ^^^ BitVec.ofInt IntKind.u64.bits (b : Int)).toNat = a ^^^ b := by
    rw [BitVec.toNat_xor, BitVec.toNat_ofInt, BitVec.toNat_ofInt]
    show ((a : Int) % 18446744073709551616).toNat ^^^ ((b : Int) % 18446744073709551616).toNat = a ^^^ b
    rw [show ((a : Int) % 18446744073709551616).toNat = a from by omega, show ((b : Int) % 18446744073709551616).toNat = b from by omega]
  unfold Go.bits
  simp only [e]
  simp [IntKind.wrap, IntKind.bits, IntKind.signed]
  omega
theorem stepB_nat (h x : Nat) (hh : h < 18446744073709551616) (hx : x < 256) : stepB (h : Int) (x : Int) = (((h ^^^ x) * 1099511628211 % 18446744073709551616 : Nat) : Int) := by
  have e : IntKind.u64.wrap (x : Int) = (x : Int) := by simp [IntKind.wrap, IntKind.bits, IntKind.signed]; omega
  unfold stepB
  rw [e, xor_u64 h x hh (by omega)]
  simp [IntKind.wrap, IntKind.bits, IntKind.signed]
theorem mul_inj {a b : Nat} (ha : a < 18446744073709551616) (hb : b < 18446744073709551616) (h : a * 1099511628211 % 18446744073709551616 = b * 1099511628211 % 18446744073709551616) : a = b := by
  have key : ∀ c, c < 18446744073709551616 → c * 1099511628211 % 18446744073709551616 * 14886173955864302971 % 18446744073709551616 = c := by
    intro c hc
    rw [Nat.mod_mul_mod, Nat.mul_assoc, Nat.mul_mod]
    rw [show 1099511628211 * 14886173955864302971 % 18446744073709551616 = 1 from by decide, Nat.mul_one, Nat.mod_mod, Nat.mod_eq_of_lt hc]
  rw [← key a ha, ← key b hb, h]
theorem xor_cancel {a b c : Nat} (h : a ^^^ c = b ^^^ c) : a = b := by
  have := congrArg (· ^^^ c) h
  simpa [Nat.xor_assoc] using this
theorem xor_cancel' {a b c : Nat} (h : c ^^^ a = c ^^^ b) : a = b := xor_cancel (c := c) (by rw [Nat.xor_comm a, Nat.xor_comm b]; exact h)
def isB (x : Int) : Prop := 0 ≤ x ∧ x < 256
theorem stepB_inj {h h' x : Int} (hh : 0 ≤ h ∧ h < 18446744073709551616) (hh' : 0 ≤ h' ∧ h' < 18446744073709551616) (hx : isB x) (e : stepB h x = stepB h' x) : h = h' := by
  obtain ⟨a, rfl⟩ := Int.eq_ofNat_of_zero_le hh.1
  obtain ⟨b, rfl⟩ := Int.eq_ofNat_of_zero_le hh'.1
  obtain ⟨x, rfl⟩ := Int.eq_ofNat_of_zero_le hx.1
  have hx1 := hx.2
  rw [stepB_nat a x (by omega) (by omega), stepB_nat b x (by omega) (by omega)] at e
  have h1 := mul_inj (Nat.xor_lt_two_pow (n := 64) (by omega) (by omega)) (Nat.xor_lt_two_pow (n := 64) (by omega) (by omega)) (Int.ofNat.inj e)
  rw [xor_cancel h1]
theorem stepB_inj' {h x y : Int} (hh : 0 ≤ h ∧ h < 18446744073709551616) (hx : isB x) (hy : isB y) (e : stepB h x = stepB h y) : x = y := by
  obtain ⟨a, rfl⟩ := Int.eq_ofNat_of_zero_le hh.1
  obtain ⟨x, rfl⟩ := Int.eq_ofNat_of_zero_le hx.1
  obtain ⟨y, rfl⟩ := Int.eq_ofNat_of_zero_le hy.1
  have hx1 := hx.2
  have hy1 := hy.2
  rw [stepB_nat a x (by omega) (by omega), stepB_nat a y (by omega) (by omega)] at e
  have h1 := mul_inj (Nat.xor_lt_two_pow (n := 64) (by omega) (by omega)) (Nat.xor_lt_two_pow (n := 64) (by omega) (by omega)) (Int.ofNat.inj e)
  rw [xor_cancel' h1]
theorem fold_inj : ∀ (l : List Int), (∀ x ∈ l, isB x) → ∀ h h', 0 ≤ h ∧ h < 18446744073709551616 → 0 ≤ h' ∧ h' < 18446744073709551616 → l.foldl stepB h = l.foldl stepB h' → h = h'
  | [], _, h, h', _, _, e => e
  | x :: l, hb, h, h', hh, hh', e => stepB_inj hh hh' (hb x (by simp)) (fold_inj l (fun y hy => hb y (by simp [hy])) _ _ (stepB_range _ _) (stepB_range _ _) e)
theorem sumB_append (a b : List Int) : sumB (a ++ b) = b.foldl stepB (sumB a) := by unfold sumB; rw [List.foldl_append]
/-- The same bytes behind both. -/
theorem sumB_behind (a b c : List Int) (hc : ∀ x ∈ c, isB x) : sumB (a ++ c) = sumB (b ++ c) ↔ sumB a = sumB b := by
  rw [sumB_append, sumB_append]
  exact ⟨fun h => fold_inj c hc _ _ (sumB_range a) (sumB_range b) h, fun h => by rw [h]⟩
/-- One byte changed. -/
theorem sumB_set {l : List Int} {i : Nat} {y : Int} (hl : ∀ x ∈ l, isB x) (hi : i < l.length) (hy : isB y) (hne : y ≠ rd l (i : Nat)) : sumB (l.set i y) ≠ sumB l := by
  have e1 : l.set i y = l.take i ++ y :: l.drop (i + 1) := List.set_eq_take_append_cons_drop .. |>.trans (by rw [if_pos hi])
  have e2 : l = l.take i ++ rd l (i : Nat) :: l.drop (i + 1) := by rw [rd_get hi, List.getElem_cons_drop, List.take_append_drop]
  intro h
  have h2 : sumB (l.take i ++ y :: l.drop (i + 1)) = sumB (l.take i ++ rd l (i : Nat) :: l.drop (i + 1)) := by rw [← e1, ← e2]; exact h
  rw [sumB_append, sumB_append, List.foldl_cons, List.foldl_cons] at h2
  have h3 := fold_inj _ (fun x hx => hl x (List.mem_of_mem_drop hx)) _ _ (stepB_range _ _) (stepB_range _ _) h2
  exact hne (stepB_inj' (sumB_range _) hy (hl _ (rd_mem hi)) h3)
theorem wf_u8 {a : Int} (h : (Lit.int .u8 a).wf = true) : isB a := by
  simp [Lit.wf, IntKind.min, IntKind.max, IntKind.bits, IntKind.signed] at h
  exact ⟨by omega, by omega⟩
/-- An index out of any number. -/
theorem idx_mod (at_ : Int) (n : Nat) (h0 : 0 < n) (hn : n ≤ 1000000) : ∃ i : Nat, i < n ∧ Int.tmod (wrap64 (Int.tmod at_ (n : Int) + (n : Int))) (n : Int) = (i : Int) := by
  have hb1 : -(n : Int) < Int.tmod at_ (n : Int) := Int.lt_tmod_of_pos _ (by omega)
  have hb2 : Int.tmod at_ (n : Int) < (n : Int) := Int.tmod_lt_of_pos _ (by omega)
  rw [wrap_id (by omega) (by omega), Int.tmod_eq_emod_of_nonneg (by omega)]
  have h1 := Int.emod_nonneg (Int.tmod at_ (n : Int) + (n : Int)) (show (n : Int) ≠ 0 by omega)
  have h2 := Int.emod_lt_of_pos (Int.tmod at_ (n : Int) + (n : Int)) (show (0 : Int) < n by omega)
  exact ⟨((Int.tmod at_ (n : Int) + (n : Int)) % (n : Int)).toNat, by omega, by omega⟩
theorem xor_u8 (a b : Nat) (ha : a < 256) (hb : b < 256) : Go.bits .xor .u8 (a : Int) (b : Int) = ((a ^^^ b : Nat) : Int) := by
  have hx : a ^^^ b < 256 := Nat.xor_lt_two_pow (n := 8) ha hb
  have e : (BitVec.ofInt IntKind.u8.bits (a : Int) ^^^ BitVec.ofInt IntKind.u8.bits (b : Int)).toNat = a ^^^ b := by
    rw [BitVec.toNat_xor, BitVec.toNat_ofInt, BitVec.toNat_ofInt]
    show ((a : Int) % 256).toNat ^^^ ((b : Int) % 256).toNat = a ^^^ b
    rw [show ((a : Int) % 256).toNat = a from by omega, show ((b : Int) % 256).toNat = b from by omega]
  unfold Go.bits
  simp only [e]
  simp [IntKind.wrap, IntKind.bits, IntKind.signed]
  omega
theorem oneByte_ev (b other behind : List Int) (at_ by_ : Int) (hb : ∀ x ∈ b, isB x) (ho : ∀ x ∈ other, isB x) (hh : ∀ x ∈ behind, isB x) (hy : isB by_) :
    ∃ K, ∀ k, K ≤ k → cohousinglaw06_DigestOneByte.f k b other behind at_ by_ = some true := by
  refine ⟨2000, fun k hk => ?_⟩
  obtain ⟨k, rfl⟩ : ∃ m, k = m + 3 := ⟨k - 3, by omega⟩
  unfold cohousinglaw06_DigestOneByte.f cohousinglaw06_head.f
  simp only [obs, cohousinglaw06_DigestOneByte.j0]
  by_cases h0 : (b.length : Int) > 300
  · rw [if_pos h0]; rfl
  rw [if_neg h0]
  by_cases h1 : (other.length : Int) > 300
  · rw [if_pos h1]; rfl
  rw [if_neg h1]
  by_cases h2 : (behind.length : Int) > 300
  · rw [decide_eq_true h2]; rfl
  rw [decide_eq_false h2]
  simp only [Bool.false_eq_true, if_false, if_true, List.nil_append, List.length_nil, Nat.zero_add]
  rw [if_pos (by omega), if_pos (by omega), if_pos (by omega), if_pos (by omega)]
  rw [sum_f _ (by rw [List.length_append]; omega) _ (by rw [List.length_append]; omega), sum_f _ (by rw [List.length_append]; omega) _ (by rw [List.length_append]; omega), sum_f b (by omega) _ (by omega), sum_f other (by omega) _ (by omega)]
  simp only [obs]
  have e : ((sumB (b ++ behind) == sumB (other ++ behind)) == (sumB b == sumB other)) = true := by
    rw [beq_iff_eq, Bool.eq_iff_iff, beq_iff_eq, beq_iff_eq]
    exact sumB_behind b other behind hh
  rw [e]
  simp only [cohousinglaw06_DigestOneByte.j1]
  by_cases h3 : (b.length : Int) = 0
  · rw [if_pos h3]; simp [cohousinglaw06_DigestOneByte.j2]
  rw [if_neg h3]
  simp only [cohousinglaw06_DigestOneByte.j2]
  by_cases h4 : by_ = 0
  · rw [show (by_ == 0) = true from by simp [h4]]; rfl
  rw [show (by_ == 0) = false from by simp [h4]]
  obtain ⟨i, hi, hie⟩ := idx_mod at_ b.length (by omega) (by omega)
  simp only [Bool.false_eq_true, if_false, if_true, obs, List.nil_append, List.length_nil, Nat.zero_add, if_neg h3, hie]
  rw [if_pos (by omega), if_pos (by omega), if_pos (by omega), Int.toNat_natCast]
  have hr := hb _ (rd_mem hi)
  obtain ⟨x, hx⟩ := Int.eq_ofNat_of_zero_le hr.1
  obtain ⟨y, hyy⟩ := Int.eq_ofNat_of_zero_le hy.1
  have hx1 := hr.2
  have hy1 := hy.2
  have hxy := Nat.xor_lt_two_pow (x := x) (y := y) (n := 8) (by omega) (by omega)
  have hne : Go.bits .xor .u8 (rd b (i : Nat)) by_ ≠ rd b (i : Nat) := by
    rw [hx, hyy, xor_u8 x y (by omega) (by omega)]
    intro hc
    have h5 : x ^^^ y = x ^^^ 0 := by rw [Nat.xor_zero]; exact Int.ofNat.inj hc
    have := xor_cancel' h5
    omega
  have hB : isB (Go.bits .xor .u8 (rd b (i : Nat)) by_) := by
    rw [hx, hyy, xor_u8 x y (by omega) (by omega)]
    exact ⟨by omega, by omega⟩
  have hs := sumB_set hb hi hB hne
  rw [sum_f _ (by rw [List.length_set]; omega) _ (by rw [List.length_set]; omega), sum_f b (by omega) _ (by omega)]
  simp only [obs]
  congr 1
  rw [bne_iff_ne]
  exact hs
end Go.Proofs.YtolgpnbjjehdiaaDoor.P
