/- Layer 6: what the functions compute, told over lists of whole numbers. -/
import Derived.Test.YtolgpnbjjehdiaaDoorXup
import Derived.Test.YtolgpnbjjehdiaaDoorPx1
set_option linter.unusedSimpArgs false
set_option linter.unusedVariables false
namespace Go.Proofs.YtolgpnbjjehdiaaDoor.P
open Go Go.RowKit Go.Proofs.YtolgpnbjjehdiaaDoorW.PrintWords Go.Proofs.YtolgpnbjjehdiaaDoorW.PrintLast Go.Proofs.YtolgpnbjjehdiaaDoorW.PrintMore

/-- 'Option.bind_some', not by computation. -/
theorem obs {α β : Type} (a : α) (f : α → Option β) : (some a).bind f = f a := (Option.bind_some a f).trans (Eq.refl _)
theorem wrap_id {a : Int} (h0 : -9223372036854775808 ≤ a) (h1 : a ≤ 9223372036854775807) : wrap64 a = a := by unfold wrap64; omega
theorem sumB_take {l : List Int} {i : Nat} (h : i < l.length) : sumB (l.take (i + 1)) = IntKind.u64.wrap ((Go.bits .xor .u64 (sumB (l.take i)) (IntKind.u64.wrap (rd l (i : Nat)))) * 1099511628211) := by
  rw [List.take_succ_eq_append_getElem h]
  unfold sumB
  rw [List.foldl_append]
  simp [stepB, rd, List.getD_eq_getElem?_getD, List.getElem?_eq_getElem h]
theorem sum_l0 (l : List Int) (hl : l.length < 9223372036854775807) : ∀ (d i k : Nat), l.length - i = d → i ≤ l.length → d < k → digest_Sum.l0 k (sumB (l.take i)) l (l.length : Int) (i : Nat) = some (sumB l)
  | d, i, 0, hd, hi, hk => by omega
  | 0, i, k + 1, hd, hi, hk => by
    obtain rfl : i = l.length := by omega
    simp only [digest_Sum.l0]
    rw [if_neg (by omega), List.take_length]
  | d + 1, i, k + 1, hd, hi, hk => by
    have ih := sum_l0 l hl d (i + 1) k (by omega) (by omega) (by omega)
    simp only [digest_Sum.l0]
    rw [if_pos (by omega), if_pos (by omega), if_pos (by omega), ← sumB_take (by omega), wrapN i (by omega), ih]
theorem sum_f (l : List Int) (hl : l.length < 9223372036854775807) (k : Nat) (hk : l.length < k) : digest_Sum.f k l = some (sumB l) :=
  sum_l0 l hl l.length 0 k (by omega) (by omega) hk
theorem stepB_range (h x : Int) : 0 ≤ stepB h x ∧ stepB h x < 18446744073709551616 := by
  unfold stepB
  generalize Go.bits .xor .u64 h (IntKind.u64.wrap x) * 1099511628211 = z
  simp [IntKind.wrap, IntKind.bits, IntKind.signed]
  omega
theorem fold_range : ∀ (l : List Int) (h : Int), 0 ≤ h ∧ h < 18446744073709551616 → 0 ≤ l.foldl stepB h ∧ l.foldl stepB h < 18446744073709551616
  | [], h, hh => hh
  | x :: l, h, hh => fold_range l _ (stepB_range h x)
theorem sumB_range (l : List Int) : 0 ≤ sumB l ∧ sumB l < 18446744073709551616 := fold_range l _ (by decide)
theorem isU_sum (l : List Int) : isU (sumB l) = true := isU_iff.2 (sumB_range l)
theorem isU_leaf (n : Int) : isU (leafV n) = true := isU_sum _
theorem isU_join (n m : Int) : isU (joinV n m) = true := isU_sum _
def AllU (l : List Int) : Prop := ∀ x ∈ l, isU x = true
theorem allU_map (l : List Int) : AllU (l.map leafV) := fun x hx => by
  obtain ⟨y, _, rfl⟩ := List.mem_map.1 hx
  exact isU_leaf y
theorem allU_up : ∀ l : List Int, AllU l → AllU (upV l)
  | [], _ => fun x hx => by simp [upV] at hx
  | [a], h => h
  | a :: b :: l, h => fun x hx => by
    rcases List.mem_cons.1 hx with rfl | hx
    · exact isU_join a b
    · exact allU_up l (fun y hy => h y (by simp [hy])) x hx
theorem upV_len : ∀ l : List Int, (upV l).length = (l.length + 1) / 2
  | [] => by simp [upV]
  | [a] => by simp [upV]
  | a :: b :: l => by
    show (joinV a b :: upV l).length = _
    rw [List.length_cons, upV_len l]
    simp only [List.length_cons]
    omega
theorem up_f (l : List Int) (h : AllU l) (hl : l.length ≤ 1000000) : digest_up.f l = some (upV l) := by
  unfold digest_up.f
  rw [if_pos ⟨List.all_eq_true.2 h, hl⟩]
theorem leaf_f (n : Int) (h : isU n = true) : digest_leaf.f n = some (leafV n) := by unfold digest_leaf.f; rw [if_pos h]
theorem join_f (n m : Int) (h : isU n = true) (h' : isU m = true) : digest_join.f n m = some (joinV n m) := by unfold digest_join.f; rw [h, h']; rfl
/-- The nodes of leaves. -/
def firstV (l : List Int) : List Int := l.map leafV
theorem firstV_len (l : List Int) : (firstV l).length = l.length := by simp [firstV]
theorem rd_get {l : List Int} {i : Nat} (h : i < l.length) : rd l (i : Nat) = l[i] := by simp [rd, List.getD_eq_getElem?_getD, List.getElem?_eq_getElem h]
theorem first_l0 (l : List Int) (hu : AllU l) (hl : l.length ≤ 1024) : ∀ (d i k : Nat), l.length - i = d → i ≤ l.length → d < k →
    digest_first.l0 k ((l.take i).map leafV ++ List.replicate (l.length - i) 0) l (l.length : Int) (i : Nat) = some (firstV l, 0)
  | d, i, 0, hd, hi, hk => by omega
  | 0, i, k + 1, hd, hi, hk => by
    obtain rfl : i = l.length := by omega
    simp only [digest_first.l0]
    rw [if_neg (by omega), List.take_length, Nat.sub_self]
    simp [firstV]
  | d + 1, i, k + 1, hd, hi, hk => by
    have ih := first_l0 l hu hl d (i + 1) k (by omega) (by omega) (by omega)
    have hlt : i < l.length := by omega
    have hm := hu _ (rd_mem hlt)
    simp only [digest_first.l0]
    rw [if_pos (by omega), if_pos (by omega), if_pos (by omega), leaf_f _ hm]
    simp only [obs]
    have hlen : (((l.take i).map leafV ++ List.replicate (l.length - i) 0 : List Int).length : Int) = l.length := by
      simp only [List.length_append, List.length_map, List.length_take, List.length_replicate]; omega
    have hset : (((l.take i).map leafV ++ List.replicate (l.length - i) 0 : List Int)).set i (leafV (rd l (i : Nat))) = (l.take (i + 1)).map leafV ++ List.replicate (l.length - (i + 1)) 0 := by
      have h1 : ((l.take i).map leafV).length = i := by simp; omega
      rw [List.set_append_right _ _ (by omega), h1, Nat.sub_self, show l.length - i = (l.length - (i + 1)) + 1 from by omega, List.replicate_succ, List.set_cons_zero, List.take_succ_eq_append_getElem hlt, List.map_append, List.append_assoc, rd_get hlt]
      rfl
    rw [if_pos (by rw [hlen]; omega), Int.toNat_natCast, hset, wrapN i (by omega), ih]
theorem first_f (l : List Int) (hu : AllU l) (k : Nat) (hk : 1100 ≤ k) : digest_first.f k l = some (if l.length = 0 then ([], 1) else if l.length > 1024 then ([], 2) else (firstV l, 0)) := by
  unfold digest_first.f
  by_cases h0 : l.length = 0
  · rw [if_pos (by omega), if_pos h0]
  · rw [if_neg (by omega), if_neg h0]
    by_cases h1 : l.length > 1024
    · rw [if_pos (by omega), if_pos h1]
    · rw [if_neg (by omega), if_neg h1, if_pos (by omega), if_pos (by omega)]
      have h := first_l0 l hu (by omega) l.length 0 k (by omega) (by omega) (by omega)
      rw [List.take_zero, List.map_nil, List.nil_append, Nat.sub_zero] at h
      rw [Int.toNat_natCast]
      exact h
/-- What stands at the top of a level. -/
def topV : Nat → List Int → Int
  | 0, l => rd l 0
  | f + 1, l => if 1 < l.length then topV f (upV l) else rd l 0
theorem topV_one (f : Nat) (a : Int) : topV f [a] = a := by
  cases f with
  | zero => rfl
  | succ f => simp [topV, rd]
theorem root_l0 : ∀ (f k : Nat) (l : List Int), AllU l → 0 < l.length → l.length ≤ 2 ^ f → f ≤ 11 → f < k → digest_Root.l0 k l = some (topV f l, 0)
  | f, 0, l, hu, h0, hl, hf, hk => by omega
  | 0, k + 1, l, hu, h0, hl, hf, hk => by
    have : l.length ≤ 1 := by simpa using hl
    simp only [digest_Root.l0]
    rw [if_neg (by omega), if_pos (by omega)]
    rfl
  | f + 1, k + 1, l, hu, h0, hl, hf, hk => by
    have h2 : (2 : Nat) ^ (f + 1) ≤ 2 ^ 11 := Nat.pow_le_pow_right (by omega) hf
    simp only [digest_Root.l0, topV]
    by_cases h : 1 < l.length
    · have ih := root_l0 f k (upV l) (allU_up l hu) (by rw [upV_len]; omega) (by rw [upV_len]; rw [Nat.pow_succ] at hl; omega) (by omega) (by omega)
      rw [if_pos (by omega), up_f l hu (by omega), if_pos h]
      simp only [obs]
      exact ih
    · rw [if_neg (by omega), if_pos (by omega), if_neg h]
def rootV (l : List Int) : Int × Int := if l.length = 0 then (0, 1) else if l.length > 1024 then (0, 2) else (topV 10 (firstV l), 0)
theorem root_f (l : List Int) (hu : AllU l) (k : Nat) (hk : 1100 ≤ k) : digest_Root.f k l = some (rootV l) := by
  unfold digest_Root.f rootV
  rw [first_f l hu k hk]
  simp only [obs]
  by_cases h0 : l.length = 0
  · simp only [if_pos h0]; rfl
  · simp only [if_neg h0]
    by_cases h1 : l.length > 1024
    · simp only [if_pos h1]; rfl
    · simp only [if_neg h1, if_true]
      exact root_l0 10 k (firstV l) (allU_map l) (by rw [firstV_len]; omega) (by rw [firstV_len]; omega) (by omega) (by omega)
end Go.Proofs.YtolgpnbjjehdiaaDoor.P
