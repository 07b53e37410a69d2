/- Digests and their trees, told over lists (made by pick.py out of Pd, Pd3 of chapter 06). -/
import Derived.Test.YtkdckjafhaadiaaDoorSA
import Derived.Test.YtkdckjafhaadiaaDoorXup
import Derived.Test.YtkdckjafhaadiaaDoorXcheck
import Derived.Test.YtkdckjafhaadiaaDoorPx2
import Derived.Test.YtkdckjafhaadiaaDoorPx3
import Derived.Test.YtkdckjafhaadiaaDoorPx4
import Derived.Test.YtkdckjafhaadiaaDoorPx4
import Derived.Test.YtkdckjafhaadiaaDoorPx6
import Derived.Lib.LazyBuf
import Derived.Test.YtkdckjafhaadiaaDoorOrdI
import Derived.Test.YtkdckjafhaadiaaDoorPx5
import Derived.Test.YtkdckjafhaadiaaDoorPx5
import Derived.Test.YtkdckjafhaadiaaDoorPx5
set_option linter.unusedSimpArgs false
set_option linter.unusedVariables false
namespace Go.Proofs.YtkdckjafhaadiaaDoor.P
open Go Go.RowKit Go.Proofs.YtkdckjafhaadiaaDoorW.PrintWords Go.Proofs.YtkdckjafhaadiaaDoorW.PrintLast Go.Proofs.YtkdckjafhaadiaaDoorW.PrintMore
theorem sumB_take {l : List Int} {i : Nat} (h : i < l.length) : sumB (l.take (i + 1)) = IntKind.u64.wrap ((Go.bits .xor .u64 (sumB (l.take i)) (IntKind.u64.wrap (rd l (i : Nat)))) * 1099511628211) := by
  rw [List.take_succ_eq_append_getElem h]
  unfold sumB
  rw [List.foldl_append]
  simp [stepB, rd, List.getD_eq_getElem?_getD, List.getElem?_eq_getElem h]
theorem sum_l0 (l : List Int) (hl : l.length < 9223372036854775807) : ∀ (d i k : Nat), l.length - i = d → i ≤ l.length → d < k → digest_Sum.l0 k (sumB (l.take i)) l (l.length : Int) (i : Nat) = some (sumB l)
  | d, i, 0, hd, hi, hk => by omega
  | 0, i, k + 1, hd, hi, hk => by
    obtain rfl : i = l.length := by omega
    simp only [digest_Sum.l0]
    rw [if_neg (by omega), List.take_length]
  | d + 1, i, k + 1, hd, hi, hk => by
    have ih := sum_l0 l hl d (i + 1) k (by omega) (by omega) (by omega)
    simp only [digest_Sum.l0]
    rw [if_pos (by omega), if_pos (by omega), if_pos (by omega), ← sumB_take (by omega), wrapN i (by omega), ih]
theorem sum_f (l : List Int) (hl : l.length < 9223372036854775807) (k : Nat) (hk : l.length < k) : digest_Sum.f k l = some (sumB l) :=
  sum_l0 l hl l.length 0 k (by omega) (by omega) hk
theorem stepB_range (h x : Int) : 0 ≤ stepB h x ∧ stepB h x < 18446744073709551616 := by
  unfold stepB
  generalize Go.bits .xor .u64 h (IntKind.u64.wrap x) * 1099511628211 = z
  simp [IntKind.wrap, IntKind.bits, IntKind.signed]
  omega
theorem fold_range : ∀ (l : List Int) (h : Int), 0 ≤ h ∧ h < 18446744073709551616 → 0 ≤ l.foldl stepB h ∧ l.foldl stepB h < 18446744073709551616
  | [], h, hh => hh
  | x :: l, h, hh => fold_range l _ (stepB_range h x)
theorem sumB_range (l : List Int) : 0 ≤ sumB l ∧ sumB l < 18446744073709551616 := fold_range l _ (by decide)
theorem isU_sum (l : List Int) : isU (sumB l) = true := isU_iff.2 (sumB_range l)
theorem isU_leaf (n : Int) : isU (leafV n) = true := isU_sum _
theorem isU_join (n m : Int) : isU (joinV n m) = true := isU_sum _
def AllU (l : List Int) : Prop := ∀ x ∈ l, isU x = true
theorem allU_map (l : List Int) : AllU (l.map leafV) := fun x hx => by
  obtain ⟨y, _, rfl⟩ := List.mem_map.1 hx
  exact isU_leaf y
theorem allU_up : ∀ l : List Int, AllU l → AllU (upV l)
  | [], _ => fun x hx => by simp [upV] at hx
  | [a], h => h
  | a :: b :: l, h => fun x hx => by
    rcases List.mem_cons.1 hx with rfl | hx
    · exact isU_join a b
    · exact allU_up l (fun y hy => h y (by simp [hy])) x hx
theorem upV_len : ∀ l : List Int, (upV l).length = (l.length + 1) / 2
  | [] => by simp [upV]
  | [a] => by simp [upV]
  | a :: b :: l => by
    show (joinV a b :: upV l).length = _
    rw [List.length_cons, upV_len l]
    simp only [List.length_cons]
    omega
theorem up_f (l : List Int) (h : AllU l) (hl : l.length ≤ 1000000) : digest_up.f l = some (upV l) := by
  unfold digest_up.f
  rw [if_pos ⟨List.all_eq_true.2 h, hl⟩]
theorem leaf_f (n : Int) (h : isU n = true) : digest_leaf.f n = some (leafV n) := by unfold digest_leaf.f; rw [if_pos h]
theorem join_f (n m : Int) (h : isU n = true) (h' : isU m = true) : digest_join.f n m = some (joinV n m) := by unfold digest_join.f; rw [h, h']; rfl
/-- The nodes of leaves. -/
def firstV (l : List Int) : List Int := l.map leafV
theorem firstV_len (l : List Int) : (firstV l).length = l.length := by simp [firstV]
theorem rd_get {l : List Int} {i : Nat} (h : i < l.length) : rd l (i : Nat) = l[i] := by simp [rd, List.getD_eq_getElem?_getD, List.getElem?_eq_getElem h]
theorem first_l0 (l : List Int) (hu : AllU l) (hl : l.length ≤ 1024) : ∀ (d i k : Nat), l.length - i = d → i ≤ l.length → d < k →
    digest_first.l0 k ((l.take i).map leafV ++ List.replicate (l.length - i) 0) l (l.length : Int) (i : Nat) = some (firstV l, 0)
  | d, i, 0, hd, hi, hk => by omega
  | 0, i, k + 1, hd, hi, hk => by
    obtain rfl : i = l.length := by omega
    simp only [digest_first.l0]
    rw [if_neg (by omega), List.take_length, Nat.sub_self]
    simp [firstV]
  | d + 1, i, k + 1, hd, hi, hk => by
    have ih := first_l0 l hu hl d (i + 1) k (by omega) (by omega) (by omega)
    have hlt : i < l.length := by omega
    have hm := hu _ (rd_mem hlt)
    simp only [digest_first.l0]
    rw [if_pos (by omega), if_pos (by omega), if_pos (by omega), leaf_f _ hm]
    simp only [obs]
    have hlen : (((l.take i).map leafV ++ List.replicate (l.length - i) 0 : List Int).length : Int) = l.length := by
      simp only [List.length_append, List.length_map, List.length_take, List.length_replicate]; omega
    have hset : (((l.take i).map leafV ++ List.replicate (l.length - i) 0 : List Int)).set i (leafV (rd l (i : Nat))) = (l.take (i + 1)).map leafV ++ List.replicate (l.length - (i + 1)) 0 := by
      have h1 : ((l.take i).map leafV).length = i := by simp; omega
      rw [List.set_append_right _ _ (by omega), h1, Nat.sub_self, show l.length - i = (l.length - (i + 1)) + 1 from by omega, List.replicate_succ, List.set_cons_zero, List.take_succ_eq_append_getElem hlt, List.map_append, List.append_assoc, rd_get hlt]
      rfl
    rw [if_pos (by rw [hlen]; omega), Int.toNat_natCast, hset, wrapN i (by omega), ih]
theorem first_f (l : List Int) (hu : AllU l) (k : Nat) (hk : 1100 ≤ k) : digest_first.f k l = some (if l.length = 0 then ([], 1) else if l.length > 1024 then ([], 2) else (firstV l, 0)) := by
  unfold digest_first.f
  by_cases h0 : l.length = 0
  · rw [if_pos (by omega), if_pos h0]
  · rw [if_neg (by omega), if_neg h0]
    by_cases h1 : l.length > 1024
    · rw [if_pos (by omega), if_pos h1]
    · rw [if_neg (by omega), if_neg h1, if_pos (by omega), if_pos (by omega)]
      have h := first_l0 l hu (by omega) l.length 0 k (by omega) (by omega) (by omega)
      rw [List.take_zero, List.map_nil, List.nil_append, Nat.sub_zero] at h
      rw [Int.toNat_natCast]
      exact h
/-- What stands at the top of a level. -/
def topV : Nat → List Int → Int
  | 0, l => rd l 0
  | f + 1, l => if 1 < l.length then topV f (upV l) else rd l 0
theorem topV_one (f : Nat) (a : Int) : topV f [a] = a := by
  cases f with
  | zero => rfl
  | succ f => simp [topV, rd]
theorem root_l0 : ∀ (f k : Nat) (l : List Int), AllU l → 0 < l.length → l.length ≤ 2 ^ f → f ≤ 11 → f < k → digest_Root.l0 k l = some (topV f l, 0)
  | f, 0, l, hu, h0, hl, hf, hk => by omega
  | 0, k + 1, l, hu, h0, hl, hf, hk => by
    have : l.length ≤ 1 := by simpa using hl
    simp only [digest_Root.l0]
    rw [if_neg (by omega), if_pos (by omega)]
    rfl
  | f + 1, k + 1, l, hu, h0, hl, hf, hk => by
    have h2 : (2 : Nat) ^ (f + 1) ≤ 2 ^ 11 := Nat.pow_le_pow_right (by omega) hf
    simp only [digest_Root.l0, topV]
    by_cases h : 1 < l.length
    · have ih := root_l0 f k (upV l) (allU_up l hu) (by rw [upV_len]; omega) (by rw [upV_len]; rw [Nat.pow_succ] at hl; omega) (by omega) (by omega)
      rw [if_pos (by omega), up_f l hu (by omega), if_pos h]
      simp only [obs]
      exact ih
    · rw [if_neg (by omega), if_pos (by omega), if_neg h]
def rootV (l : List Int) : Int × Int := if l.length = 0 then (0, 1) else if l.length > 1024 then (0, 2) else (topV 10 (firstV l), 0)
theorem root_f (l : List Int) (hu : AllU l) (k : Nat) (hk : 1100 ≤ k) : digest_Root.f k l = some (rootV l) := by
  unfold digest_Root.f rootV
  rw [first_f l hu k hk]
  simp only [obs]
  by_cases h0 : l.length = 0
  · simp only [if_pos h0]; rfl
  · simp only [if_neg h0]
    by_cases h1 : l.length > 1024
    · simp only [if_pos h1]; rfl
    · simp only [if_neg h1, if_true]
      exact root_l0 10 k (firstV l) (allU_map l) (by rw [firstV_len]; omega) (by rw [firstV_len]; omega) (by omega) (by omega)
/-- The index beside another one. -/
def sib (i : Nat) : Nat := if i % 2 = 1 then i - 1 else i + 1
theorem xor_one (i : Nat) : i ^^^ 1 = sib i := by
  have h1 : (i ^^^ 1) / 2 = i / 2 := by rw [Nat.xor_div_two]; simp
  have h2 : (i ^^^ 1) % 2 = 1 ↔ ¬ i % 2 = 1 := by
    have h := Nat.testBit_xor i 1 0
    rw [Nat.testBit_zero, Nat.testBit_zero] at h
    by_cases h0 : i % 2 = 1
    · simp [h0] at h ⊢
    · simp [h0] at h ⊢
  unfold sib
  split <;> omega
theorem xor_i64 (i : Nat) (hi : i < 9223372036854775807) : Go.bits .xor .i64 (i : Int) 1 = (sib i : Int) := by
  have hs := xor_one i
  have hs2 : sib i ≤ i + 1 := by unfold sib; split <;> omega
  have e : (BitVec.ofInt IntKind.i64.bits (i : Int) ^^^ BitVec.ofInt IntKind.i64.bits 1).toNat = sib i := by
    rw [BitVec.toNat_xor, BitVec.toNat_ofInt, BitVec.toNat_ofInt]
    show ((i : Int) % 18446744073709551616).toNat ^^^ 1 = sib i
    rw [show ((i : Int) % 18446744073709551616).toNat = i from by omega, hs]
  unfold Go.bits
  simp only [e]
  rw [IntKind.wrap_i64]
  omega
theorem half (i : Nat) (hi : i < 9223372036854775807) : wrap64 (Int.tdiv (i : Int) 2) = ((i / 2 : Nat) : Int) := by
  rw [Int.tdiv_eq_ediv_of_nonneg (by omega), wrap_id (by omega) (by omega)]
  omega
theorem half1 (n : Nat) (hi : n < 9223372036854775806) : wrap64 (Int.tdiv (wrap64 ((n : Int) + 1)) 2) = (((n + 1) / 2 : Nat) : Int) := by
  rw [wrapN n (by omega), half (n + 1) (by omega)]
theorem odd_iff (i : Nat) : (Int.tmod (i : Int) 2 = 1) ↔ i % 2 = 1 := by
  rw [Int.tmod_eq_emod_of_nonneg (by omega)]; omega
/-- The nodes beside the way up. -/
def pathV : Nat → Nat → List Int → List Int
  | 0, _, _ => []
  | f + 1, i, l => if 1 < l.length then (if sib i < l.length then [rd l (sib i : Nat)] else []) ++ pathV f (i / 2) (upV l) else []
theorem pathV_len : ∀ (f i : Nat) (l : List Int), (pathV f i l).length ≤ f
  | 0, _, _ => by simp [pathV]
  | f + 1, i, l => by
    unfold pathV
    have h := pathV_len f (i / 2) (upV l)
    split
    · rw [List.length_append]
      split <;> simp <;> omega
    · simp
theorem path_l0 : ∀ (f k i : Nat) (l acc : List Int), AllU l → l.length ≤ 2 ^ f → f ≤ 11 → i < 2000 → acc.length + f ≤ 1000 → f < k → digest_Path.l0 k (i : Int) l acc = some (acc ++ pathV f i l, 0)
  | f, 0, i, l, acc, hu, hl, hf, hi, ha, hk => by omega
  | 0, k + 1, i, l, acc, hu, hl, hf, hi, ha, hk => by
    have : l.length ≤ 1 := by simpa using hl
    simp only [digest_Path.l0, pathV]
    rw [if_neg (by omega), List.append_nil]
  | f + 1, k + 1, i, l, acc, hu, hl, hf, hi, ha, hk => by
    have h2 : (2 : Nat) ^ (f + 1) ≤ 2 ^ 11 := Nat.pow_le_pow_right (by omega) hf
    have ih := fun acc' (h : acc'.length + f ≤ 1000) => path_l0 f k (i / 2) (upV l) acc' (allU_up l hu) (by rw [upV_len]; rw [Nat.pow_succ] at hl; omega) (by omega) (by omega) h (by omega)
    simp only [digest_Path.l0, pathV]
    rw [xor_i64 i (by omega), half i (by omega)]
    by_cases h : 1 < l.length
    · rw [if_pos (by omega), if_pos h, up_f l hu (by omega)]
      by_cases hs : sib i < l.length
      · rw [if_pos (by omega), if_pos (by omega), if_pos (by omega), if_pos hs]
        simp only [obs]
        rw [ih _ (by rw [List.length_append]; simp; omega), List.append_assoc]
      · rw [if_neg (by omega), if_neg hs]
        simp only [obs, List.nil_append]
        rw [ih _ (by omega)]
    · rw [if_neg (by omega), if_neg h, List.append_nil]
def pathR (l : List Int) (i : Int) : List Int × Int := if l.length = 0 then ([], 1) else if l.length > 1024 then ([], 2) else if 0 ≤ i ∧ i < l.length then (pathV 10 i.toNat (firstV l), 0) else ([], 1)
theorem path_f (l : List Int) (i : Int) (hu : AllU l) (k : Nat) (hk : 1200 ≤ k) : digest_Path.f k l i = some (pathR l i) := by
  obtain ⟨k, rfl⟩ : ∃ m, k = m + 1 := ⟨k - 1, by omega⟩
  unfold digest_Path.f pathR
  rw [first_f l hu _ (by omega)]
  simp only [obs, digest_Path.j0]
  by_cases h0 : l.length = 0
  · simp only [if_pos h0]; rfl
  · simp only [if_neg h0]
    by_cases h1 : l.length > 1024
    · simp only [if_pos h1]; rfl
    · simp only [if_neg h1, if_true]
      by_cases h2 : i < 0
      · have hc : ¬ (0 ≤ i ∧ i < (l.length : Int)) := by omega
        simp only [if_pos h2, if_neg hc]
      · by_cases h3 : i ≥ (l.length : Int)
        · have hc : ¬ (0 ≤ i ∧ i < (l.length : Int)) := by omega
          simp only [if_neg h2, if_neg hc, decide_eq_true h3, if_true]
        · have hc : 0 ≤ i ∧ i < (l.length : Int) := by omega
          simp only [if_neg h2, if_pos hc, decide_eq_false h3, Bool.false_eq_true, if_false]
          obtain ⟨n, rfl⟩ := Int.eq_ofNat_of_zero_le (show 0 ≤ i by omega)
          rw [Int.toNat_natCast]
          have h := path_l0 10 k n (firstV l) [] (allU_map l) (by rw [firstV_len]; omega) (by omega) (by omega) (by simp) (by omega)
          rw [List.nil_append] at h
          exact h
/-- A way up: whether a path leads from a node to a root. -/
def wayV : Nat → Int → Nat → Nat → List Int → Int → Bool
  | 0, root, _, _, path, x => decide (path.length = 0) && (x == root)
  | f + 1, root, i, n, path, x =>
    if 1 < n then
      if sib i ≥ n then wayV f root (i / 2) ((n + 1) / 2) path x
      else match path with
        | [] => false
        | p :: ps => wayV f root (i / 2) ((n + 1) / 2) ps (if i % 2 = 1 then joinV p x else joinV x p)
    else decide (path.length = 0) && (x == root)
theorem check_l0 (root : Int) : ∀ (f k i n : Nat) (path : List Int) (x : Int), AllU path → isU x = true → n ≤ 2 ^ f → f ≤ 11 → i < 2000 → f < k → Z.digest_Check.l0 k root (i : Int) (n : Int) path x = some (wayV f root i n path x)
  | f, 0, i, n, path, x, hp, hx, hn, hf, hi, hk => by omega
  | 0, k + 1, i, n, path, x, hp, hx, hn, hf, hi, hk => by
    have : n ≤ 1 := by simpa using hn
    simp only [Z.digest_Check.l0, wayV]
    rw [if_neg (by omega)]
    by_cases h : path.length = 0
    · rw [if_pos (by omega), decide_eq_true h, Bool.true_and]
    · rw [if_neg (by omega), decide_eq_false h, Bool.false_and]
  | f + 1, k + 1, i, n, path, x, hp, hx, hn, hf, hi, hk => by
    have h2 : (2 : Nat) ^ (f + 1) ≤ 2 ^ 11 := Nat.pow_le_pow_right (by omega) hf
    have ih := fun p y (hp : AllU p) (hy : isU y = true) => check_l0 root f k (i / 2) ((n + 1) / 2) p y hp hy (by rw [Nat.pow_succ] at hn; omega) (by omega) (by omega) (by omega)
    simp only [Z.digest_Check.l0, wayV]
    rw [xor_i64 i (by omega), half i (by omega), half1 n (by omega)]
    by_cases h : 1 < n
    · rw [if_pos (by omega), if_pos h]
      by_cases hs : sib i ≥ n
      · rw [if_pos (by omega), if_pos hs, ih path x hp hx]
      · rw [if_neg (by omega), if_neg hs]
        cases path with
        | nil => rw [if_pos (by simp)]
        | cons p ps =>
          have hpu := hp p (by simp)
          have hps : AllU ps := fun y hy => hp y (by simp [hy])
          rw [if_neg (by simp; omega)]
          have hrd : rd (p :: ps) 0 = p := rfl
          rw [hrd, join_f p x hpu hx, join_f x p hx hpu]
          simp only [obs, List.drop_succ_cons, List.drop_zero]
          by_cases ho : i % 2 = 1
          · rw [if_pos ((odd_iff i).2 ho), if_pos (by first | (simp; done) | (simp; omega)), if_pos (by first | (simp; done) | (simp; omega)), ih ps _ hps (isU_join _ _), if_pos ho]
          · rw [if_neg (fun h => ho ((odd_iff i).1 h)), if_pos (by first | (simp; done) | (simp; omega)), if_pos (by first | (simp; done) | (simp; omega)), ih ps _ hps (isU_join _ _), if_neg ho]
    · rw [if_neg (by omega), if_neg h]
      by_cases h0 : path.length = 0
      · rw [if_pos (by omega), decide_eq_true h0, Bool.true_and]
      · rw [if_neg (by omega), decide_eq_false h0, Bool.false_and]
def checkV (root leaf i n : Int) (path : List Int) : Bool := if n < 1 ∨ n > 1024 ∨ i < 0 ∨ i ≥ n then false else wayV 10 root i.toNat n.toNat path (leafV leaf)
theorem check_f (root leaf i n : Int) (path : List Int) (hl : isU leaf = true) (hp : AllU path) (k : Nat) (hk : 100 ≤ k) : digest_Check.f k root leaf i n path = some (checkV root leaf i n path) := by
  obtain ⟨k, rfl⟩ : ∃ m, k = m + 1 := ⟨k - 1, by omega⟩
  unfold digest_Check.f Z.digest_Check.f checkV
  simp only [Z.digest_Check.j0, if_true]
  by_cases h0 : n < 1
  · rw [if_pos h0, if_pos (.inl h0)]
  rw [if_neg h0]
  by_cases h1 : n > 1024
  · rw [if_pos h1, if_pos (.inr (.inl h1))]
  rw [if_neg h1]
  by_cases h2 : i < 0
  · rw [if_pos h2, if_pos (.inr (.inr (.inl h2)))]
  rw [if_neg h2]
  by_cases h3 : i ≥ n
  · have hc : n < 1 ∨ n > 1024 ∨ i < 0 ∨ i ≥ n := .inr (.inr (.inr h3))
    simp only [decide_eq_true h3, if_pos hc, if_true]
  have hc : ¬ (n < 1 ∨ n > 1024 ∨ i < 0 ∨ i ≥ n) := by omega
  simp only [decide_eq_false h3, if_neg hc, leaf_f leaf hl]
  obtain ⟨a, rfl⟩ := Int.eq_ofNat_of_zero_le (show 0 ≤ i by omega)
  obtain ⟨b, rfl⟩ := Int.eq_ofNat_of_zero_le (show 0 ≤ n by omega)
  simp only [obs, Bool.false_eq_true, if_false, Int.toNat_natCast]
  exact check_l0 root 10 k a b path _ hp (isU_leaf _) (by omega) (by omega) (by omega) (by omega)
theorem upV_get : ∀ (l : List Int) (i : Nat), i < (upV l).length → rd (upV l) (i : Nat) = if 2 * i + 1 < l.length then joinV (rd l (2 * i : Nat)) (rd l (2 * i + 1 : Nat)) else rd l (2 * i : Nat)
  | [], i, h => by simp [upV] at h
  | [a], i, h => by
    have : i = 0 := by simp [upV] at h; omega
    subst this
    simp [upV, rd]
  | a :: b :: l, 0, h => by
    rw [if_pos (by simp)]
    simp [upV, rd]
  | a :: b :: l, i + 1, h => by
    have hl : i < (upV l).length := by
      have : (upV (a :: b :: l)).length = (upV l).length + 1 := rfl
      omega
    have ih := upV_get l i hl
    have e : rd (upV (a :: b :: l)) ((i + 1 : Nat) : Int) = rd (upV l) (i : Nat) := by
      show rd (joinV a b :: upV l) ((i + 1 : Nat) : Int) = _
      rw [rd_nat, rd_nat]
      rfl
    rw [e, ih, show 2 * (i + 1) = 2 * i + 2 from by omega, show 2 * i + 2 + 1 = 2 * i + 1 + 2 from by omega, rd_drop2, rd_drop2]
    by_cases h1 : 2 * i + 1 < l.length
    · rw [if_pos h1, if_pos (by simp only [List.length_cons]; omega)]
    · rw [if_neg h1, if_neg (by simp only [List.length_cons]; omega)]
/-- A node's own path leads to the top. -/
theorem way_own : ∀ (f i : Nat) (l : List Int), i < l.length → wayV f (topV f l) i l.length (pathV f i l) (rd l (i : Nat)) = true ∨ 2 ^ f < l.length
  | 0, i, l, hi => by
    by_cases h : l.length ≤ 1
    · left
      have : i = 0 := by omega
      subst this
      simp [wayV, topV, pathV]
    · right; simp; omega
  | f + 1, i, l, hi => by
    by_cases h : 1 < l.length
    · rcases way_own f (i / 2) (upV l) (by rw [upV_len]; omega) with ih | ih
      · left
        have hg := upV_get l (i / 2) (by rw [upV_len]; omega)
        rw [hg, upV_len] at ih
        simp only [wayV, topV, pathV, if_pos h]
        by_cases hs : sib i ≥ l.length
        · rw [if_pos hs, if_neg (by omega), List.nil_append]
          have hev : i % 2 = 0 ∧ i + 1 ≥ l.length := by unfold sib at hs; split at hs <;> omega
          rw [if_neg (by omega), show 2 * (i / 2) = i from by omega] at ih
          exact ih
        · rw [if_neg hs, if_pos (by omega)]
          simp only [List.singleton_append]
          rw [if_pos (by unfold sib at hs; split at hs <;> omega)] at ih
          by_cases ho : i % 2 = 1
          · rw [if_pos ho]
            have e1 : 2 * (i / 2) = sib i := by unfold sib; rw [if_pos ho]; omega
            have e2 : 2 * (i / 2) + 1 = i := by omega
            rw [e2, e1] at ih
            exact ih
          · rw [if_neg ho]
            have e1 : 2 * (i / 2) = i := by omega
            have e2 : 2 * (i / 2) + 1 = sib i := by unfold sib; rw [if_neg ho]; omega
            rw [e2, e1] at ih
            exact ih
      · right
        rw [upV_len] at ih
        rw [Nat.pow_succ]
        omega
    · left
      have : i = 0 := by omega
      subst this
      simp [wayV, topV, pathV, h]
theorem allU_path : ∀ (f i : Nat) (l : List Int), AllU l → AllU (pathV f i l)
  | 0, i, l, h => fun x hx => by simp [pathV] at hx
  | f + 1, i, l, h => fun x hx => by
    unfold pathV at hx
    split at hx
    · rcases List.mem_append.1 hx with hx | hx
      · split at hx
        · next hs =>
          rw [List.mem_singleton.1 hx]
          exact h _ (rd_mem hs)
        · cases hx
      · exact allU_path f (i / 2) (upV l) (allU_up l h) x hx
    · cases hx
theorem rd_first {l : List Int} {i : Nat} (h : i < l.length) : rd (firstV l) (i : Nat) = leafV (rd l (i : Nat)) := by
  rw [rd_get (by rw [firstV_len]; exact h), rd_get h]
  simp [firstV]
/-- A leaf's own path leads to the root. -/
theorem check_own {l : List Int} {i : Nat} (hi : i < l.length) (hl : l.length ≤ 1024) : checkV (topV 10 (firstV l)) (rd l (i : Nat)) (i : Int) (l.length : Int) (pathV 10 i (firstV l)) = true := by
  unfold checkV
  rw [if_neg (by omega), Int.toNat_natCast, Int.toNat_natCast]
  rcases way_own 10 i (firstV l) (by rw [firstV_len]; exact hi) with h | h
  · rw [rd_first hi, firstV_len] at h
    exact h
  · rw [firstV_len] at h
    omega
theorem rootV_ok {l : List Int} (h0 : 0 < l.length) (h1 : l.length ≤ 1024) : rootV l = (topV 10 (firstV l), 0) := by
  unfold rootV
  rw [if_neg (by omega), if_neg (by omega)]
theorem pathR_ok {l : List Int} {i : Nat} (hi : i < l.length) (h1 : l.length ≤ 1024) : pathR l (i : Int) = (pathV 10 i (firstV l), 0) := by
  unfold pathR
  rw [if_neg (by omega), if_neg (by omega), if_pos (by omega), Int.toNat_natCast]
end Go.Proofs.YtkdckjafhaadiaaDoor.P
/- Statements: leaves, roots and ways, as the functions compute them. -/
set_option linter.unusedSimpArgs false
set_option linter.unusedVariables false
namespace Go.Proofs.YtkdckjafhaadiaaDoor.P
open Go Go.RowKit Go.Proofs.YtkdckjafhaadiaaDoorW.PrintWords Go.Proofs.YtkdckjafhaadiaaDoorW.PrintLast Go.Proofs.YtkdckjafhaadiaaDoorW.PrintMore

theorem okInt_of {x : Int} (h0 : -9223372036854775808 ≤ x) (h1 : x ≤ 9223372036854775807) : okInt x = true := by
  unfold okInt; rw [decide_eq_true h0, decide_eq_true h1]; rfl
theorem btw_iff {n lo hi : Int} : btw n lo hi = true ↔ lo ≤ n ∧ n ≤ hi := by simp [btw]
/-- What a leaf can be made of. -/
def leafOk (m : Int) (x : S45) : Prop := okInt m = true ∧ okInt x.f0 = true ∧ okInt x.f1 = true ∧ x.f2.length ≤ 100000 ∧ ∀ y ∈ x.f2, okInt y = true
theorem lf_f (m : Int) (x : S45) (h : leafOk m x) : statement_leaf.f m x.f0 x.f1 x.f2 = some (lfI m x) := by
  obtain ⟨h0, h1, h2, h3, h4⟩ := h
  unfold statement_leaf.f
  simp only [obs, List.length_cons, List.length_nil]
  rw [if_pos (by omega)]
  have hc : (([m, x.f0, x.f1] : List Int) ++ x.f2).all okInt = true ∧ (([m, x.f0, x.f1] : List Int) ++ x.f2).length * 23 ≤ 140737488355000 := by
    refine ⟨?_, ?_⟩
    · simp only [List.cons_append, List.nil_append, List.all_cons, h0, h1, h2, Bool.true_and]
      exact List.all_eq_true.2 h4
    · simp only [List.cons_append, List.nil_append, List.length_cons]
      omega
  unfold digest_Ints.f
  rw [if_pos hc]
  rfl
theorem memB_ok {a : Int} (h : memB a = true) : okInt a = true := by have := memB_lt h; exact okInt_of (by omega) (by omega)
theorem keyB_mem {h : Int} (k : keyB h = true) : memB h = true := by simp only [keyB, Bool.and_eq_true] at k; exact k.2
theorem okS_parts {h : Int} {x : S45} (k : okS h x = true) : homeB x.f0 = true ∧ keyB x.f1 = true ∧ x.f1 = h ∧ x.f2.length ≤ 64 ∧ ∀ y ∈ x.f2, memB y = true := by
  simp only [okS, Bool.and_eq_true, beq_iff_eq, decide_eq_true_eq, List.all_eq_true] at k
  exact k
theorem leafOk_of {m h : Int} {x : S45} (hm : monthB m = true) (k : okS h x = true) : leafOk m x := by
  obtain ⟨k0, k1, k2, k3, k4⟩ := okS_parts k
  have hm' := btw_iff.1 hm
  have k0' := btw_iff.1 k0
  exact ⟨okInt_of (by omega) (by omega), okInt_of (by omega) (by omega), memB_ok (keyB_mem k1), by omega, fun y hy => memB_ok (k4 y hy)⟩
theorem allB_parts {l : List S45} (h : allB l = true) : 1 ≤ l.length ∧ l.length ≤ 64 ∧ (∀ x ∈ l, okS (rd_T45 l 0).f1 x = true) ∧ riseB S45.f0 l = true := by
  simp only [allB, Bool.and_eq_true, List.all_eq_true] at h
  have h1 := btw_iff.1 h.1
  exact ⟨by omega, by omega, h.2.1, h.2.2⟩
theorem leaves_l0 (m : Int) (l : List S45) (hl : l.length ≤ 100000) (h : ∀ x ∈ l, leafOk m x) : ∀ (d i k : Nat), l.length - i = d → i ≤ l.length → d < k → statement_leaves.l0 k m (lfL m (l.take i)) l (l.length : Int) (i : Nat) = some (lfL m l)
  | 0, i, k, hd, hi, hk => by
    obtain ⟨k, rfl⟩ : ∃ n, k = n + 1 := ⟨k - 1, by omega⟩
    obtain rfl : i = l.length := by omega
    simp only [statement_leaves.l0]
    rw [if_neg (by omega), List.take_length]
  | d + 1, i, k, hd, hi, hk => by
    obtain ⟨k, rfl⟩ : ∃ n, k = n + 1 := ⟨k - 1, by omega⟩
    have hlt : i < l.length := by omega
    have ih := leaves_l0 m l hl h d (i + 1) k (by omega) (by omega) (by omega)
    simp only [statement_leaves.l0]
    rw [if_pos (by omega), if_pos (by omega), if_pos (by omega), rd_getS hlt, lf_f m _ (h _ (List.getElem_mem hlt))]
    simp only [obs]
    rw [if_pos (by simp only [lfL, List.length_map, List.length_take]; omega)]
    rw [show wrap64 ((i : Int) + 1) = ((i + 1 : Nat) : Int) by unfold wrap64; omega]
    rw [show lfL m (l.take i) ++ [lfI m l[i]] = lfL m (l.take (i + 1)) by unfold lfL; rw [List.take_succ_eq_append_getElem hlt, List.map_append]; rfl]
    exact ih
theorem leaves_f (m : Int) (l : List S45) (hl : l.length ≤ 100000) (h : ∀ x ∈ l, leafOk m x) (k : Nat) (hk : l.length < k) : statement_leaves.f k m l = some (lfL m l) :=
  leaves_l0 m l hl h l.length 0 k (by omega) (by omega) hk
theorem lfL_u (m : Int) (l : List S45) : AllU (lfL m l) := fun x hx => by
  obtain ⟨y, _, rfl⟩ := List.mem_map.1 hx
  exact isU_sum _
theorem lfL_len (m : Int) (l : List S45) : (lfL m l).length = l.length := by simp [lfL]
theorem equal_l0 : ∀ (d i k : Nat) (a b : List Int), a.length = b.length → a.length ≤ 1000000 → a.length - i = d → i ≤ a.length → d < k → a.take i = b.take i → slices_Equal_int_int.l0 k a b (a.length : Int) (i : Nat) = some (a == b)
  | 0, i, k, a, b, he, hn, hd, hi, hk, ht => by
    obtain ⟨k, rfl⟩ : ∃ n, k = n + 1 := ⟨k - 1, by omega⟩
    obtain rfl : i = a.length := by omega
    simp only [slices_Equal_int_int.l0]
    rw [if_neg (by omega)]
    rw [List.take_length, he, List.take_length] at ht
    subst ht
    simp
  | d + 1, i, k, a, b, he, hn, hd, hi, hk, ht => by
    obtain ⟨k, rfl⟩ : ∃ n, k = n + 1 := ⟨k - 1, by omega⟩
    have hlt : i < a.length := by omega
    have hlt' : i < b.length := by omega
    simp only [slices_Equal_int_int.l0]
    rw [if_pos (by omega), if_pos (by omega), if_pos (by omega), if_pos (by omega), rd_getI hlt, rd_getI hlt']
    by_cases hx : a[i] = b[i]
    · rw [if_pos hx, show wrap64 ((i : Int) + 1) = ((i + 1 : Nat) : Int) by unfold wrap64; omega]
      exact equal_l0 d (i + 1) k a b he hn (by omega) (by omega) (by omega) (by rw [List.take_succ_eq_append_getElem hlt, List.take_succ_eq_append_getElem hlt', ht, hx])
    · rw [if_neg hx]
      have : (a == b) = false := by
        rw [beq_eq_false_iff_ne]
        intro e
        subst e
        exact hx rfl
      rw [this]
theorem equal_f (a b : List Int) (hn : a.length ≤ 1000000) (k : Nat) (hk : a.length < k) : slices_Equal_int_int.f k a b = some (a == b) := by
  unfold slices_Equal_int_int.f
  by_cases he : a.length = b.length
  · rw [if_pos (by omega)]
    exact equal_l0 a.length 0 k a b he hn (by omega) (by omega) hk rfl
  · rw [if_neg (by omega)]
    have : (a == b) = false := by
      rw [beq_eq_false_iff_ne]
      intro e
      exact he (by rw [e])
    rw [this]
/-- What statement.Make answers. -/
def placeV (who : Int) (all : List S45) : Int := fstL (fun x => x.f0 == who) all 0
def makeV (m : Int) (all : List S45) (who : Int) (l : List S50) : Int × Int × Int × Int × List S50 × List Int × Int :=
  if monthB m && (allB all && (homeB who && linesB l)) then
    (if placeV who all < 0 then (0, 0, 0, 0, [], [], 4)
     else if ((rd_T45 all (placeV who all)).f2 == cmL (rd_T45 all (placeV who all)).f1 l) = true then (who, m, placeV who all, (rd_T45 all (placeV who all)).f1, l, pathV 10 (placeV who all).toNat (firstV (lfL m all)), 0)
     else (0, 0, 0, 0, [], [], 31))
  else (0, 0, 0, 0, [], [], 1)
theorem fstL_range {α : Type} (p : α → Bool) : ∀ (l : List α) (k : Nat), fstL p l k < 0 ∨ ((k : Int) ≤ fstL p l k ∧ fstL p l k < ((k + l.length : Nat) : Int))
  | [], k => Or.inl (by unfold fstL; omega)
  | x :: l, k => by
    unfold fstL
    split
    · right; simp only [List.length_cons]; omega
    · rcases fstL_range p l (k + 1) with h | h
      · exact Or.inl h
      · right; simp only [List.length_cons]; omega
theorem path_ok {m : Int} {l : List S45} (h : allB l = true) {i : Nat} (hi : i < l.length) (k : Nat) (hk : 1200 ≤ k) : digest_Path.f k (lfL m l) (i : Int) = some (pathV 10 i (firstV (lfL m l)), 0) := by
  obtain ⟨h1, h2, -, -⟩ := allB_parts h
  rw [path_f _ _ (lfL_u m l) k hk, pathR_ok (by rw [lfL_len]; exact hi) (by rw [lfL_len]; omega)]
end Go.Proofs.YtkdckjafhaadiaaDoor.P
/- slices.Clone of lines, and statement.Make. -/
set_option linter.unusedSimpArgs false
set_option linter.unusedVariables false
namespace Go.Proofs.YtkdckjafhaadiaaDoor.P
open Go Go.RowKit Go.Proofs.YtkdckjafhaadiaaDoorW.PrintWords Go.Proofs.YtkdckjafhaadiaaDoorW.PrintLast Go.Proofs.YtkdckjafhaadiaaDoorW.PrintMore Go.Proofs.YtkdckjafhaadiaaDoor.Ord

theorem info_L : (Tryd.prog.info? 50).map (fun i => (i.zero, i.size, i.bytes)) = some (some (.agg #[(.int .i64 0), (.int .i64 0), (.int .i64 0)]), 3, 24) := by kernel_rfl
set_option maxHeartbeats 1000000 in
set_option maxRecDepth 100000 in
theorem clone_L (A : Option Addr) (c : Nat) (l : List S50) (w : World) (hr : Kd.C k50 w A l.length l) (hn : l.length ≤ 100000) :
    Calls Tryd.prog 34 #[.slice A l.length c] w fun e w' => ∃ v, e = .returned v ∧ Kd.R k50 50 w' w.heap.size (fun _ => True) v l ∧ Below w.heap.size w w' := by
  have HR := Lib.hid hr
  clear hr
  cases A with
  | none =>
    obtain rfl : l = [] := by
      cases l with
      | nil => rfl
      | cons x l =>
        obtain ⟨ad, e, -⟩ := at_T50 HR.out (0 : Int) (by omega) (by simp only [List.length_cons]; omega)
        cases e
    have hnil : ∀ W, (binOp .eql 32 (.slice none ([] : List S50).length c) (.slice none 0 0)).run Tryd.prog W = .ok (.bool true) W := fun W => run_eql_slice_nil W _ _ _ _ _ Tryd.underlying32
    simp only [List.length_nil] at hnil ⊢
    go_enter Tryd.func34, Tryd.ntmps34
    go_wp2_with fail
    go_ret
    exact ⟨_, rfl, Kd.R_nil _ _ _ _ _, Below.refl _ _⟩
  | some ad =>
    have hnil : ∀ W, (binOp .eql 32 (.slice (some ad) l.length c) (.slice none 0 0)).run Tryd.prog W = .ok (.bool false) W := fun W => run_eql_slice_nil W _ _ _ _ _ Tryd.underlying32
    have hu := Tryd.underlying32
    go_enter Tryd.func34, Tryd.ntmps34
    go_wp2_with (first
        | ((with_reducible refine gate_dst (N := 5) rfl ?_); refine Kd.R_lit k50 _ 50 ?hg (N := 5) ?hd (xs := ([] : List S50)) (inner := []) (ok := fun _ => True) (okp := fun _ => True) ?hr ?hp (fun _ hk => hk) trivial (Below.refl _ _) (Nat.le_refl _) (by simp) ?_; (case hd => rfl); (case hg => rfl); (case hr => first | (go_simp; done) | (go_simp; rfl)); (case hp => exact (Reps.none _ _)); intro v3 w3 ho3 hb3 hg_ hnew_; clear hg_ hnew_; have HO3 := Lib.hid ho3; have HB3 := Lib.hid hb3; clear ho3 hb3)
        | ((with_reducible refine gate_builtin (b := .append) (xs := #[.tmp 5, .tmp 6]) rfl ?_); at_builtin; refine Kd.R_append_rows k50 (w0 := w) w.heap.size rfl (.tmp 5) (.tmp 6) 32 50 (.agg #[(.int .i64 0), (.int .i64 0), (.int .i64 0)]) 24 rfl hu info_L rfl (by decide) (by omega) v3 [] l _ _ _ (fun _ => True) (fun _ => False) rfl rfl ?aO ?aR (fun _ _ h => h) (fun _ h => h.elim) (fun _ _ => trivial) HB3.out HB3.out.size ?aL ?_; (case aR => exact Kd.C_below HR.out HB3.out); (case aO => exact HO3.out); (case aL => simp; omega); intro v4 w4 ho4 hb4 hg hat; have HO4 := Lib.hid ho4; have HB4 := Lib.hid hb4; clear ho4 hb4 hg hat HO3 HB3))
    go_ret
    exact ⟨_, rfl, by simpa using HO4.out, HB4.out⟩
end Go.Proofs.YtkdckjafhaadiaaDoor.P
/- statement.Make, walked. (Written by mkmake.py out of mkmake.body.) -/
set_option linter.unusedSimpArgs false
set_option linter.unusedVariables false
namespace Go.Proofs.YtkdckjafhaadiaaDoor.P
open Go Go.RowKit Go.Proofs.YtkdckjafhaadiaaDoorW.PrintWords Go.Proofs.YtkdckjafhaadiaaDoorW.PrintLast Go.Proofs.YtkdckjafhaadiaaDoorW.PrintMore Go.Proofs.YtkdckjafhaadiaaDoor.Ord Go.Proofs.YtkdckjafhaadiaaDoor.OrdI

set_option maxHeartbeats 1000000 in
theorem who_pred (x0 x1 who : Int) (v : Value) (B : Nat) (W : World) (hB : W.cell? ⟨B, 0, none⟩ = some (.int .i64 who)) :
    Calls Tryd.prog 30 #[.agg #[.int .i64 x0, .int .i64 x1, v], .pointer (some ⟨B, 0, none⟩)] W fun e W' => e = .returned (.bool (x0 == who)) ∧ Below W.heap.size W W' := by
  have hb : ∀ o, (W.alloc o).cell? ⟨B, 0, none⟩ = some (.int .i64 who) := fun o => (((Below.refl W.heap.size W).alloc (Nat.le_refl _) o).cell (World.block_lt_of_cell? W _ hB)).trans hB
  clear hB
  go_enter Tryd.func30, Tryd.ntmps30
  go_wp2_with fail
  go_ret
  exact ⟨rfl, (Below.refl _ W).alloc (Nat.le_refl _) _⟩
/-- What stands still in Make: the box of the household's number, and the result's variable. -/
structure Mk (w W : World) (who : Int) (vs : List Value) : Prop where
  b : Below w.heap.size w W
  h : Blk W w.heap.size 3 [.int .i64 who]
  r : Blk W (w.heap.size + 1) 35 vs
theorem Mk.below {w W W' : World} {who : Int} {vs : List Value} (h : Mk w W who vs) (hb : Below W.heap.size W W') : Mk w W' who vs := ⟨h.b.trans (Below.mono hb h.b.size), h.h.below hb h.h.lt, h.r.below hb h.r.lt⟩
theorem Mk.drew {w W : World} {who : Int} {vs : List Value} (h : Mk w W who vs) : Mk w W.drew who vs := ⟨h.b.drew, h.h, h.r⟩
set_option maxHeartbeats 8000000 in
set_option maxRecDepth 100000 in
theorem make_calls (a0 : Int) (A1 : Option Addr) (c1 : Nat) (l1 : List (S45)) (a2 : Int) (A3 : Option Addr) (c3 : Nat) (l3 : List (S50)) (w : World) (hr1 : Kd.C k45 w A1 l1.length l1) (hc1 : l1.length ≤ c1) (hr3 : Kd.C k50 w A3 l3.length l3) (hc3 : l3.length ≤ c3) (hT : TabOk w)
    (r : Int × Int × Int × Int × List S50 × List Int × Int) (h : makeV a0 l1 a2 l3 = r) :
    Calls Tryd.prog 11 #[.int .i64 a0, .slice A1 l1.length c1, .int .i64 a2, .slice A3 l3.length c3] w fun e w' => ∃ v4_ v5_ : Value, e = .returned (.tuple #[.agg #[.int .i64 r.1, .int .i64 r.2.1, .int .i64 r.2.2.1, .int .i64 r.2.2.2.1, v4_, v5_], .int .i64 r.2.2.2.2.2.2]) ∧ Kd.R k50 50 w' w.heap.size (fun _ => True) v4_ r.2.2.2.2.1 ∧ Kd.R (Kd.int .u64) 23 w' w.heap.size (fun _ => True) v5_ r.2.2.2.2.2.1 ∧ Below w.heap.size w w' := by
  have HRES := Lib.hid h
  have HT := Lib.hid hT
  have HR := Lib.hid (And.intro hr1 hr3)
  have HC := Lib.hid (And.intro hc1 hc3)
  have H0 := Lib.hid (fun W => statement_between.calls a0 0 1199 _ W (between_f _ _ _))
  have H2 := Lib.hid (fun W => statement_between.calls a2 1 64 _ W (between_f _ _ _))
  clear h hT hr1 hc1 hr3 hc3
  obtain ⟨b0, hb0⟩ : ∃ b, btw a0 0 1199 = b := ⟨_, rfl⟩
  obtain ⟨b2, hb2⟩ : ∃ b, btw a2 1 64 = b := ⟨_, rfl⟩
  rw [hb0] at H0
  rw [hb2] at H2
  have hm0 : monthB a0 = b0 := hb0
  have hm2 : homeB a2 = b2 := hb2
  clear hb0 hb2
  have HM := Lib.hid (And.intro hm0 hm2)
  clear hm0 hm2
  go_enter Tryd.func11, Tryd.ntmps11
  go_wp2_with fail
  obtain ⟨hx1, hs1, hb1⟩ := Blk.box w 3 [Value.int .i64 a2]
  rw [show (List.toArray [Value.int .i64 a2]) = #[Value.int .i64 a2] from rfl] at hx1 hs1 hb1
  have e1 : (w.alloc (Obj.cells #[Value.int .i64 a2] 3)).heap.size = w.heap.size + 1 := hs1
  generalize w.alloc (Obj.cells #[Value.int .i64 a2] 3) = w1 at hx1 hs1 hb1 e1 ⊢
  obtain ⟨hx2, hs2, hb2⟩ := Blk.box w1 35 [Value.int .i64 0, .int .i64 0, .int .i64 0, .int .i64 0, .slice none 0 0, .slice none 0 0]
  rw [show (List.toArray [Value.int .i64 0, .int .i64 0, .int .i64 0, .int .i64 0, .slice none 0 0, .slice none 0 0]) = #[Value.int .i64 0, .int .i64 0, .int .i64 0, .int .i64 0, .slice none 0 0, .slice none 0 0] from rfl] at hx2 hs2 hb2
  rw [e1] at hx2 hb2
  generalize w1.alloc (Obj.cells #[Value.int .i64 0, .int .i64 0, .int .i64 0, .int .i64 0, .slice none 0 0, .slice none 0 0] 35) = w2 at hx2 hs2 hb2 ⊢
  have HM2 := Lib.hid (show Mk w w2 a2 [Value.int .i64 0, .int .i64 0, .int .i64 0, .int .i64 0, .slice none 0 0, .slice none 0 0] from ⟨hb1.trans (Below.mono hb2 (by omega)), hx1.below hb2 (by omega), hx2⟩)
  clear hx1 hs1 hb1 hx2 hs2 hb2 e1
  refine (H0.out w2).mono ?_
  rintro e w3 ⟨rfl, hd⟩
  have HM3 := Lib.hid (HM2.out.below hd.below)
  clear hd HM2
  cases b0 with
  | false =>
    have hres := HRES.out
    rw [show makeV a0 l1 a2 l3 = (0, 0, 0, 0, [], [], 1) from by unfold makeV; rw [HM.out.1]; rfl] at hres
    subst hres
    have e0 := HM3.out.r.cell 0 _ rfl
    have e1 := HM3.out.r.cell 1 _ rfl
    have e2 := HM3.out.r.cell 2 _ rfl
    have e3 := HM3.out.r.cell 3 _ rfl
    have e4 := HM3.out.r.cell 4 _ rfl
    have e5 := HM3.out.r.cell 5 _ rfl
    have f0 := HM3.out.r.frozen 0
    have f1 := HM3.out.r.frozen 1
    have f2 := HM3.out.r.frozen 2
    have f3 := HM3.out.r.frozen 3
    have f4 := HM3.out.r.frozen 4
    have f5 := HM3.out.r.frozen 5
    go_wp2_with fail
    refine bodyPost_ret (results_ct rfl _ _ (w.heap.size + 1) 35 #[.int .i64 0, .int .i64 0, .int .i64 0, .int .i64 0, .slice none 0 0, .slice none 0 0] (0, 0) _ rfl ?blk Tryd.underlying35 rfl (by kernel_rfl)) rfl ?_
    case blk => exact (((((HM3.out.r.set 0 (.int .i64 0)).set 1 (.int .i64 0)).set 2 (.int .i64 0)).set 3 (.int .i64 0)).set 4 (.slice none 0 0)).set 5 (.slice none 0 0)
    exact ⟨_, _, rfl, Kd.R_nil _ _ _ _ _, Kd.R_nil _ _ _ _ _, (((((HM3.out.b.setCell (Nat.le_succ _) _).setCell (Nat.le_succ _) _).setCell (Nat.le_succ _) _).setCell (Nat.le_succ _) _).setCell (Nat.le_succ _) _).setCell (Nat.le_succ _) _⟩
  | true =>
    go_wp2_with fail
    refine (statement_isAll.calls A1 c1 l1 (allB l1) w3 (Kd.C_below HR.out.1 HM3.out.b) HC.out.1 rfl).mono ?_
    rintro e w4 ⟨rfl, hd⟩
    have HM4 := Lib.hid (HM3.out.below hd)
    clear hd HM3
    cases hall : allB l1 with
    | false =>
      have hres := HRES.out
      rw [show makeV a0 l1 a2 l3 = (0, 0, 0, 0, [], [], 1) from by unfold makeV; rw [HM.out.1, hall]; rfl] at hres
      subst hres
      have e0 := HM4.out.r.cell 0 _ rfl
      have e1 := HM4.out.r.cell 1 _ rfl
      have e2 := HM4.out.r.cell 2 _ rfl
      have e3 := HM4.out.r.cell 3 _ rfl
      have e4 := HM4.out.r.cell 4 _ rfl
      have e5 := HM4.out.r.cell 5 _ rfl
      have f0 := HM4.out.r.frozen 0
      have f1 := HM4.out.r.frozen 1
      have f2 := HM4.out.r.frozen 2
      have f3 := HM4.out.r.frozen 3
      have f4 := HM4.out.r.frozen 4
      have f5 := HM4.out.r.frozen 5
      go_wp2_with fail
      refine bodyPost_ret (results_ct rfl _ _ (w.heap.size + 1) 35 #[.int .i64 0, .int .i64 0, .int .i64 0, .int .i64 0, .slice none 0 0, .slice none 0 0] (0, 0) _ rfl ?blk Tryd.underlying35 rfl (by kernel_rfl)) rfl ?_
      case blk => exact (((((HM4.out.r.set 0 (.int .i64 0)).set 1 (.int .i64 0)).set 2 (.int .i64 0)).set 3 (.int .i64 0)).set 4 (.slice none 0 0)).set 5 (.slice none 0 0)
      exact ⟨_, _, rfl, Kd.R_nil _ _ _ _ _, Kd.R_nil _ _ _ _ _, (((((HM4.out.b.setCell (Nat.le_succ _) _).setCell (Nat.le_succ _) _).setCell (Nat.le_succ _) _).setCell (Nat.le_succ _) _).setCell (Nat.le_succ _) _).setCell (Nat.le_succ _) _⟩
    | true =>
      have HALL := Lib.hid hall
      clear hall
      have ch := HM4.out.h.cell 0 _ rfl
      go_wp2_with fail
      refine (H2.out w4).mono ?_
      rintro e w5 ⟨rfl, hd⟩
      have HM5 := Lib.hid (HM4.out.below hd.below)
      clear hd HM4 ch
      cases b2 with
      | false =>
        have hres := HRES.out
        rw [show makeV a0 l1 a2 l3 = (0, 0, 0, 0, [], [], 1) from by unfold makeV; rw [HM.out.1, HM.out.2, HALL.out]; rfl] at hres
        subst hres
        have e0 := HM5.out.r.cell 0 _ rfl
        have e1 := HM5.out.r.cell 1 _ rfl
        have e2 := HM5.out.r.cell 2 _ rfl
        have e3 := HM5.out.r.cell 3 _ rfl
        have e4 := HM5.out.r.cell 4 _ rfl
        have e5 := HM5.out.r.cell 5 _ rfl
        have f0 := HM5.out.r.frozen 0
        have f1 := HM5.out.r.frozen 1
        have f2 := HM5.out.r.frozen 2
        have f3 := HM5.out.r.frozen 3
        have f4 := HM5.out.r.frozen 4
        have f5 := HM5.out.r.frozen 5
        go_wp2_with fail
        refine bodyPost_ret (results_ct rfl _ _ (w.heap.size + 1) 35 #[.int .i64 0, .int .i64 0, .int .i64 0, .int .i64 0, .slice none 0 0, .slice none 0 0] (0, 0) _ rfl ?blk Tryd.underlying35 rfl (by kernel_rfl)) rfl ?_
        case blk => exact (((((HM5.out.r.set 0 (.int .i64 0)).set 1 (.int .i64 0)).set 2 (.int .i64 0)).set 3 (.int .i64 0)).set 4 (.slice none 0 0)).set 5 (.slice none 0 0)
        exact ⟨_, _, rfl, Kd.R_nil _ _ _ _ _, Kd.R_nil _ _ _ _ _, (((((HM5.out.b.setCell (Nat.le_succ _) _).setCell (Nat.le_succ _) _).setCell (Nat.le_succ _) _).setCell (Nat.le_succ _) _).setCell (Nat.le_succ _) _).setCell (Nat.le_succ _) _⟩
      | true =>
        go_wp2_with fail
        refine (statement_isLines.calls A3 c3 l3 (linesB l3) w5 (Kd.C_below HR.out.2 HM5.out.b) HC.out.2 rfl).mono ?_
        rintro e w6 ⟨rfl, hd⟩
        have HM6 := Lib.hid (HM5.out.below hd)
        clear hd HM5
        cases hlin : linesB l3 with
        | false =>
          have hres := HRES.out
          rw [show makeV a0 l1 a2 l3 = (0, 0, 0, 0, [], [], 1) from by unfold makeV; rw [HM.out.1, HM.out.2, HALL.out, hlin]; rfl] at hres
          subst hres
          have e0 := HM6.out.r.cell 0 _ rfl
          have e1 := HM6.out.r.cell 1 _ rfl
          have e2 := HM6.out.r.cell 2 _ rfl
          have e3 := HM6.out.r.cell 3 _ rfl
          have e4 := HM6.out.r.cell 4 _ rfl
          have e5 := HM6.out.r.cell 5 _ rfl
          have f0 := HM6.out.r.frozen 0
          have f1 := HM6.out.r.frozen 1
          have f2 := HM6.out.r.frozen 2
          have f3 := HM6.out.r.frozen 3
          have f4 := HM6.out.r.frozen 4
          have f5 := HM6.out.r.frozen 5
          go_wp2_with fail
          refine bodyPost_ret (results_ct rfl _ _ (w.heap.size + 1) 35 #[.int .i64 0, .int .i64 0, .int .i64 0, .int .i64 0, .slice none 0 0, .slice none 0 0] (0, 0) _ rfl ?blk Tryd.underlying35 rfl (by kernel_rfl)) rfl ?_
          case blk => exact (((((HM6.out.r.set 0 (.int .i64 0)).set 1 (.int .i64 0)).set 2 (.int .i64 0)).set 3 (.int .i64 0)).set 4 (.slice none 0 0)).set 5 (.slice none 0 0)
          exact ⟨_, _, rfl, Kd.R_nil _ _ _ _ _, Kd.R_nil _ _ _ _ _, (((((HM6.out.b.setCell (Nat.le_succ _) _).setCell (Nat.le_succ _) _).setCell (Nat.le_succ _) _).setCell (Nat.le_succ _) _).setCell (Nat.le_succ _) _).setCell (Nat.le_succ _) _⟩
        | true =>
          have HLIN := Lib.hid hlin
          have hmk := Lib.hid (show makeV a0 l1 a2 l3 = (if placeV a2 l1 < 0 then (0, 0, 0, 0, [], [], 4) else if ((rd_T45 l1 (placeV a2 l1)).f2 == cmL (rd_T45 l1 (placeV a2 l1)).f1 l3) = true then (a2, a0, placeV a2 l1, (rd_T45 l1 (placeV a2 l1)).f1, l3, pathV 10 (placeV a2 l1).toNat (firstV (lfL a0 l1)), 0) else (0, 0, 0, 0, [], [], 31)) from by unfold makeV; rw [HM.out.1, HM.out.2, HALL.out, hlin]; rfl)
          clear hlin
          go_wp2_with fail
          refine (idx_S (g := 30) (cap := #[.pointer (some ⟨w.heap.size, 0, none⟩)]) (fun x => x.f0 == a2) l1 A1 c1 w6 (Kd.C_below HR.out.1 HM6.out.b)
            (fun x V _ hV A2 c2 hle hC => who_pred x.f0 x.f1 a2 _ w.heap.size V ((HM6.out.h.below hV HM6.out.h.lt).cell 0 _ rfl)) (enters_of Tryd.func30 (by kernel_rfl) rfl)).mono ?_
          rintro e w7 ⟨rfl, hd⟩
          have HM7 := Lib.hid (HM6.out.below hd)
          have hrange := fstL_range (fun x : S45 => x.f0 == a2) l1 0
          have hpl : fstL (fun x : S45 => x.f0 == a2) l1 0 = placeV a2 l1 := rfl
          rw [hpl] at hrange ⊢
          clear hd HM6 hpl
          generalize placeV a2 l1 = p at *
          by_cases hp : p < 0
          · have hpd : decide (p < 0) = true := decide_eq_true hp
            have hmk2 := hmk.out
            rw [if_pos hp] at hmk2
            clear hrange hp hmk
            have hmk := Lib.hid hmk2
            clear hmk2
            have hres := HRES.out
            rw [show makeV a0 l1 a2 l3 = (0, 0, 0, 0, [], [], 4) from by unfold makeV; exact hmk.out] at hres
            subst hres
            have e0 := HM7.out.r.cell 0 _ rfl
            have e1 := HM7.out.r.cell 1 _ rfl
            have e2 := HM7.out.r.cell 2 _ rfl
            have e3 := HM7.out.r.cell 3 _ rfl
            have e4 := HM7.out.r.cell 4 _ rfl
            have e5 := HM7.out.r.cell 5 _ rfl
            have f0 := HM7.out.r.frozen 0
            have f1 := HM7.out.r.frozen 1
            have f2 := HM7.out.r.frozen 2
            have f3 := HM7.out.r.frozen 3
            have f4 := HM7.out.r.frozen 4
            have f5 := HM7.out.r.frozen 5
            go_wp2_with fail
            refine bodyPost_ret (results_ct rfl _ _ (w.heap.size + 1) 35 #[.int .i64 0, .int .i64 0, .int .i64 0, .int .i64 0, .slice none 0 0, .slice none 0 0] (0, 0) _ rfl ?blk Tryd.underlying35 rfl (by kernel_rfl)) rfl ?_
            case blk => exact (((((HM7.out.r.set 0 (.int .i64 0)).set 1 (.int .i64 0)).set 2 (.int .i64 0)).set 3 (.int .i64 0)).set 4 (.slice none 0 0)).set 5 (.slice none 0 0)
            exact ⟨_, _, rfl, Kd.R_nil _ _ _ _ _, Kd.R_nil _ _ _ _ _, (((((HM7.out.b.setCell (Nat.le_succ _) _).setCell (Nat.le_succ _) _).setCell (Nat.le_succ _) _).setCell (Nat.le_succ _) _).setCell (Nat.le_succ _) _).setCell (Nat.le_succ _) _⟩
          · obtain ⟨k, rfl⟩ : ∃ k : Nat, p = k := ⟨p.toNat, by omega⟩
            have hk : k < l1.length := by omega
            have hpd : decide ((k : Int) < 0) = false := decide_eq_false hp
            have hmk2 := hmk.out
            rw [if_neg hp, Int.toNat_natCast] at hmk2
            clear hrange hp hmk
            have HMK := Lib.hid hmk2
            clear hmk2
            obtain ⟨x, hx⟩ : ∃ x, rd_T45 l1 (k : Int) = x := ⟨_, rfl⟩
            have hxm : x ∈ l1 := by rw [← hx, rd_getS hk]; exact List.getElem_mem hk
            rw [hx] at HMK
            obtain ⟨ad, A2, c2, hA, h0, h1, h2, hle, hC⟩ := at_T45 HR.out.1 (k : Int) (by omega) (by omega)
            subst hA
            rw [hx] at h0 h1 h2 hle hC
            simp only [Int.toNat_natCast] at h0 h1 h2
            have HX := Lib.hid (And.intro h1 (And.intro h2 (And.intro hle hC)))
            have HXM := Lib.hid (okS_parts ((allB_parts HALL.out).2.2.1 x hxm))
            have hk1 : (k : Int) < (l1.length : Int) := by omega
            have HL1 := Lib.hid (And.intro (allB_parts HALL.out).1 (allB_parts HALL.out).2.1)
            have hS : ∀ W, Held (fun W => Mk w W a2 [Value.int .i64 0, .int .i64 0, .int .i64 0, .int .i64 0, .slice none 0 0, .slice none 0 0]) W → W.cell? ⟨(ad.add (k * 3)).block, (ad.add (k * 3)).off + 1, none⟩ = some (.int .i64 x.f1) ∧ W.cell? ⟨(ad.add (k * 3)).block, (ad.add (k * 3)).off + 2, none⟩ = some (.slice A2 x.f2.length c2) ∧ W.cell? ⟨w.heap.size, 0, none⟩ = some (.int .i64 a2) := fun W hW =>
              ⟨(hW.b.cell (World.block_lt_of_cell? w _ HX.out.1)).trans HX.out.1, (hW.b.cell (World.block_lt_of_cell? w _ HX.out.2.1)).trans HX.out.2.1, hW.h.cell 0 _ rfl⟩
            clear h0 h1 h2 hle hC hx hxm
            go_wp2_with fail
            refine wp_region_auto (fun W => Mk w W a2 [Value.int .i64 0, .int .i64 0, .int .i64 0, .int .i64 0, .slice none 0 0, .slice none 0 0]) ((0, none, none) :: (0, none, none) :: (0, none, none) :: (0, none, none) :: (0, none, none) :: (0, none, none) :: (0, none, none) :: (0, none, none) :: (0, none, none) :: (0, none, none) :: (0, none, none) :: (0, none, some true) :: (0, none, some true) :: (0, none, none) :: []) (by kernel_rfl) (by kernel_rfl) (fun _ _ d _ _ h => by cases d <;> exact h) HM7.out.drew ?_
            repeat' (first
              | (with_reducible apply rel_pass
                 focus (intro W hW; first | (go_simp; exact rfl) | go_simp)
                 simp only [Act.put, List.setIfInBounds_toArray, List.set_cons_zero, List.set_cons_succ])
              | (with_reducible apply rel_yes
                 focus (exact rfl))
              | (with_reducible apply rel_no
                 focus (exact rfl)
                 simp only [Act.put, List.setIfInBounds_toArray, List.set_cons_zero, List.set_cons_succ])
              | (with_reducible apply rel_askF
                 focus (exact rfl)
                 all_goals (intro hb; simp only [hb, Act.put, List.setIfInBounds_toArray, List.set_cons_zero, List.set_cons_succ]))
              | (with_reducible apply rel_askT
                 focus (exact rfl)
                 all_goals (intro hb; simp only [hb, Act.put, List.setIfInBounds_toArray, List.set_cons_zero, List.set_cons_succ]))
              | (with_reducible apply rel_front1)
              | (with_reducible apply rel_front2)
              | (with_reducible apply rel_front3)
              | (with_reducible apply rel_front4)
              | (with_reducible apply rel_front5)
              | (with_reducible apply rel_front6))
            with_reducible apply rel_act
            intro K hK
            go_simp
            refine (statement_commit.calls x.f1 A3 c3 l3 (cmL x.f1 l3) w7.drew (Kd.C_below HR.out.2 HM7.out.drew.b) HC.out.2 (commit_lines HLIN.out)).mono ?_
            rintro e w8 ⟨v8, rfl, ho8, hd⟩
            obtain ⟨M8, n8, rfl, p8, q8⟩ := Kd.R_reads ho8
            have HM8 := Lib.hid (HM7.out.drew.below hd)
            have HQ8 := Lib.hid (And.intro p8 q8)
            clear hd ho8 p8 q8
            refine hK _ _ ⟨fun _ => HM8.out, ?_⟩
            clear hK K
            try simp only [Act.put, List.setIfInBounds_toArray, List.set_cons_zero, List.set_cons_succ]
            repeat' (first
              | (with_reducible apply rel_pass
                 focus (intro W hW; first | (go_simp; exact rfl) | go_simp)
                 simp only [Act.put, List.setIfInBounds_toArray, List.set_cons_zero, List.set_cons_succ])
              | (with_reducible apply rel_yes
                 focus (exact rfl))
              | (with_reducible apply rel_no
                 focus (exact rfl)
                 simp only [Act.put, List.setIfInBounds_toArray, List.set_cons_zero, List.set_cons_succ])
              | (with_reducible apply rel_askF
                 focus (exact rfl)
                 all_goals (intro hb; simp only [hb, Act.put, List.setIfInBounds_toArray, List.set_cons_zero, List.set_cons_succ]))
              | (with_reducible apply rel_askT
                 focus (exact rfl)
                 all_goals (intro hb; simp only [hb, Act.put, List.setIfInBounds_toArray, List.set_cons_zero, List.set_cons_succ]))
              | (with_reducible apply rel_front1)
              | (with_reducible apply rel_front2)
              | (with_reducible apply rel_front3)
              | (with_reducible apply rel_front4)
              | (with_reducible apply rel_front5)
              | (with_reducible apply rel_front6))
            with_reducible apply rel_act
            intro K hK
            go_simp
            refine (slices_Equal_int_int.calls (x.f2.length + 1) A2 c2 x.f2 M8 n8 (cmL x.f1 l3) (x.f2 == cmL x.f1 l3) w8 (Kd.C_below HX.out.2.2.2 HM8.out.b) HX.out.2.2.1 HQ8.out.2 HQ8.out.1 (equal_f _ _ (by have := HXM.out.2.2.2.1; omega) _ (by omega))).mono ?_
            rintro e w9 ⟨rfl, hd⟩
            have HM9 := Lib.hid (HM8.out.below hd.below)
            clear hd HM8 HQ8
            refine hK _ _ ⟨fun _ => HM9.out, ?_⟩
            clear hK K
            try simp only [Act.put, List.setIfInBounds_toArray, List.set_cons_zero, List.set_cons_succ]
            repeat' (first
              | (with_reducible apply rel_pass
                 focus (intro W hW; first | (go_simp; exact rfl) | go_simp)
                 simp only [Act.put, List.setIfInBounds_toArray, List.set_cons_zero, List.set_cons_succ])
              | (with_reducible apply rel_yes
                 focus (exact rfl))
              | (with_reducible apply rel_no
                 focus (exact rfl)
                 simp only [Act.put, List.setIfInBounds_toArray, List.set_cons_zero, List.set_cons_succ])
              | (with_reducible apply rel_askF
                 focus (exact rfl)
                 all_goals (intro hb; simp only [hb, Act.put, List.setIfInBounds_toArray, List.set_cons_zero, List.set_cons_succ]))
              | (with_reducible apply rel_askT
                 focus (exact rfl)
                 all_goals (intro hb; simp only [hb, Act.put, List.setIfInBounds_toArray, List.set_cons_zero, List.set_cons_succ]))
              | (with_reducible apply rel_front1)
              | (with_reducible apply rel_front2)
              | (with_reducible apply rel_front3)
              | (with_reducible apply rel_front4)
              | (with_reducible apply rel_front5)
              | (with_reducible apply rel_front6))
            apply rel_nil
            simp only [Exit.then, Exit.inBlock]
            obtain ⟨eq, heq⟩ : ∃ b, (x.f2 == cmL x.f1 l3) = b := ⟨_, rfl⟩
            rw [heq]
            have hmk3 := HMK.out
            rw [heq] at hmk3
            clear HMK heq
            cases eq with
            | false =>
              rw [if_neg (by decide)] at hmk3
              have hmk := Lib.hid hmk3
              clear hmk3 hS
              have hres := HRES.out
              rw [show makeV a0 l1 a2 l3 = (0, 0, 0, 0, [], [], 31) from by unfold makeV; exact hmk.out] at hres
              subst hres
              have e0 := HM9.out.r.cell 0 _ rfl
              have e1 := HM9.out.r.cell 1 _ rfl
              have e2 := HM9.out.r.cell 2 _ rfl
              have e3 := HM9.out.r.cell 3 _ rfl
              have e4 := HM9.out.r.cell 4 _ rfl
              have e5 := HM9.out.r.cell 5 _ rfl
              have f0 := HM9.out.r.frozen 0
              have f1 := HM9.out.r.frozen 1
              have f2 := HM9.out.r.frozen 2
              have f3 := HM9.out.r.frozen 3
              have f4 := HM9.out.r.frozen 4
              have f5 := HM9.out.r.frozen 5
              go_wp2_with fail
              refine bodyPost_ret (results_ct rfl _ _ (w.heap.size + 1) 35 #[.int .i64 0, .int .i64 0, .int .i64 0, .int .i64 0, .slice none 0 0, .slice none 0 0] (0, 0) _ rfl ?blk Tryd.underlying35 rfl (by kernel_rfl)) rfl ?_
              case blk => exact (((((HM9.out.r.set 0 (.int .i64 0)).set 1 (.int .i64 0)).set 2 (.int .i64 0)).set 3 (.int .i64 0)).set 4 (.slice none 0 0)).set 5 (.slice none 0 0)
              exact ⟨_, _, rfl, Kd.R_nil _ _ _ _ _, Kd.R_nil _ _ _ _ _, (((((HM9.out.b.setCell (Nat.le_succ _) _).setCell (Nat.le_succ _) _).setCell (Nat.le_succ _) _).setCell (Nat.le_succ _) _).setCell (Nat.le_succ _) _).setCell (Nat.le_succ _) _⟩
            | true =>
              rw [if_pos rfl] at hmk3
              have HMK := Lib.hid hmk3
              clear hmk3
              go_wp2_with fail
              refine (statement_leaves.calls (l1.length + 1) a0 (some ad) c1 l1 (lfL a0 l1) w9 (Kd.C_below HR.out.1 HM9.out.b) HC.out.1 (TabOk.below HT.out HM9.out.b) (leaves_f a0 l1 (by have := HL1.out; omega) (fun y hy => leafOk_of HM.out.1 ((allB_parts HALL.out).2.2.1 y hy)) _ (by omega))).mono ?_
              rintro e w10 ⟨v10, rfl, ho10, hd⟩
              obtain ⟨M10, n10, rfl, p10, q10⟩ := Kd.R_reads ho10
              have HM10 := Lib.hid (HM9.out.below hd)
              have HQ10 := Lib.hid (And.intro p10 q10)
              clear hd ho10 p10 q10 HM9
              go_wp2_with fail
              refine (digest_Path.calls 1200 M10 n10 (lfL a0 l1) (k : Int) (pathV 10 k (firstV (lfL a0 l1))) 0 w10 HQ10.out.2 HQ10.out.1 (path_ok HALL.out (by omega) _ (by omega))).mono ?_
              rintro e w11 ⟨v11, rfl, ho11, hd⟩
              have HM11 := Lib.hid (HM10.out.below hd)
              obtain ⟨M11, n11, rfl, -, -⟩ := Kd.R_reads ho11
              have HO11 := Lib.hid (Kd.R_lower (Kd.R_mono (ok' := fun k => k ≠ w.heap.size + 1) (Kd.R_bound ho11) (fun k hk => by have h1 := hk.2.1; have h2 := HM10.out.r.lt; omega)) HM10.out.b.size)
              clear hd ho11 HQ10 HM10
              have hF : ∀ f, Fence.wide.fn f := fun _ => trivial
              go_wp2_with fail
              refine (wpIn_wide (n := 3)).1 ?_
              refine wpIn_region_auto (fun W => Mk w W a2 [Value.int .i64 0, .int .i64 0, .int .i64 0, .int .i64 0, .slice none 0 0, .slice none 0 0]) ((0, none, none) :: (0, none, none) :: (0, none, none) :: (0, none, none) :: (0, none, none) :: (0, none, none) :: (0, none, none) :: (0, none, none) :: (0, none, none) :: (1, none, none) :: (0, none, some true) :: (0, none, none) :: (0, none, some false) :: (0, none, some false) :: []) hF (by kernel_rfl) (by kernel_rfl) (fun _ _ d _ _ h => by cases d <;> exact h) HM11.out.drew ?_
              repeat' (first
                | (with_reducible apply relI_pass
                   focus (intro W hW; first | (go_simp; exact rfl) | go_simp)
                   simp only [Act.put, List.setIfInBounds_toArray, List.set_cons_zero, List.set_cons_succ])
                | (with_reducible apply relI_yes
                   focus (exact rfl))
                | (with_reducible apply relI_no
                   focus (exact rfl)
                   simp only [Act.put, List.setIfInBounds_toArray, List.set_cons_zero, List.set_cons_succ])
                | (with_reducible apply relI_askF
                   focus (exact rfl)
                   all_goals (intro hb; simp only [hb, Act.put, List.setIfInBounds_toArray, List.set_cons_zero, List.set_cons_succ]))
                | (with_reducible apply relI_askT
                   focus (exact rfl)
                   all_goals (intro hb; simp only [hb, Act.put, List.setIfInBounds_toArray, List.set_cons_zero, List.set_cons_succ]))
                | (with_reducible apply relI_front1)
                | (with_reducible apply relI_front2)
                | (with_reducible apply relI_front3)
                | (with_reducible apply relI_front4)
                | (with_reducible apply relI_front5)
                | (with_reducible apply relI_front6))
              apply relI_act hF rfl
              intro K hK
              go_simp
              refine callsIn_wide.2 ?_
              refine (clone_L A3 c3 l3 w11.drew (Kd.C_below HR.out.2 HM11.out.drew.b) (by have h := HLIN.out; simp only [linesB, Bool.and_eq_true, decide_eq_true_eq] at h; omega)).mono ?_
              rintro e w12 ⟨v12, rfl, ho12, hd⟩
              have HM12 := Lib.hid (HM11.out.drew.below hd)
              obtain ⟨M12, n12, rfl, -, -⟩ := Kd.R_reads ho12
              have HO12 := Lib.hid (And.intro (Kd.R_lower (Kd.R_mono (ok' := fun k => k ≠ w.heap.size + 1) (Kd.R_bound ho12) (fun k hk => by have h1 : w11.heap.size ≤ k := hk.2.1; have h2 := HM11.out.r.lt; omega)) (show w.heap.size ≤ w11.drew.heap.size from HM11.out.b.size)) (Kd.R_below HO11.out (show Below w11.heap.size w11 w12 from (Below.refl _ _).drew.trans hd)))
              clear hd ho12 HO11
              refine hK _ _ ⟨fun _ => HM12.out, ?_⟩
              clear hK K
              try simp only [Act.put, List.setIfInBounds_toArray, List.set_cons_zero, List.set_cons_succ]
              repeat' (first
                | (with_reducible apply relI_pass
                   focus (intro W hW; first | (go_simp; exact rfl) | go_simp)
                   simp only [Act.put, List.setIfInBounds_toArray, List.set_cons_zero, List.set_cons_succ])
                | (with_reducible apply relI_yes
                   focus (exact rfl))
                | (with_reducible apply relI_no
                   focus (exact rfl)
                   simp only [Act.put, List.setIfInBounds_toArray, List.set_cons_zero, List.set_cons_succ])
                | (with_reducible apply relI_askF
                   focus (exact rfl)
                   all_goals (intro hb; simp only [hb, Act.put, List.setIfInBounds_toArray, List.set_cons_zero, List.set_cons_succ]))
                | (with_reducible apply relI_askT
                   focus (exact rfl)
                   all_goals (intro hb; simp only [hb, Act.put, List.setIfInBounds_toArray, List.set_cons_zero, List.set_cons_succ]))
                | (with_reducible apply relI_front1)
                | (with_reducible apply relI_front2)
                | (with_reducible apply relI_front3)
                | (with_reducible apply relI_front4)
                | (with_reducible apply relI_front5)
                | (with_reducible apply relI_front6))
              have e0 := HM12.out.r.cell 0 _ rfl
              have e1 := HM12.out.r.cell 1 _ rfl
              have e2 := HM12.out.r.cell 2 _ rfl
              have e3 := HM12.out.r.cell 3 _ rfl
              have e4 := HM12.out.r.cell 4 _ rfl
              have e5 := HM12.out.r.cell 5 _ rfl
              have f0 := HM12.out.r.frozen 0
              have f1 := HM12.out.r.frozen 1
              have f2 := HM12.out.r.frozen 2
              have f3 := HM12.out.r.frozen 3
              have f4 := HM12.out.r.frozen 4
              have f5 := HM12.out.r.frozen 5
              apply relI_act hF rfl
              intro K hK
              go_simp
              refine hK _ _ ⟨fun h => (by cases h), ?_⟩
              clear hK K
              try simp only [Act.put, List.setIfInBounds_toArray, List.set_cons_zero, List.set_cons_succ]
              repeat' (first
                | (with_reducible apply relI_pass
                   focus (intro W hW; first | (go_simp; exact rfl) | go_simp)
                   simp only [Act.put, List.setIfInBounds_toArray, List.set_cons_zero, List.set_cons_succ])
                | (with_reducible apply relI_yes
                   focus (exact rfl))
                | (with_reducible apply relI_no
                   focus (exact rfl)
                   simp only [Act.put, List.setIfInBounds_toArray, List.set_cons_zero, List.set_cons_succ])
                | (with_reducible apply relI_askF
                   focus (exact rfl)
                   all_goals (intro hb; simp only [hb, Act.put, List.setIfInBounds_toArray, List.set_cons_zero, List.set_cons_succ]))
                | (with_reducible apply relI_askT
                   focus (exact rfl)
                   all_goals (intro hb; simp only [hb, Act.put, List.setIfInBounds_toArray, List.set_cons_zero, List.set_cons_succ]))
                | (with_reducible apply relI_front1)
                | (with_reducible apply relI_front2)
                | (with_reducible apply relI_front3)
                | (with_reducible apply relI_front4)
                | (with_reducible apply relI_front5)
                | (with_reducible apply relI_front6))
              apply relI_act hF rfl
              intro K hK
              go_simp
              refine hK _ _ ⟨fun h => (by cases h), ?_⟩
              clear hK K
              try simp only [Act.put, List.setIfInBounds_toArray, List.set_cons_zero, List.set_cons_succ]
              repeat' (first
                | (with_reducible apply relI_pass
                   focus (intro W hW; first | (go_simp; exact rfl) | go_simp)
                   simp only [Act.put, List.setIfInBounds_toArray, List.set_cons_zero, List.set_cons_succ])
                | (with_reducible apply relI_yes
                   focus (exact rfl))
                | (with_reducible apply relI_no
                   focus (exact rfl)
                   simp only [Act.put, List.setIfInBounds_toArray, List.set_cons_zero, List.set_cons_succ])
                | (with_reducible apply relI_askF
                   focus (exact rfl)
                   all_goals (intro hb; simp only [hb, Act.put, List.setIfInBounds_toArray, List.set_cons_zero, List.set_cons_succ]))
                | (with_reducible apply relI_askT
                   focus (exact rfl)
                   all_goals (intro hb; simp only [hb, Act.put, List.setIfInBounds_toArray, List.set_cons_zero, List.set_cons_succ]))
                | (with_reducible apply relI_front1)
                | (with_reducible apply relI_front2)
                | (with_reducible apply relI_front3)
                | (with_reducible apply relI_front4)
                | (with_reducible apply relI_front5)
                | (with_reducible apply relI_front6))
              apply relI_nil
              simp only [Exit.then, Exit.inBlock]
              have hr13 := ((((HM12.out.r.set 0 (.int .i64 a2)).set 1 (.int .i64 a0)).set 2 (.int .i64 k)).set 3 (.int .i64 x.f1)).set 4 (.slice M12 l3.length n12) |>.set 5 (.slice M11 (pathV 10 k (firstV (lfL a0 l1))).length n11)
              have hres := HRES.out
              rw [HMK.out] at hres
              subst hres
              clear e0 e1 e2 e3 e4 e5 f0 f1 f2 f3 f4 f5 hS
              go_wp2_with fail
              refine bodyPost_ret (results_ct rfl _ _ (w.heap.size + 1) 35 #[.int .i64 a2, .int .i64 a0, .int .i64 k, .int .i64 x.f1, .slice M12 l3.length n12, .slice M11 (pathV 10 k (firstV (lfL a0 l1))).length n11] (0, 0) _ rfl ?blk Tryd.underlying35 rfl (by kernel_rfl)) rfl ?_
              case blk => exact hr13
              have far : ∀ {α : Type} {d : Kd α} {e base : Nat} {W : World} {v : Value} {xs : List α} (x0 x1 x2 x3 x4 x5 : Value), d.R e W base (fun k => k ≠ w.heap.size + 1) v xs → d.R e ((((((W.setCell ⟨w.heap.size + 1, 0, none⟩ x0).setCell ⟨w.heap.size + 1, 1, none⟩ x1).setCell ⟨w.heap.size + 1, 2, none⟩ x2).setCell ⟨w.heap.size + 1, 3, none⟩ x3).setCell ⟨w.heap.size + 1, 4, none⟩ x4).setCell ⟨w.heap.size + 1, 5, none⟩ x5) base (fun _ => True) v xs := fun x0 x1 x2 x3 x4 x5 h =>
                Kd.R_mono (Kd.R_far (p := ⟨w.heap.size + 1, 5, none⟩) (Kd.R_far (p := ⟨w.heap.size + 1, 4, none⟩) (Kd.R_far (p := ⟨w.heap.size + 1, 3, none⟩) (Kd.R_far (p := ⟨w.heap.size + 1, 2, none⟩) (Kd.R_far (p := ⟨w.heap.size + 1, 1, none⟩) (Kd.R_far (p := ⟨w.heap.size + 1, 0, none⟩) h (fun _ hk => hk) x0) (fun _ hk => hk) x1) (fun _ hk => hk) x2) (fun _ hk => hk) x3) (fun _ hk => hk) x4) (fun _ hk => hk) x5) (fun _ _ => trivial)
              exact ⟨_, _, rfl, far _ _ _ _ _ _ HO12.out.1, far _ _ _ _ _ _ HO12.out.2, (((((HM12.out.b.setCell (Nat.le_succ _) _).setCell (Nat.le_succ _) _).setCell (Nat.le_succ _) _).setCell (Nat.le_succ _) _).setCell (Nat.le_succ _) _).setCell (Nat.le_succ _) _⟩
def statement_Make.f (a0 : Int) (l1 : List (S45)) (a2 : Int) (l3 : List (S50)) : Option (Int × Int × Int × Int × (List (S50)) × List Int × Int) := some (makeV a0 l1 a2 l3)
theorem statement_Make.calls (a0 : Int) (A1 : Option Addr) (c1 : Nat) (l1 : List (S45)) (a2 : Int) (A3 : Option Addr) (c3 : Nat) (l3 : List (S50)) (r1 : Int) (r2 : Int) (r3 : Int) (r4 : Int) (r5 : List (S50)) (r6 : List Int) (r7 : Int) (w : World) (hr1 : Kd.C k45 w A1 l1.length l1) (hc1 : l1.length ≤ c1) (hr3 : Kd.C k50 w A3 l3.length l3) (hc3 : l3.length ≤ c3) (hT : TabOk w) (h : statement_Make.f a0 l1 a2 l3 = some (r1, r2, r3, r4, r5, r6, r7)) :
    Calls Tryd.prog 11 #[.int .i64 a0, .slice A1 l1.length c1, .int .i64 a2, .slice A3 l3.length c3] w fun e w' => ∃ v4_ v5_ : Value, e = .returned (.tuple #[.agg #[.int .i64 r1, .int .i64 r2, .int .i64 r3, .int .i64 r4, v4_, v5_], .int .i64 r7]) ∧ Kd.R k50 50 w' w.heap.size (fun _ => True) v4_ r5 ∧ Kd.R (Kd.int .u64) 23 w' w.heap.size (fun _ => True) v5_ r6 ∧ Below w.heap.size w w' :=
  make_calls a0 A1 c1 l1 a2 A3 c3 l3 w hr1 hc1 hr3 hc3 hT (r1, r2, r3, r4, r5, r6, r7) (Option.some.inj h)
end Go.Proofs.YtkdckjafhaadiaaDoor.P
/- Statements: what Seal, Root and Check answer, in plain words; what the reference's comparisons answer. -/
set_option linter.unusedSimpArgs false
set_option linter.unusedVariables false
namespace Go.Proofs.YtkdckjafhaadiaaDoor.P
open Go Go.RowKit Go.Proofs.YtkdckjafhaadiaaDoorW.PrintWords Go.Proofs.YtkdckjafhaadiaaDoorW.PrintLast Go.Proofs.YtkdckjafhaadiaaDoorW.PrintMore

theorem seal_f (h who : Int) (l : List S50) : statement_Seal.f h who l = some (sealV h who l) := by
  unfold statement_Seal.f sealV
  rw [isBase_f]
  simp only [obs]
  cases hk : keyB h with
  | false => rw [if_neg (by decide)]; simp
  | true =>
    rw [if_pos rfl, between_f]
    simp only [obs]
    rw [show btw who 1 64 = homeB who from rfl]
    cases hw : homeB who with
    | false => rw [if_neg (by decide)]; simp
    | true =>
      rw [if_pos rfl]
      unfold statement_isLines.f
      simp only [obs]
      cases hl : linesB l with
      | false => rw [if_neg (by decide)]; simp
      | true =>
        rw [if_pos rfl, commit_lines hl]
        simp
def rootS (m : Int) (all : List S45) : Int × Int := if monthB m && allB all then rootV (lfL m all) else (0, 1)
theorem sroot_f (m : Int) (all : List S45) (k : Nat) (hk : 1200 ≤ k) : statement_Root.f k m all = some (rootS m all) := by
  obtain ⟨k, rfl⟩ : ∃ n, k = n + 1 := ⟨k - 1, by omega⟩
  unfold statement_Root.f rootS
  rw [between_f, show btw m 0 1199 = monthB m from rfl]
  simp only [obs]
  cases hm : monthB m with
  | false =>
    rw [if_neg (by decide)]
    simp only [statement_Root.j0]
    simp
  | true =>
    rw [if_pos rfl]
    unfold statement_isAll.f
    simp only [obs, statement_Root.j0]
    cases ha : allB all with
    | false => simp
    | true =>
      obtain ⟨h1, h2, h3, h4⟩ := allB_parts ha
      rw [if_neg (by decide), leaves_f m all (by omega) (fun x hx => leafOk_of hm (h3 x hx)) _ (by omega)]
      simp only [obs]
      rw [root_f _ (lfL_u m all) _ (by omega)]
      simp
theorem rootS_ok {m : Int} {all : List S45} (hm : monthB m = true) (ha : allB all = true) : rootS m all = (topV 10 (firstV (lfL m all)), 0) := by
  obtain ⟨h1, h2, -, -⟩ := allB_parts ha
  unfold rootS
  rw [hm, ha, Bool.and_self, if_pos rfl, rootV_ok (by rw [lfL_len]; omega) (by rw [lfL_len]; omega)]
def formB (home month h : Int) (l : List S50) : Bool := homeB home && (monthB month && (keyB h && linesB l))
def checkS (root n home month index h : Int) (l : List S50) (path : List Int) : Bool × Int :=
  if formB home month h l then (checkV root (lfI month ⟨home, h, cmL h l⟩) index n path, 0) else (false, 1)
theorem formed_f (a b c d : Int) (l : List S50) (p : List Int) : statement_formed.f a b c d l p = some (formB a b d l) := by
  unfold statement_formed.f formB
  rw [between_f, show btw a 1 64 = homeB a from rfl]
  simp only [obs]
  cases homeB a with
  | false => rw [if_neg (by decide)]; simp
  | true =>
    rw [if_pos rfl, between_f, show btw b 0 1199 = monthB b from rfl]
    simp only [obs]
    cases monthB b with
    | false => rw [if_neg (by decide)]; simp
    | true =>
      rw [if_pos rfl, isBase_f]
      simp only [obs]
      cases keyB d with
      | false => rw [if_neg (by decide)]; simp
      | true =>
        rw [if_pos rfl]
        unfold statement_isLines.f
        simp
theorem leafOk_lines {m home h : Int} {l : List S50} (hm : monthB m = true) (h0 : homeB home = true) (hk : keyB h = true) (hl : linesB l = true) : leafOk m ⟨home, h, cmL h l⟩ := by
  have hm' := btw_iff.1 hm
  have h0' := btw_iff.1 h0
  have hc := cmL_mem hk hl
  have hlen : l.length ≤ 64 := by simp only [linesB, Bool.and_eq_true, decide_eq_true_eq] at hl; exact hl.1
  have hh : okInt home = true := okInt_of (by omega) (by omega)
  refine ⟨okInt_of (by omega) (by omega), hh, memB_ok (keyB_mem hk), by show (cmL h l).length ≤ 100000; rw [cmL_len]; omega, fun y hy => memB_ok (List.all_eq_true.1 hc y hy)⟩
theorem scheck_f (root n home month index h : Int) (l : List S50) (path : List Int) (hp : AllU path) (k : Nat) (hk : 200 ≤ k) : statement_Check.f k root n home month index h l path = some (checkS root n home month index h l path) := by
  unfold statement_Check.f checkS
  rw [formed_f]
  simp only [obs]
  cases hf : formB home month h l with
  | false => rw [if_neg (by decide)]; simp
  | true =>
    simp only [formB, Bool.and_eq_true] at hf
    obtain ⟨h0, h1, h2, h3⟩ := hf
    rw [if_pos rfl, commit_lines h3]
    simp only [obs]
    have hlf := lf_f month ⟨home, h, cmL h l⟩ (leafOk_lines h1 h0 h2 h3)
    simp only at hlf
    rw [hlf]
    simp only [obs]
    rw [check_f root (lfI month ⟨home, h, cmL h l⟩) index n path (isU_sum _) hp k (by omega)]
    simp
end Go.Proofs.YtkdckjafhaadiaaDoor.P
/- The head of chapter 43's laws: its numbers. -/
set_option linter.unusedSimpArgs false
set_option linter.unusedVariables false
namespace Go.Proofs.YtkdckjafhaadiaaDoor.P
open Go Go.RowKit Go.Proofs.YtkdckjafhaadiaaDoorW.PrintWords Go.Proofs.YtkdckjafhaadiaaDoorW.PrintLast Go.Proofs.YtkdckjafhaadiaaDoorW.PrintMore

theorem el9 : Nt.El 9 := by
  have h := Nt.sq_eq Nt.P 30 9 Nt.Q 1 (by decide)
  rw [Nat.one_mul] at h
  show 9 ^ Nt.Q % Nt.P = 1
  rw [← h]
  decide +kernel
theorem memB_9 : memB 9 = true := (memB_nat 9).2 ⟨by decide, el9⟩
theorem keyB_9 : keyB 9 = true := by unfold keyB; rw [memB_9]; rfl
def hL : List S50 := [⟨3, 2, 1⟩]
def hL2 : List S50 := [⟨3, 3, 1⟩]
def hS : S45 := ⟨7, 9, [144]⟩
theorem cm1 : cmL 9 hL = [144] := by
  show [cmI ((9 : Nat) : Int) ⟨3, 2, 1⟩] = _
  rw [cmI_nat (by decide) el9 (by decide) (by decide)]
  decide
theorem cm2 : cmL 9 hL2 = [576] := by
  show [cmI ((9 : Nat) : Int) ⟨3, 3, 1⟩] = _
  rw [cmI_nat (by decide) el9 (by decide) (by decide)]
  decide
theorem hL_ok : linesB hL = true := by decide
theorem hL2_ok : linesB hL2 = true := by decide
theorem memB_144 : memB 144 = true := by
  have h := cmL_mem keyB_9 hL_ok
  rw [cm1] at h
  simpa using h
theorem hS_ok : allB [hS] = true := by
  have h1 : okS 9 hS = true := by
    unfold okS
    rw [show hS.f0 = 7 from rfl, show hS.f1 = 9 from rfl, show hS.f2 = [144] from rfl, keyB_9]
    simp [memB_144, homeB, btw]
  unfold allB
  rw [show (rd_T45 [hS] 0).f1 = 9 from rfl]
  simp only [List.all_cons, List.all_nil, h1, Bool.and_true]
  rfl
def rho : Int := leafV (lfI 5 hS)
theorem h_seal : sealV 9 7 hL = (7, 9, [144], 0) := by
  unfold sealV
  rw [keyB_9, hL_ok, cm1]
  rfl
theorem h_first : firstV (lfL 5 [hS]) = [rho] := by simp only [firstV, lfL, List.map_cons, List.map_nil, rho]
theorem h_root : rootS 5 [hS] = (rho, 0) := by rw [rootS_ok (by decide) hS_ok, h_first, topV_one]
theorem h_make : makeV 5 [hS] 7 hL = (7, 5, 0, 9, hL, [], 0) := by
  unfold makeV
  rw [hS_ok, hL_ok, show placeV 7 [hS] = 0 from rfl, show rd_T45 [hS] 0 = hS from rfl, show hS.f1 = 9 from rfl, show hS.f2 = [144] from rfl, cm1]
  rfl
theorem h_make2 : makeV 5 [hS] 7 hL2 = (0, 0, 0, 0, [], [], 31) := by
  unfold makeV
  rw [hS_ok, hL2_ok, show placeV 7 [hS] = 0 from rfl, show rd_T45 [hS] 0 = hS from rfl, show hS.f1 = 9 from rfl, show hS.f2 = [144] from rfl, cm2]
  rfl
theorem h_make3 : makeV 5 [hS] 8 hL = (0, 0, 0, 0, [], [], 4) := by
  unfold makeV
  rw [hS_ok, hL_ok, show placeV 8 [hS] = -1 from rfl]
  rfl
theorem h_seal2 : sealV 1 7 hL = (0, 0, [], 1) := rfl
theorem rho_lt : 0 ≤ rho ∧ rho < 18446744073709551616 := sumB_range _
theorem h_check (r : Int) : checkS r 1 7 5 0 9 hL [] = (rho == r, 0) := by
  unfold checkS
  rw [show formB 7 5 9 hL = true from by unfold formB; rw [keyB_9, hL_ok]; rfl, if_pos rfl, cm1]
  rfl
theorem h_next : (rho == IntKind.u64.wrap (rho + 1)) = false := by
  have h := rho_lt
  rw [beq_eq_false_iff_ne]
  intro e
  have e2 : IntKind.u64.wrap (rho + 1) = (rho + 1) % 18446744073709551616 := rfl
  omega
end Go.Proofs.YtkdckjafhaadiaaDoor.P
/- The head of chapter 43's laws, walked. -/
set_option linter.unusedSimpArgs false
set_option linter.unusedVariables false
namespace Go.Proofs.YtkdckjafhaadiaaDoor.P
open Go Go.RowKit Go.Proofs.YtkdckjafhaadiaaDoorW.PrintWords Go.Proofs.YtkdckjafhaadiaaDoorW.PrintLast Go.Proofs.YtkdckjafhaadiaaDoorW.PrintMore Go.Proofs.YtkdckjafhaadiaaDoor.Ord

theorem lit_L (W : World) (a b c : Int) : Kd.C k50 (W.alloc (Obj.cells #[Value.int IntKind.i64 a, Value.int IntKind.i64 b, Value.int IntKind.i64 c] 50)) (some ⟨W.heap.size, 0, none⟩) 1 [(⟨a, b, c⟩ : S50)] :=
  C_parts (d := k50) W [(⟨a, b, c⟩ : S50)] [[.int .i64 a, .int .i64 b, .int .i64 c]] 50 (by simp) ⟨k50_mk _ _, trivial⟩
theorem lit_S (W : World) (x : S45) {A2 : Option Addr} {c2 : Nat} (l2 : x.f2.length ≤ c2) (g2 : (Kd.int .i64).C W A2 x.f2.length x.f2) : Kd.C k45 (W.alloc (Obj.cells #[Value.int IntKind.i64 x.f0, Value.int IntKind.i64 x.f1, Value.slice A2 x.f2.length c2] 45)) (some ⟨W.heap.size, 0, none⟩) 1 [x] :=
  C_parts (d := k45) W [x] [[.int .i64 x.f0, .int .i64 x.f1, .slice A2 x.f2.length c2]] 45 (by simp) ⟨k45_mk W x l2 g2, trivial⟩
/-- What stands still in the head. -/
structure Hq (w W : World) (q : Nat) (A : Option Addr) (c : Nat) : Prop where
  b : Below w.heap.size w W
  l : Kd.C k50 W (some ⟨w.heap.size, 0, none⟩) 1 hL
  a : Blk W q 45 [.int .i64 7, .int .i64 9, .slice A 1 c]
  k : Kd.C (Kd.int .i64) W A 1 [144]
theorem Hq.below {w W W' : World} {q : Nat} {A : Option Addr} {c : Nat} (h : Hq w W q A c) (hb : Below W.heap.size W W') : Hq w W' q A c := ⟨h.b.trans (Below.mono hb h.b.size), Kd.C_below h.l hb, h.a.below hb h.a.lt, Kd.C_below h.k hb⟩
theorem Hq.alloc {w W : World} {q : Nat} {A : Option Addr} {c : Nat} (h : Hq w W q A c) (o : Obj) : Hq w (W.alloc o) q A c := h.below ((Below.refl _ W).alloc (Nat.le_refl _) o)
theorem Hq.row {w W : World} {q : Nat} {A : Option Addr} {c : Nat} (h : Hq w W q A c) (hc : [(144 : Int)].length ≤ c) : ∃ W', W.alloc (Obj.cells #[Value.int IntKind.i64 7, Value.int IntKind.i64 9, Value.slice A 1 c] 45) = W' ∧ Kd.C k45 W' (some ⟨W.heap.size, 0, none⟩) 1 [hS] ∧ Hq w W' q A c ∧ Below W.heap.size W W' ∧ W'.heap.size = W.heap.size + 1 :=
  ⟨_, rfl, lit_S W hS (A2 := A) (c2 := c) hc h.k, h.alloc _, (Below.refl _ W).alloc (Nat.le_refl _) _, World.size_alloc _ _⟩
/-- And the statement's variable. -/
structure Hr (w W : World) (q : Nat) (A : Option Addr) (c z : Nat) (M : Option Addr) (n : Nat) (P : Option Addr) (m : Nat) : Prop where
  q : Hq w W q A c
  s : Blk W z 35 [.int .i64 7, .int .i64 5, .int .i64 0, .int .i64 9, .slice M 1 n, .slice P 0 m]
  l : Kd.C k50 W M 1 hL
  p : Kd.C (Kd.int .u64) W P 0 []
theorem Hr.below {w W W' : World} {q : Nat} {A : Option Addr} {c z : Nat} {M : Option Addr} {n : Nat} {P : Option Addr} {m : Nat} (h : Hr w W q A c z M n P m) (hb : Below W.heap.size W W') : Hr w W' q A c z M n P m := ⟨h.q.below hb, h.s.below hb h.s.lt, Kd.C_below h.l hb, Kd.C_below h.p hb⟩
theorem Hr.alloc {w W : World} {q : Nat} {A : Option Addr} {c z : Nat} {M : Option Addr} {n : Nat} {P : Option Addr} {m : Nat} (h : Hr w W q A c z M n P m) (o : Obj) : Hr w (W.alloc o) q A c z M n P m := h.below ((Below.refl _ W).alloc (Nat.le_refl _) o)
def cohousinglaw43_head.f : Option Bool := some true
set_option maxHeartbeats 8000000 in
set_option maxRecDepth 100000 in
theorem cohousinglaw43_head.calls (r : Bool) (w : World) (hT : TabOk w) (h : cohousinglaw43_head.f = some r) :
    Calls Tryd.prog 7 #[] w fun e w' => e = .returned (.bool r) ∧ Below w.heap.size w w' := by
  obtain rfl := Option.some.inj h
  have HT := Lib.hid hT
  clear h hT
  go_enter Tryd.func7, Tryd.ntmps7
  go_wp2_with fail
  have hl := lit_L w 3 2 1
  have hb1 := (Below.refl w.heap.size w).alloc (Nat.le_refl _) (Obj.cells #[Value.int IntKind.i64 3, Value.int IntKind.i64 2, Value.int IntKind.i64 1] 50)
  generalize w.alloc (Obj.cells #[Value.int IntKind.i64 3, Value.int IntKind.i64 2, Value.int IntKind.i64 1] 50) = w1 at hl hb1 ⊢
  refine (statement_Seal.calls 9 7 _ 1 hL 7 9 [144] 0 w1 hl (Nat.le_refl _) (by rw [seal_f, h_seal])).mono ?_
  rintro e w2 ⟨v, rfl, ho, hb2⟩
  obtain ⟨A, c, rfl, p2, q2⟩ := Kd.R_reads ho
  have HC := Lib.hid p2
  have HL2 := Lib.hid (Kd.C_below hl hb2)
  have HB2 := Lib.hid (hb1.trans (Below.mono hb2 hb1.size))
  have HK2 := Lib.hid q2
  clear hl hb1 ho hb2 p2 q2
  simp only [List.length_cons, List.length_nil, Nat.zero_add] at HC HK2 ⊢
  go_wp2_with fail
  obtain ⟨hx3, hs3, hb3⟩ := Blk.box w2 45 [Value.int IntKind.i64 7, Value.int IntKind.i64 9, Value.slice A 1 c]
  rw [show (List.toArray [Value.int IntKind.i64 7, Value.int IntKind.i64 9, Value.slice A 1 c]) = #[Value.int IntKind.i64 7, Value.int IntKind.i64 9, Value.slice A 1 c] from rfl] at hx3 hs3 hb3
  generalize w2.alloc (Obj.cells #[Value.int IntKind.i64 7, Value.int IntKind.i64 9, Value.slice A 1 c] 45) = w3 at hx3 hs3 hb3 ⊢
  have HQ3 := Lib.hid (show Hq w w3 w2.heap.size A c from ⟨HB2.out.trans (Below.mono hb3 HB2.out.size), Kd.C_below HL2.out hb3, hx3, Kd.C_below HK2.out hb3⟩)
  have HS3 := Lib.hid hs3
  clear hx3 hs3 hb3 HB2 HL2 HK2
  have hlS := lit_S w3 hS (A2 := A) (c2 := c) HC.out HQ3.out.k
  have hb4 := (Below.refl w3.heap.size w3).alloc (Nat.le_refl _) (Obj.cells #[Value.int IntKind.i64 hS.f0, Value.int IntKind.i64 hS.f1, Value.slice A hS.f2.length c] 45)
  rw [show hS.f0 = 7 from rfl, show hS.f1 = 9 from rfl, show hS.f2.length = 1 from rfl] at hlS hb4
  rw [HS3.out] at hlS
  generalize w3.alloc (Obj.cells #[Value.int IntKind.i64 7, Value.int IntKind.i64 9, Value.slice A 1 c] 45) = w4 at hlS hb4 ⊢
  have HQ4 := Lib.hid (HQ3.out.below hb4)
  refine (statement_Root.calls 1200 5 _ 1 [hS] rho 0 w4 hlS (Nat.le_refl _) (TabOk.below HT.out HQ4.out.b) (by rw [sroot_f _ _ _ (by omega), h_root])).mono ?_
  rintro e w5 ⟨rfl, hb5⟩
  have HQ5 := Lib.hid (HQ4.out.below hb5)
  have a0 := HQ5.out.a.cell 0 _ rfl
  have a1 := HQ5.out.a.cell 1 _ rfl
  have a2 := HQ5.out.a.cell 2 _ rfl
  clear hlS hb4 hb5 HQ3 HQ4
  go_wp2_with fail
  obtain ⟨w6, hw6, hr6, hq6, hb6, -⟩ := HQ5.out.row HC.out
  rw [hw6]
  refine (statement_Make.calls 5 _ 1 [hS] 7 _ 1 hL 7 5 0 9 hL [] 0 w6 hr6 (Nat.le_refl _) hq6.l (Nat.le_refl _) (TabOk.below HT.out hq6.b) (by unfold statement_Make.f; rw [h_make])).mono ?_
  rintro e w7 ⟨v4, v5, rfl, o4, o5, hb7⟩
  obtain ⟨M, n, rfl, p4, q4⟩ := Kd.R_reads o4
  obtain ⟨P, m, rfl, p5, q5⟩ := Kd.R_reads o5
  have HQ7 := Lib.hid (hq6.below hb7)
  have HMP := Lib.hid (And.intro p4 (And.intro q4 (And.intro p5 q5)))
  clear hw6 hr6 hq6 hb6 hb7 o4 o5 p4 q4 p5 q5 HQ5 a0 a1 a2
  simp only [show hL.length = 1 from rfl, List.length_nil] at HMP ⊢
  go_wp2_with fail
  obtain ⟨hx8, hs8, hb8⟩ := Blk.box w7 35 [Value.int .i64 7, .int .i64 5, .int .i64 0, .int .i64 9, .slice M 1 n, .slice P 0 m]
  rw [show (List.toArray [Value.int .i64 7, .int .i64 5, .int .i64 0, .int .i64 9, .slice M 1 n, .slice P 0 m]) = #[Value.int .i64 7, .int .i64 5, .int .i64 0, .int .i64 9, .slice M 1 n, .slice P 0 m] from rfl] at hx8 hs8 hb8
  generalize w7.alloc (Obj.cells #[Value.int .i64 7, .int .i64 5, .int .i64 0, .int .i64 9, .slice M 1 n, .slice P 0 m] 35) = w8 at hx8 hs8 hb8 ⊢
  have HR8 := Lib.hid (show Hr w w8 w2.heap.size A c w7.heap.size M n P m from ⟨HQ7.out.below hb8, hx8, Kd.C_below HMP.out.2.1 hb8, Kd.C_below HMP.out.2.2.2 hb8⟩)
  have HLE := Lib.hid (And.intro HMP.out.1 HMP.out.2.2.1)
  clear hx8 hs8 hb8 HQ7 HMP
  refine (statement_Check.calls 200 rho 1 7 5 0 9 M n hL P m [] (rho == rho) 0 w8 HR8.out.l HLE.out.1 HR8.out.p HLE.out.2 (TabOk.below HT.out HR8.out.q.b) (by rw [scheck_f _ _ _ _ _ _ _ _ (fun _ h => by cases h) _ (by omega), h_check])).mono ?_
  rintro e w9 ⟨rfl, hb9⟩
  have HR9 := Lib.hid (HR8.out.below hb9)
  clear hb9 HR8
  have s0 := HR9.out.s.cell 0 _ rfl
  have s1 := HR9.out.s.cell 1 _ rfl
  have s2 := HR9.out.s.cell 2 _ rfl
  have s3 := HR9.out.s.cell 3 _ rfl
  have s4 := HR9.out.s.cell 4 _ rfl
  have s5 := HR9.out.s.cell 5 _ rfl
  go_wp2_with fail
  refine (statement_Check.calls 200 (IntKind.u64.wrap (rho + 1)) 1 7 5 0 9 M n hL P m [] (rho == IntKind.u64.wrap (rho + 1)) 0 w9 HR9.out.l HLE.out.1 HR9.out.p HLE.out.2 (TabOk.below HT.out HR9.out.q.b) (by rw [scheck_f _ _ _ _ _ _ _ _ (fun _ h => by cases h) _ (by omega), h_check])).mono ?_
  rintro e w10 ⟨rfl, hb10⟩
  rw [h_next]
  have HR10 := Lib.hid (HR9.out.below hb10)
  clear hb10 HR9 s0 s1 s2 s3 s4 s5
  have a0 := HR10.out.q.a.cell 0 _ rfl
  have a1 := HR10.out.q.a.cell 1 _ rfl
  have a2 := HR10.out.q.a.cell 2 _ rfl
  go_wp2_with fail
  obtain ⟨w11, hw11, hr11, hq11, hb11, hs11⟩ := HR10.out.q.row HC.out
  have hR11 := HR10.out.below hb11
  rw [hw11]
  have hl12 := lit_L w11 3 3 1
  have hb12 := (Below.refl w11.heap.size w11).alloc (Nat.le_refl _) (Obj.cells #[Value.int IntKind.i64 3, Value.int IntKind.i64 3, Value.int IntKind.i64 1] 50)
  rw [hs11] at hl12
  generalize w11.alloc (Obj.cells #[Value.int IntKind.i64 3, Value.int IntKind.i64 3, Value.int IntKind.i64 1] 50) = w12 at hl12 hb12 ⊢
  have hR12 := hR11.below hb12
  refine (statement_Make.calls 5 _ 1 [hS] 7 _ 1 hL2 0 0 0 0 [] [] 31 w12 (Kd.C_below hr11 hb12) (Nat.le_refl _) hl12 (Nat.le_refl _) (TabOk.below HT.out hR12.q.b) (by unfold statement_Make.f; rw [h_make2])).mono ?_
  rintro e w13 ⟨v4, v5, rfl, o4, o5, hb13⟩
  obtain ⟨M2, n2, rfl, -, -⟩ := Kd.R_reads o4
  obtain ⟨P2, m2, rfl, -, -⟩ := Kd.R_reads o5
  have HR13 := Lib.hid (hR12.below hb13)
  clear hw11 hr11 hq11 hb11 hs11 hR11 hl12 hb12 hR12 o4 o5 hb13 HR10 a0 a1 a2
  simp only [List.length_nil]
  have a0 := fun o => (HR13.out.q.a.alloc o).cell 0 _ rfl
  have a1 := fun o => (HR13.out.q.a.alloc o).cell 1 _ rfl
  have a2 := fun o => (HR13.out.q.a.alloc o).cell 2 _ rfl
  go_wp2_with fail
  generalize hw14 : w13.alloc (Obj.cells #[Value.int .i64 0, .int .i64 0, .int .i64 0, .int .i64 0, .slice M2 0 n2, .slice P2 0 m2] 35) = w14
  have hR14 : Hr w w14 w2.heap.size A c w7.heap.size M n P m := by rw [← hw14]; exact HR13.out.alloc _
  obtain ⟨w15, hw15, hr15, hq15, hb15, -⟩ := hR14.q.row HC.out
  have hR15 := hR14.below hb15
  rw [hw15]
  have hs14 : w14.heap.size = w13.heap.size + 1 := by rw [← hw14]; exact World.size_alloc _ _
  rw [hs14] at hr15
  refine (statement_Make.calls 5 _ 1 [hS] 8 _ 1 hL 0 0 0 0 [] [] 4 w15 hr15 (Nat.le_refl _) hR15.q.l (Nat.le_refl _) (TabOk.below HT.out hR15.q.b) (by unfold statement_Make.f; rw [h_make3])).mono ?_
  rintro e w16 ⟨v4, v5, rfl, o4, o5, hb16⟩
  obtain ⟨M3, n3, rfl, -, -⟩ := Kd.R_reads o4
  obtain ⟨P3, m3, rfl, -, -⟩ := Kd.R_reads o5
  have HR16 := Lib.hid (hR15.below hb16)
  clear hw14 hR14 hw15 hr15 hq15 hb15 hR15 hs14 o4 o5 hb16 HR13 a0 a1 a2
  simp only [List.length_nil]
  go_wp2_with fail
  generalize hw17 : w16.alloc (Obj.cells #[Value.int .i64 0, .int .i64 0, .int .i64 0, .int .i64 0, .slice M3 0 n3, .slice P3 0 m3] 35) = w17
  have hR17 : Hr w w17 w2.heap.size A c w7.heap.size M n P m := by rw [← hw17]; exact HR16.out.alloc _
  refine (statement_Seal.calls 1 7 _ 1 hL 0 0 [] 1 w17 hR17.q.l (Nat.le_refl _) (by rw [seal_f, h_seal2])).mono ?_
  rintro e w18 ⟨v4, rfl, o4, hb18⟩
  obtain ⟨M4, n4, rfl, -, -⟩ := Kd.R_reads o4
  have HR18 := Lib.hid (hR17.below hb18)
  clear hw17 hR17 o4 hb18 HR16
  simp only [List.length_nil]
  obtain ⟨ad, eA, hc⟩ := Kd.at_int HR18.out.q.k 0 (by omega) (by decide)
  subst eA
  have hc0 : ∀ o, (w18.alloc o).cell? ad = some (.int .i64 144) := fun o => by
    have h := hc
    rw [show ad.add (0 : Int).toNat = ad from Addr.add_zero' ad] at h
    exact (((Below.refl w18.heap.size w18).alloc (Nat.le_refl _) o).cell (World.block_lt_of_cell? w18 _ h)).trans h
  have a0 := fun o => (HR18.out.q.a.alloc o).cell 0 _ rfl
  have a1 := fun o => (HR18.out.q.a.alloc o).cell 1 _ rfl
  have a2 := fun o => (HR18.out.q.a.alloc o).cell 2 _ rfl
  have s1 := fun o => (HR18.out.s.alloc o).cell 1 _ rfl
  have s2 := fun o => (HR18.out.s.alloc o).cell 2 _ rfl
  have s5 := fun o => (HR18.out.s.alloc o).cell 5 _ rfl
  clear hc
  go_wp2_with fail
  go_ret
  exact ⟨by simp, HR18.out.q.b.alloc HR18.out.q.b.size _⟩
end Go.Proofs.YtkdckjafhaadiaaDoor.P
