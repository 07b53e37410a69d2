/- The causal model in memory: newModel, bit, values, mask. -/
import Derived.Test.YtjdhnhfglpogmaaPx4
import Derived.Lib.Hide
import Derived.Outline
import Derived.Test.YtjdhnhfglpogmaaPx0
set_option linter.unusedSimpArgs false
set_option linter.unusedVariables false
namespace Go.Proofs.Ytjdhnhfglpogmaa.P
open Go.RowKit Go.Proofs.YtjdhnhfglpogmaaW.PrintWords Go.Proofs.YtjdhnhfglpogmaaW.PrintLast Go.Proofs.YtjdhnhfglpogmaaW.PrintMore

/-- A model in block g: its variables, the indexes of the free ones. -/
def IsM (W : World) (g : Nat) (l : List S44) (fr : List Int) : Prop :=
  ∃ A c F d, W.heap[g]? = some (.cells #[.slice A l.length c, .slice F fr.length d] 60 (0, 0)) ∧ l.length ≤ c ∧ Kd.C k44 W A l.length l ∧ fr.length ≤ d ∧ Kd.C (Kd.int .i64) W F fr.length fr
theorem IsM.below {W W1 : World} {g : Nat} {l : List S44} {fr : List Int} (h : IsM W g l fr) (hb : Below W.heap.size W W1) : IsM W1 g l fr := by
  obtain ⟨A, c, F, d, h1, h2, h3, h4, h5⟩ := h
  exact ⟨A, c, F, d, blk_below h1 hb, h2, Kd.C_below h3 hb, h4, Kd.C_below h5 hb⟩

/-- The indexes of the free variables of a list that begins at i. -/
def freeAt : List S44 → Nat → List Int
  | [], _ => []
  | v :: l, i => if v.f1.length = 0 then (i : Int) :: freeAt l (i + 1) else freeAt l (i + 1)
theorem freeAt_append : ∀ (a b : List S44) (i : Nat), freeAt (a ++ b) i = freeAt a i ++ freeAt b (i + a.length)
  | [], b, i => by simp [freeAt]
  | v :: a, b, i => by
    have ih := freeAt_append a b (i + 1)
    simp only [List.cons_append, freeAt, ih, List.length_cons]
    rw [show i + 1 + a.length = i + (a.length + 1) from by omega]
    split <;> simp
def freeOf (l : List S44) : List Int := freeAt l 0
theorem freeAt_length : ∀ (l : List S44) (i : Nat), (freeAt l i).length ≤ l.length
  | [], _ => by simp [freeAt]
  | v :: l, i => by
    have := freeAt_length l (i + 1)
    simp only [freeAt]
    split <;> simp <;> omega
theorem freeOf_take (l : List S44) (k : Nat) (hk : k < l.length) : freeOf (l.take (k + 1)) = freeOf (l.take k) ++ (if (rd_T44 l (k : Int)).f1.length = 0 then [(k : Int)] else []) := by
  unfold freeOf
  have h1 : l.take (k + 1) = l.take k ++ [rd_T44 l (k : Int)] := by
    rw [List.take_succ_eq_append_getElem hk]
    simp [rd_T44, List.getD_eq_getElem?_getD, List.getElem?_eq_getElem hk]
  rw [h1, freeAt_append]
  simp only [freeAt, List.length_take, Nat.min_eq_left (Nat.le_of_lt hk), Nat.zero_add]


theorem newModel_no (k : Nat) (A0 : Option Addr) (c0 : Nat) (l0 : List S44) (w : World) (hr0 : Kd.C k44 w A0 l0.length l0) (hc0 : l0.length ≤ c0) (h : cause_Valid.f k l0 = some false) :
    Calls Try.prog 31 #[.slice A0 l0.length c0] w fun e w' => e = .returned (.tuple #[.pointer none, .bool false]) ∧ Below w.heap.size w w' := by
  have hv := Lib.hid (fun W => cause_Valid.calls k A0 c0 l0 false W)
  have HR := Lib.hid hr0
  have HH := Lib.hid h
  clear hr0 h
  go_enter Try.func31, Try.ntmps31
  go_wp2_with fail
  refine (hv.out w HR.out hc0 HH.out).mono ?_
  rintro e w1 ⟨rfl, hb⟩
  go_wp2_with fail
  go_ret2
  exact ⟨rfl, hb⟩

set_option maxRecDepth 100000 in
set_option maxHeartbeats 1000000 in
theorem newModel_yes (k : Nat) (A0 : Option Addr) (c0 : Nat) (l0 : List S44) (w : World) (hr0 : Kd.C k44 w A0 l0.length l0) (hc0 : l0.length ≤ c0) (h : cause_Valid.f k l0 = some true) (hlen : l0.length ≤ 1000) :
    Calls Try.prog 31 #[.slice A0 l0.length c0] w fun e w' => ∃ g, e = .returned (.tuple #[.pointer (some ⟨g, 0, none⟩), .bool true]) ∧ IsM w' g l0 (freeOf l0) ∧ w.heap.size ≤ g ∧ Below w.heap.size w w' := by
  have hv := Lib.hid (fun W => cause_Valid.calls k A0 c0 l0 true W)
  have HR := Lib.hid hr0
  have HH := Lib.hid h
  have hu44 := Try.underlying44
  have hu60 := Try.underlying60
  clear hr0 h
  go_enter Try.func31, Try.ntmps31
  go_wp2_with fail
  refine (hv.out w HR.out hc0 HH.out).mono ?_
  rintro e w1 ⟨rfl, hb⟩
  have hC := Lib.hid (Kd.C_below HR.out hb)
  have hs1 := hb.size
  go_wp2_with fail
  go_loopw [15] (fun i wr => ∃ (k : Nat) (v : Value), k ≤ l0.length ∧ i = .int .i64 k ∧ wr.heap[w1.heap.size]? = some (.cells #[.slice A0 l0.length c0, v] 60 (0, 0)) ∧ Kd.R (Kd.int .i64) 3 wr w.heap.size (fun _ => True) v (freeOf (l0.take k)) ∧ Below w.heap.size w wr) (fun i _ => l0.length - (intOf i).toNat)
  case atStart => exact ⟨0, _, Nat.zero_le _, rfl, heap_alloc_new _ _, Kd.R_nil _ _ _ _ _, hb.alloc hs1 _⟩
  case round =>
    obtain ⟨k, v, hk, rfl, hblk, hR, hB⟩ := hrel
    by_cases hlt : k < l0.length
    · obtain ⟨ad, A1, c1, A2, c2, e, hx0, hx1, hx2, hl1, hi1, hl2, hi2⟩ := at_T44 HR.out (k : Int) (by omega) (by omega)
      cases e
      simp only [Int.toNat_natCast] at hx0 hx1 hx2
      replace hx0 := (hB.cell (World.block_lt_of_cell? w _ hx0)).trans hx0
      replace hx1 := (hB.cell (World.block_lt_of_cell? w _ hx1)).trans hx1
      replace hx2 := (hB.cell (World.block_lt_of_cell? w _ hx2)).trans hx2
      have hfk := Lib.hid (freeOf_take l0 k hlt)
      obtain ⟨B, cB, rfl⟩ := Kd.R_slice hR
      have hg1 : ∀ o, (wr.alloc o).cell? ⟨w1.heap.size, 1, none⟩ = some (.slice B (freeOf (l0.take k)).length cB) := fun o => blk_cell (blk_alloc hblk o) 1
      have hlen0 : (freeOf (l0.take k)).length ≤ 1000 := by
        have h1 := freeAt_length (l0.take k) 0
        have h2 := List.length_take_le k l0
        unfold freeOf
        omega
      generalize hxv : rd_T44 l0 (k : Int) = xv at *
      clear hxv hi1 hi2
      by_cases h0 : xv.f1.length = 0
      · have hb0 : ((xv.f1.length : Int) == 0) = true := by simp [h0]
        have hfk' : Hid (freeOf (l0.take (k + 1)) = freeOf (l0.take k) ++ [(k : Int)]) := by unfold Hid; rw [hfk.out, if_pos h0]
        clear h0 hfk
        go_wp2_with (at_builtin; refine Kd.R_append (Kd.int .i64) (w0 := w) w.heap.size rfl (.tmp 28) (.tmp 30) 36 3 (.int .i64 0) 8 rfl Try.underlying36 info3 rfl (by decide) (by omega) _ (freeOf (l0.take k)) (k : Int) [.int .i64 (k : Int)] (fun _ => True) (fun _ => False) rfl (by first | rfl | go_simp) ?aP (fun _ hk => hk.elim) ?aF ?aO ?aB ?aS ?aL ?_; (case aP => exact rfl); (case aF => exact fun _ _ => trivial); (case aO => exact Kd.R_alloc hR _); (case aB => exact below_alloc hB _); (case aS => exact below_size (below_alloc hB _)); (case aL => omega); intro v2 w2 ho hb2 hg hat; obtain ⟨B2, cB2, rfl⟩ := Kd.R_slice ho; simp only [List.length_append, List.length_cons, List.length_nil, Nat.zero_add] at ho; have hblk2 := blk_grown (blk_alloc hblk _) hg (Kd.R_ne hR hblk (by decide)); have hf2 := blk_frozen hblk2 1; have hc2 : w2.cell? ⟨w1.heap.size, 1, none⟩ = some _ := blk_cell hblk2 1; have HK := Lib.hid (And.intro hb2 (And.intro ho hblk2)); clear hb2 ho hg hat hblk2)
        go_roundw
        case rel =>
          obtain ⟨hb2, ho, hblk2⟩ := HK.out
          exact ⟨k + 1, _, by omega, by go_num, blk_set hblk2 1 _, by rw [hfk'.out]; exact Kd.R_set ho hblk2 (by simp [Kd.int, Kd.scalar]) 1 _, below_set hb2 hs1⟩
        case measure => simp [intOf]; omega
      · have hb0 : ((xv.f1.length : Int) == 0) = false := by simpa using h0
        have hfk' : Hid (freeOf (l0.take (k + 1)) = freeOf (l0.take k)) := by unfold Hid; rw [hfk.out, if_neg h0, List.append_nil]
        clear h0 hfk
        go_wp2
        go_roundw
        case rel => exact ⟨k + 1, _, by omega, by go_num, blk_alloc hblk _, by rw [hfk'.out]; exact Kd.R_alloc hR _, below_alloc hB _⟩
        case measure => simp [intOf]; omega
    · have hkl : Hid (l0.take k = l0) := List.take_of_length_le (by omega)
      rw [hkl.out] at hR
      go_wp2_with fail
      go_ret2
      obtain ⟨B, cB, rfl, hle, hC⟩ := Kd.R_reads hR
      exact ⟨_, rfl, ⟨A0, c0, B, cB, hblk, hc0, Kd.C_below HR.out hB, hle, hC⟩, hs1, hB⟩
end Go.Proofs.Ytjdhnhfglpogmaa.P
/- Bits of unsigned numbers, as the walk spells them. -/
set_option linter.unusedSimpArgs false
set_option linter.unusedVariables false
namespace Go.Proofs.Ytjdhnhfglpogmaa.P
open Go.RowKit Go.Proofs.YtjdhnhfglpogmaaW.PrintWords Go.Proofs.YtjdhnhfglpogmaaW.PrintLast Go.Proofs.YtjdhnhfglpogmaaW.PrintMore

theorem wrap_u64 (n : Int) : IntKind.u64.wrap n = n % 18446744073709551616 := by simp [IntKind.wrap, IntKind.bits, IntKind.signed]
theorem u64_32 (n : Int) (h0 : 0 ≤ n) (h1 : n < 2 ^ 32) : IntKind.u64.wrap n = n := by rw [wrap_u64]; omega
theorem i64_32 (n : Int) (h0 : 0 ≤ n) (h1 : n < 2 ^ 32) : IntKind.i64.wrap n = n := by rw [IntKind.wrap_i64]; omega
theorem and_one (a : Nat) : a &&& 1 = if a.testBit 0 then 1 else 0 := by
  rw [Nat.and_one_is_mod, Nat.testBit_zero]
  by_cases h : a % 2 = 1
  · simp [h]
  · have : a % 2 = 0 := by omega
    simp [this]
theorem bit_u64 (s m : Nat) (hs : s < 2 ^ 32) : bits .and .u64 ((s : Int) / 2 ^ m) 1 = if s.testBit m then 1 else 0 := by
  have h1 : ((s : Int) / 2 ^ m) = ((s / 2 ^ m : Nat) : Int) := by simp
  have h2 : s / 2 ^ m < 2 ^ 32 := Nat.lt_of_le_of_lt (Nat.div_le_self _ _) hs
  rw [h1, show (1 : Int) = ((1 : Nat) : Int) from rfl, (bits_nat .u64 32 (by decide) u64_32 (s / 2 ^ m) 1 h2 (by decide)).1, and_one]
  have h3 : (s / 2 ^ m).testBit 0 = s.testBit m := by rw [← Nat.shiftRight_eq_div_pow, Nat.testBit_shiftRight, Nat.add_zero]
  rw [h3]
  split <;> rfl
theorem or_u64 (a b : Nat) (ha : a < 2 ^ 32) (hb : b < 2 ^ 32) : bits .or .u64 (a : Int) (b : Int) = ((a ||| b : Nat) : Int) := (bits_nat .u64 32 (by decide) u64_32 a b ha hb).2
theorem or_i64 (a b : Nat) (ha : a < 2 ^ 32) (hb : b < 2 ^ 32) : bits .or .i64 (a : Int) (b : Int) = ((a ||| b : Nat) : Int) := (bits_nat .i64 32 (by decide) i64_32 a b ha hb).2
theorem pow_lt32 {p : Nat} (hp : p < 32) : 2 ^ p < 2 ^ 32 := Nat.pow_lt_pow_right (by omega) hp
/-- out |= s >> m & 1 << p -/
theorem orbit_u64 (out s m p : Nat) (ho : out < 2 ^ 32) (hs : s < 2 ^ 32) (hp : p < 32) :
    bits .or .u64 (out : Int) (IntKind.u64.wrap (bits .and .u64 ((s : Int) / 2 ^ m) 1 * 2 ^ p)) = ((out ||| (if s.testBit m then 2 ^ p else 0) : Nat) : Int) := by
  rw [bit_u64 s m hs]
  have hpw := pow_lt32 hp
  split
  · rw [Int.one_mul, show ((2 : Int) ^ p) = ((2 ^ p : Nat) : Int) from by simp]
    generalize 2 ^ p = q at *
    rw [u64_32 _ (by omega) (by omega), or_u64 _ _ ho hpw]
  · rw [Int.zero_mul, u64_32 _ (by omega) (by omega), show (0 : Int) = ((0 : Nat) : Int) from rfl, or_u64 _ _ ho (by omega)]
theorem w64_32 (n : Int) (h0 : 0 ≤ n) (h1 : n < 2 ^ 32) : wrap64 n = n := by unfold wrap64; omega
theorem orbit_i64 (out s m p : Nat) (ho : out < 2 ^ 32) (hs : s < 2 ^ 32) (hp : p < 31) :
    bits .or .i64 (out : Int) (wrap64 (wrap64 (bits .and .u64 ((s : Int) / 2 ^ m) 1) * 2 ^ p)) = ((out ||| (if s.testBit m then 2 ^ p else 0) : Nat) : Int) := by
  rw [bit_u64 s m hs]
  have hpw := pow_lt32 (show p < 32 by omega)
  split
  · rw [w64_32 1 (by omega) (by omega), Int.one_mul, show ((2 : Int) ^ p) = ((2 ^ p : Nat) : Int) from by simp]
    generalize 2 ^ p = q at *
    rw [w64_32 _ (by omega) (by omega), or_i64 _ _ ho hpw]
  · rw [w64_32 0 (by omega) (by omega), Int.zero_mul, w64_32 0 (by omega) (by omega), show (0 : Int) = ((0 : Nat) : Int) from rfl, or_i64 _ _ ho (by omega)]
theorem shl_one_u64 (p : Nat) (hp : p < 32) : IntKind.u64.wrap (2 ^ p) = ((2 ^ p : Nat) : Int) := by
  have hpw := pow_lt32 hp
  rw [show ((2 : Int) ^ p) = ((2 ^ p : Nat) : Int) from by simp]
  generalize 2 ^ p = q at *
  exact u64_32 _ (by omega) (by omega)
end Go.Proofs.Ytjdhnhfglpogmaa.P
/- The values of all variables in a state: bit, values. -/
set_option linter.unusedSimpArgs false
set_option linter.unusedVariables false
namespace Go.Proofs.Ytjdhnhfglpogmaa.P
open Go.RowKit Go.Proofs.YtjdhnhfglpogmaaW.PrintWords Go.Proofs.YtjdhnhfglpogmaaW.PrintLast Go.Proofs.YtjdhnhfglpogmaaW.PrintMore

theorem bit_calls (g : Nat) (l : List S44) (fr : List Int) (k : Nat) (w : World) (hM : IsM w g l fr) (hk : k < fr.length) (hf : fr.length ≤ 1000) :
    Calls Try.prog 32 #[.pointer (some ⟨g, 0, none⟩), .int .i64 (k : Int)] w fun e w' => e = .returned (.int .u64 ((fr.length - 1 - k : Nat) : Int)) ∧ w = w' := by
  obtain ⟨A, c, F, d, h1, h2, h3, h4, h5⟩ := hM
  have hu60 := Try.underlying60
  have hg1 : w.cell? ⟨g, 1, none⟩ = some (.slice F fr.length d) := blk_cell h1 1
  have he : ((fr.length - 1 - k : Nat) : Int) = (fr.length : Int) - 1 - k := by omega
  have HE := Lib.hid he
  clear h1 h2 h3 h4 h5 he
  go_enter Try.func32, Try.ntmps32
  go_wp2
  go_ret
  rw [HE.out]
  exact ⟨rfl, rfl⟩

/-- The bits of the free variables: the first one is the highest of the state. -/
def initN (fr : List Int) (s : Nat) : Nat → Nat
  | 0 => 0
  | k + 1 => initN fr s k ||| (if s.testBit (fr.length - 1 - k) then 2 ^ (rd fr k).toNat else 0)
def atN (out : Nat) (ps : List Int) : Nat → Nat
  | 0 => 0
  | j + 1 => atN out ps j ||| (if out.testBit (rd ps j).toNat then 2 ^ j else 0)
def stepN (out i : Nat) (v : S44) : Nat := if v.f1.length = 0 then out else if rdOf false v.f2 (atN out v.f1 v.f1.length : Nat) then out ||| 2 ^ i else out
def valN (l : List S44) (out : Nat) : Nat → Nat
  | 0 => out
  | i + 1 => stepN (valN l out i) i (rd_T44 l i)
theorem or_lt {a b n : Nat} (ha : a < 2 ^ n) (hb : b < 2 ^ n) : a ||| b < 2 ^ n := Nat.or_lt_two_pow ha hb
theorem ite_lt {c : Prop} [Decidable c] {p n : Nat} (hp : p < n) : (if c then 2 ^ p else 0) < 2 ^ n := by
  split
  · exact Nat.pow_lt_pow_right (by omega) hp
  · exact Nat.two_pow_pos n
theorem initN_lt (fr : List Int) (s : Nat) (hfr : ∀ i ∈ fr, 0 ≤ i ∧ i < 12) : ∀ k, k ≤ fr.length → initN fr s k < 2 ^ 12
  | 0, _ => by simp [initN]
  | k + 1, hk => by
    have hm : rd fr k ∈ fr := by simp [rd, List.getD_eq_getElem?_getD, List.getElem?_eq_getElem (show k < fr.length by omega)]
    have := hfr _ hm
    exact or_lt (initN_lt fr s hfr k (by omega)) (ite_lt (by omega))
theorem atN_lt (out : Nat) (ps : List Int) : ∀ j, atN out ps j < 2 ^ j
  | 0 => by simp [atN]
  | j + 1 => or_lt (Nat.lt_of_lt_of_le (atN_lt out ps j) (Nat.pow_le_pow_right (by omega) (by omega))) (ite_lt (by omega))
theorem valN_lt (l : List S44) (out : Nat) (ho : out < 2 ^ 12) : ∀ i, i ≤ 12 → valN l out i < 2 ^ 12
  | 0, _ => ho
  | i + 1, hi => by
    have ih := valN_lt l out ho i (by omega)
    simp only [valN, stepN]
    split
    · exact ih
    · split
      · exact or_lt ih (Nat.pow_lt_pow_right (by omega) (by omega))
      · exact ih
/-- What Valid asks of a variable. -/
def VarOk (v : S44) : Prop := (v.f1.length = 0 ∨ (v.f1.length ≤ 4 ∧ v.f2.length = 2 ^ v.f1.length)) ∧ ∀ p ∈ v.f1, 0 ≤ p ∧ p < 12

set_option maxRecDepth 100000 in
set_option maxHeartbeats 2000000 in
theorem values_calls (g : Nat) (l : List S44) (fr : List Int) (s : Nat) (w : World) (hM : IsM w g l fr) (hl : l.length ≤ 12) (hf : fr.length ≤ 12) (hs : s < 2 ^ fr.length) (hfr : ∀ i ∈ fr, 0 ≤ i ∧ i < 12) (hv : ∀ v ∈ l, VarOk v) :
    Calls Try.prog 33 #[.pointer (some ⟨g, 0, none⟩), .int .u64 (s : Int)] w fun e w' => e = .returned (.int .u64 (valN l (initN fr s fr.length) l.length : Nat)) ∧ Below w.heap.size w w' := by
  have hM' := Lib.hid hM
  obtain ⟨A, c, F, d, h1, h2, h3, h4, h5⟩ := hM
  have hu60 := Try.underlying60
  have hu44 := Try.underlying44
  have hg1 : w.cell? ⟨g, 1, none⟩ = some (.slice F fr.length d) := blk_cell h1 1
  have hg0 : w.cell? ⟨g, 0, none⟩ = some (.slice A l.length c) := blk_cell h1 0
  have HF := Lib.hid h5
  have HL := Lib.hid h3
  have HFR := Lib.hid hfr
  have HV := Lib.hid hv
  clear h1 h2 h3 h4 h5 hfr hv
  have hsz : s < 4096 := Nat.lt_of_lt_of_le hs (Nat.pow_le_pow_right (by omega) hf)
  clear hs
  go_enter Try.func33, Try.ntmps33
  go_wp2_with fail
  go_loopw [5, 18] (fun o i wr => ∃ (k : Nat), k ≤ fr.length ∧ i = .int .i64 k ∧ o = .int .u64 (initN fr s k : Nat) ∧ w = wr) (fun _ i _ => fr.length - (intOf i).toNat)
  case atStart => exact ⟨0, Nat.zero_le _, rfl, rfl, rfl⟩
  case round =>
    obtain ⟨k, hk, rfl, rfl, rfl⟩ := hrel
    by_cases hlt : k < fr.length
    · obtain ⟨ad, e, hx0⟩ := Kd.at_int HF.out (k : Int) (by omega) (by omega)
      cases e
      simp only [Int.toNat_natCast] at hx0
      have hr : 0 ≤ rd fr k ∧ rd fr k < 12 := HFR.out _ (by simp [rd, List.getD_eq_getElem?_getD, List.getElem?_eq_getElem hlt])
      obtain ⟨hr1, hr2⟩ := hr
      have hst : Hid (initN fr s (k + 1) = initN fr s k ||| (if s.testBit (fr.length - 1 - k) then 2 ^ (rd fr k).toNat else 0)) := rfl
      have hil := initN_lt fr s HFR.out k hk
      obtain ⟨p, hp⟩ := Int.eq_ofNat_of_zero_le hr1
      rw [hp] at hx0 hr2 hr1 hst
      rw [Int.toNat_natCast] at hst
      have hob := Lib.hid (orbit_u64 (initN fr s k) s (fr.length - 1 - k) p (by omega) (by omega) (by omega))
      clear hp
      generalize initN fr s k = o1 at *
      go_wp2_with fail
      refine (bit_calls g l fr k w hM'.out hlt (by omega)).mono ?_
      rintro e w' ⟨rfl, rfl⟩
      go_wp2_with fail
      go_roundw
      case rel => exact ⟨k + 1, by omega, by go_num, by rw [hob.out, hst.out], trivial⟩
      case measure => simp [intOf]; omega
    · obtain rfl : k = fr.length := by omega
      have hil := initN_lt fr s HFR.out fr.length (Nat.le_refl _)
      generalize hq : initN fr s fr.length = o0 at *
      have HQ := Lib.hid hq
      clear hq
      go_wp2_with fail
      go_loopw [5, 39] (fun o i wr => ∃ (k : Nat), k ≤ l.length ∧ i = .int .i64 k ∧ o = .int .u64 (valN l o0 k : Nat) ∧ Below w.heap.size w wr) (fun _ i _ => l.length - (intOf i).toNat)
      case atStart => exact ⟨0, Nat.zero_le _, rfl, rfl, Below.refl _ _⟩
      case round =>
        obtain ⟨k, hk2, rfl, rfl, hB⟩ := hrel
        by_cases hlt : k < l.length
        · obtain ⟨ad, A1, c1, A2, c2, e, hx0, hx1, hx2, hl1, hi1, hl2, hi2⟩ := at_T44 HL.out (k : Int) (by omega) (by omega)
          cases e
          simp only [Int.toNat_natCast] at hx0 hx1 hx2
          replace hx0 := (hB.cell (World.block_lt_of_cell? w _ hx0)).trans hx0
          replace hx1 := (hB.cell (World.block_lt_of_cell? w _ hx1)).trans hx1
          replace hx2 := (hB.cell (World.block_lt_of_cell? w _ hx2)).trans hx2
          have hst : Hid (valN l o0 (k + 1) = stepN (valN l o0 k) k (rd_T44 l k)) := rfl
          have hvl := valN_lt l o0 hil k (by omega)
          have hvo : VarOk (rd_T44 l k) := HV.out _ (by simp [rd_T44, List.getD_eq_getElem?_getD, List.getElem?_eq_getElem hlt])
          generalize valN l o0 k = o1 at *
          generalize rd_T44 l (k : Int) = v at *
          obtain ⟨hvo1, hvo2⟩ := hvo
          have HI1 := Lib.hid hi1
          have HI2 := Lib.hid hi2
          clear hi1 hi2
          by_cases h0 : v.f1.length = 0
          · have hb0 : ((v.f1.length : Int) == 0) = true := by simp [h0]
            have hst2 : Hid (stepN o1 k v = o1) := by unfold Hid stepN; rw [if_pos h0]
            clear h0 hvo1 hvo2
            go_wp2_with fail
            go_roundw
            case rel => exact ⟨k + 1, by omega, by go_num, by rw [hst.out, hst2.out], below_alloc hB _⟩
            case measure => simp [intOf]; omega
          · have hb0 : ((v.f1.length : Int) == 0) = false := by simpa using h0
            have hb1 : (v.f1.length : Int) ≤ 4 := by omega
            have htl : v.f2.length = 2 ^ v.f1.length := by omega
            have HTL := Lib.hid htl
            have HVO := Lib.hid hvo2
            have hst2 : Hid (stepN o1 k v = if rdOf false v.f2 (atN o1 v.f1 v.f1.length : Nat) then o1 ||| 2 ^ k else o1) := by unfold Hid stepN; rw [if_neg h0]
            clear h0 hvo1 hvo2 htl
            go_wp2_with fail
            go_loopw [10, 51] (fun o i wq => ∃ (j : Nat), j ≤ v.f1.length ∧ i = .int .i64 j ∧ o = .int .i64 (atN o1 v.f1 j : Nat) ∧ wr.alloc (.cells #[.int .i64 v.f0, .slice A1 v.f1.length c1, .slice A2 v.f2.length c2] 44) = wq) (fun _ i _ => v.f1.length - (intOf i).toNat)
            case atStart => exact ⟨0, Nat.zero_le _, rfl, rfl, rfl⟩
            case round =>
              obtain ⟨j, hj, rfl, rfl, rfl⟩ := hrel
              have hBw := below_alloc hB (.cells #[.int .i64 v.f0, .slice A1 v.f1.length c1, .slice A2 v.f2.length c2] 44)
              by_cases hlt2 : j < v.f1.length
              · obtain ⟨ad1, e, hy0⟩ := Kd.at_int HI1.out (j : Int) (by omega) (by omega)
                cases e
                simp only [Int.toNat_natCast] at hy0
                replace hy0 := (hBw.cell (World.block_lt_of_cell? w _ hy0)).trans hy0
                obtain ⟨hp1, hp2⟩ := HVO.out (rd v.f1 j) (by simp [rd, List.getD_eq_getElem?_getD, List.getElem?_eq_getElem hlt2])
                have hat : Hid (atN o1 v.f1 (j + 1) = atN o1 v.f1 j ||| (if o1.testBit (rd v.f1 j).toNat then 2 ^ j else 0)) := rfl
                have hatl := atN_lt o1 v.f1 j
                have hat2 : atN o1 v.f1 j < 16 := Nat.lt_of_lt_of_le hatl (Nat.pow_le_pow_right (by omega) (show j ≤ 4 by omega))
                clear hatl
                obtain ⟨p, hp⟩ := Int.eq_ofNat_of_zero_le hp1
                rw [hp] at hy0 hp1 hp2 hat
                rw [Int.toNat_natCast] at hat
                clear hp
                have hob := Lib.hid (orbit_i64 (atN o1 v.f1 j) o1 p j (by omega) (by omega) (by omega))
                generalize atN o1 v.f1 j = a1 at *
                go_wp2_with fail
                go_roundw
                case rel => exact ⟨j + 1, by omega, by go_num, by rw [hob.out, hat.out], trivial⟩
                case measure => simp [intOf]; omega
              · obtain rfl : j = v.f1.length := by omega
                have hatl := Lib.hid (atN_lt o1 v.f1 v.f1.length)
                have hat2 : atN o1 v.f1 v.f1.length < v.f2.length := by rw [HTL.out]; exact hatl.out
                generalize atN o1 v.f1 v.f1.length = a1 at *
                obtain ⟨ad2, e, hz0⟩ := Kd.at_bool HI2.out (a1 : Int) (by omega) (by omega)
                cases e
                simp only [Int.toNat_natCast] at hz0
                replace hz0 := (hBw.cell (World.block_lt_of_cell? w _ hz0)).trans hz0
                cases htb : rdOf false v.f2 (a1 : Int) with
                | true =>
                  rw [htb] at hz0 hst2
                  have hsh := Lib.hid (shl_one_u64 k (by omega))
                  have hor := Lib.hid (or_u64 o1 (2 ^ k) (by omega) (pow_lt32 (by omega)))
                  go_wp2_with fail
                  go_roundw
                  case rel => exact ⟨k + 1, by omega, by go_num, by rw [hsh.out, hor.out, hst.out, hst2.out]; rfl, hBw⟩
                  case measure => simp [intOf]; omega
                | false =>
                  rw [htb] at hz0 hst2
                  go_wp2_with fail
                  go_roundw
                  case rel => exact ⟨k + 1, by omega, by go_num, by rw [hst.out, hst2.out]; rfl, hBw⟩
                  case measure => simp [intOf]; omega
        · obtain rfl : k = l.length := by omega
          go_wp2_with fail
          go_ret
          exact ⟨by first | rfl | (rw [HQ.out]; rfl), hB⟩

/-- The bits of the free variables of a party. -/
def maskN (l : List S44) (fr : List Int) (party : Int) : Nat → Nat
  | 0 => 0
  | k + 1 => maskN l fr party k ||| (if (rd_T44 l (rd fr k)).f0 = party then 2 ^ (fr.length - 1 - k) else 0)
theorem maskN_lt (l : List S44) (fr : List Int) (party : Int) (hf : fr.length ≤ 12) : ∀ k, k ≤ fr.length → maskN l fr party k < 2 ^ 12
  | 0, _ => by simp [maskN]
  | k + 1, hk => or_lt (maskN_lt l fr party hf k (by omega)) (ite_lt (by omega))
set_option maxRecDepth 100000 in
set_option maxHeartbeats 2000000 in
theorem mask_calls (g : Nat) (l : List S44) (fr : List Int) (party : Int) (w : World) (hM : IsM w g l fr) (hl : l.length ≤ 12) (hf : fr.length ≤ 12) (hfr : ∀ i ∈ fr, 0 ≤ i ∧ i < (l.length : Int)) :
    Calls Try.prog 43 #[.pointer (some ⟨g, 0, none⟩), .int .i64 party] w fun e w' => e = .returned (.int .u64 (maskN l fr party fr.length : Nat)) ∧ w = w' := by
  have hM' := Lib.hid hM
  obtain ⟨A, c, F, d, h1, h2, h3, h4, h5⟩ := hM
  have hu60 := Try.underlying60
  have hu44 := Try.underlying44
  have hg1 : w.cell? ⟨g, 1, none⟩ = some (.slice F fr.length d) := blk_cell h1 1
  have hg0 : w.cell? ⟨g, 0, none⟩ = some (.slice A l.length c) := blk_cell h1 0
  have HF := Lib.hid h5
  have HL := Lib.hid h3
  have HFR := Lib.hid hfr
  clear h1 h2 h3 h4 h5 hfr
  go_enter Try.func43, Try.ntmps43
  go_wp2_with fail
  go_loopw [5, 13] (fun o i wr => ∃ (k : Nat), k ≤ fr.length ∧ i = .int .i64 k ∧ o = .int .u64 (maskN l fr party k : Nat) ∧ w = wr) (fun _ i _ => fr.length - (intOf i).toNat)
  case atStart => exact ⟨0, Nat.zero_le _, rfl, rfl, rfl⟩
  case round =>
    obtain ⟨k, hk, rfl, rfl, rfl⟩ := hrel
    by_cases hlt : k < fr.length
    · obtain ⟨ad, e, hx0⟩ := Kd.at_int HF.out (k : Int) (by omega) (by omega)
      cases e
      simp only [Int.toNat_natCast] at hx0
      have hr : 0 ≤ rd fr k ∧ rd fr k < (l.length : Int) := HFR.out _ (by simp [rd, List.getD_eq_getElem?_getD, List.getElem?_eq_getElem hlt])
      obtain ⟨hr1, hr2⟩ := hr
      have hst : Hid (maskN l fr party (k + 1) = maskN l fr party k ||| (if (rd_T44 l (rd fr k)).f0 = party then 2 ^ (fr.length - 1 - k) else 0)) := rfl
      have hil := maskN_lt l fr party hf k hk
      obtain ⟨p, hp⟩ := Int.eq_ofNat_of_zero_le hr1
      rw [hp] at hx0 hr2 hr1 hst
      clear hp
      obtain ⟨ad2, A1, c1, A2, c2, e, hy0, hy1, hy2, hl1, hi1, hl2, hi2⟩ := at_T44 HL.out (p : Int) (by omega) (by omega)
      cases e
      simp only [Int.toNat_natCast] at hy0 hy1 hy2
      clear hl1 hi1 hl2 hi2 hy1 hy2
      generalize maskN l fr party k = o1 at *
      generalize (rd_T44 l (p : Int)).f0 = q at *
      by_cases hq : q = party
      · have hqb : (q == party) = true := by simp [hq]
        have hsh := Lib.hid (shl_one_u64 (fr.length - 1 - k) (by omega))
        have hor := Lib.hid (or_u64 o1 (2 ^ (fr.length - 1 - k)) (by omega) (pow_lt32 (by omega)))
        rw [if_pos hq] at hst
        clear hq
        go_wp2_with fail
        refine (bit_calls g l fr k w hM'.out hlt (by omega)).mono ?_
        rintro e w' ⟨rfl, rfl⟩
        go_wp2_with fail
        go_roundw
        case rel => exact ⟨k + 1, by omega, by go_num, by rw [hsh.out, hor.out, hst.out], trivial⟩
        case measure => simp [intOf]; omega
      · have hqb : (q == party) = false := by simpa using hq
        rw [if_neg hq, Nat.or_zero] at hst
        clear hq
        go_wp2_with fail
        go_roundw
        case rel => exact ⟨k + 1, by omega, by go_num, by rw [hst.out], trivial⟩
        case measure => simp [intOf]; omega
    · obtain rfl : k = fr.length := by omega
      go_wp2_with fail
      go_ret
      exact ⟨rfl, rfl⟩
end Go.Proofs.Ytjdhnhfglpogmaa.P
/- observations: a model, and whether what was seen is valid. -/
set_option linter.unusedSimpArgs false
set_option linter.unusedVariables false
namespace Go.Proofs.Ytjdhnhfglpogmaa.P
open Go.RowKit Go.Proofs.YtjdhnhfglpogmaaW.PrintWords Go.Proofs.YtjdhnhfglpogmaaW.PrintLast Go.Proofs.YtjdhnhfglpogmaaW.PrintMore

def dayB (d : Int) : Bool := decide (0 ≤ d) && decide (d ≤ 36524)
def oddB (n : Nat) (s : S48) : Bool := decide (s.f0 < 0) || decide ((n : Int) ≤ s.f0) || !(dayB s.f2)
theorem isDay_calls (d : Int) (w : World) : Calls Try.prog 47 #[.int .i64 d] w fun e w' => e = .returned (.bool (dayB d)) ∧ w = w' := by
  unfold dayB
  by_cases h : 0 ≤ d
  · have h1 : decide (0 ≤ d) = true := decide_eq_true h
    go_enter Try.func47, Try.ntmps47
    go_wp2
    go_ret
    exact ⟨by simp [h], rfl⟩
  · have h1 : decide (0 ≤ d) = false := decide_eq_false h
    go_enter Try.func47, Try.ntmps47
    go_wp2
    go_ret
    exact ⟨by simp [h], rfl⟩
theorem odd_calls (s : S48) (n B c : Nat) (A : Option Addr) (w : World) (hB : w.cell? ⟨B, 0, none⟩ = some (.slice A n c)) :
    Calls Try.prog 46 #[.agg #[.int .i64 s.f0, .bool s.f1, .int .i64 s.f2], .pointer (some ⟨B, 0, none⟩)] w fun e w' => e = .returned (.bool (oddB n s)) ∧ Below w.heap.size w w' := by
  have hu48 := Try.underlying48
  have hlt := World.block_lt_of_cell? w _ hB
  have hB2 : ∀ o, (w.alloc o).cell? ⟨B, 0, none⟩ = some (.slice A n c) := fun o => (Below.cell (Below.alloc (Below.refl _ _) (Nat.le_refl _) o) hlt).trans hB
  have hd := Lib.hid (isDay_calls s.f2)
  unfold oddB
  go_enter Try.func46, Try.ntmps46
  go_wp2_with fail
  · refine (hd.out _).mono ?_
    rintro e w' ⟨rfl, rfl⟩
    go_wp2_with fail
    go_ret
    exact ⟨by first | rfl | simp, below_alloc (Below.refl _ _) _⟩
  · go_ret
    exact ⟨by first | rfl | simp, below_alloc (Below.refl _ _) _⟩
  · go_ret
    exact ⟨by first | rfl | simp, below_alloc (Below.refl _ _) _⟩

def idxF {α : Type} (p : α → Bool) : List α → Nat → Option Nat
  | [], _ => none
  | x :: r, i => if p x then some i else idxF p r (i + 1)
def idxI {α : Type} (p : α → Bool) (l : List α) : Int := match idxF p l 0 with | none => -1 | some i => (i : Int)
theorem idxF_any {α : Type} (p : α → Bool) : ∀ (l : List α) (i : Nat), (idxF p l i).isSome = l.any p
  | [], _ => rfl
  | x :: r, i => by
    simp only [idxF, List.any_cons]
    cases h : p x
    · simp [idxF_any p r (i + 1)]
    · simp
theorem idxI_any {α : Type} (p : α → Bool) (l : List α) : decide (0 ≤ idxI p l) = l.any p := by
  unfold idxI
  rw [← idxF_any p l 0]
  cases idxF p l 0 <;> simp
/-- From k on, nothing having been found before. -/
theorem idxF_hit {α : Type} (p : α → Bool) : ∀ (l : List α) (i k : Nat) (x : α), l[k]? = some x → p x = true → (∀ (j : Nat) (y : α), j < k → l[j]? = some y → p y = false) → idxF p l i = some (i + k)
  | [], i, k, x, h, _, _ => by simp at h
  | y :: r, i, 0, x, h, hp, _ => by
    simp at h
    subst h
    simp [idxF, hp]
  | y :: r, i, k + 1, x, h, hp, hn => by
    have h0 := hn 0 y (by omega) rfl
    simp only [idxF, h0]
    rw [idxF_hit p r (i + 1) k x (by simpa using h) hp (fun j z hj hz => hn (j + 1) z (by omega) (by simpa using hz))]
    simp
    omega
theorem idxF_miss {α : Type} (p : α → Bool) : ∀ (l : List α) (i : Nat), (∀ (j : Nat) (y : α), l[j]? = some y → p y = false) → idxF p l i = none
  | [], _, _ => rfl
  | y :: r, i, hn => by
    simp only [idxF, hn 0 y rfl]
    exact idxF_miss p r (i + 1) (fun j z hz => hn (j + 1) z (by simpa using hz))

set_option maxHeartbeats 1000000 in
theorem index_calls (l : List S48) (n B c d : Nat) (A F : Option Addr) (w : World) (hr : Kd.C k48 w A l.length l) (hB : w.cell? ⟨B, 0, none⟩ = some (.slice F n d)) :
    Calls Try.prog 49 #[.slice A l.length c, .func (.func 46) #[] #[.pointer (some ⟨B, 0, none⟩)]] w fun e w' => e = .returned (.int .i64 (idxI (oddB n) l)) ∧ Below w.heap.size w w' := by
  have HR := Lib.hid hr
  have hlb := World.block_lt_of_cell? w _ hB
  have HB := Lib.hid hB
  have hl63 : l.length ≤ 9223372036854775807 := hr.2.1
  have hu48 := Try.underlying48
  clear hr hB
  go_enter Try.func49, Try.ntmps49
  go_wp2_with fail
  go_loopw [8] (fun i wr => ∃ k : Nat, k ≤ l.length ∧ i = .int .i64 k ∧ Hid (∀ (j : Nat) (y : S48), j < k → l[j]? = some y → oddB n y = false) ∧ Below w.heap.size w wr) (fun i _ => l.length - (intOf i).toNat)
  case atStart => exact ⟨0, Nat.zero_le _, rfl, fun j y h => by omega, Below.refl _ _⟩
  case round =>
    obtain ⟨k, hk, rfl, hN, hBw⟩ := hrel
    by_cases hlt : k < l.length
    · obtain ⟨ad, e, hx0, hx1, hx2⟩ := at_T48 HR.out (k : Int) (by omega) (by omega)
      cases e
      simp only [Int.toNat_natCast] at hx0 hx1 hx2
      replace hx0 := (hBw.cell (World.block_lt_of_cell? w _ hx0)).trans hx0
      replace hx1 := (hBw.cell (World.block_lt_of_cell? w _ hx1)).trans hx1
      replace hx2 := (hBw.cell (World.block_lt_of_cell? w _ hx2)).trans hx2
      have hxk : Hid (l[k]? = some (rd_T48 l k)) := by unfold Hid; simp [rd_T48, List.getD_eq_getElem?_getD, List.getElem?_eq_getElem hlt]
      generalize rd_T48 l (k : Int) = x at *
      have ho := Lib.hid (fun W => odd_calls x n B d F W)
      have hBr := Lib.hid ((hBw.cell hlb).trans HB.out)
      cases hp : oddB n x with
      | true =>
        rw [hp] at ho
        have HH : Hid (idxI (oddB n) l = k) := by unfold Hid idxI; rw [idxF_hit (oddB n) l 0 k x hxk.out hp hN.out]; simp
        clear hp
        go_wp2_with fail
        refine (ho.out _ hBr.out).mono ?_
        rintro e w' ⟨rfl, hb2⟩
        go_wp2_with fail
        go_ret
        exact ⟨by rw [HH.out]; rfl, below_step hBw hb2⟩
      | false =>
        rw [hp] at ho
        have HN2 : Hid (∀ (j : Nat) (y : S48), j < k + 1 → l[j]? = some y → oddB n y = false) := fun j y hj hy => by
          by_cases hjk : j < k
          · exact hN.out j y hjk hy
          · obtain rfl : j = k := by omega
            rw [hxk.out] at hy
            cases hy
            exact hp
        clear hp
        go_wp2_with fail
        refine (ho.out _ hBr.out).mono ?_
        rintro e w' ⟨rfl, hb2⟩
        go_wp2_with fail
        go_roundw
        case rel => exact ⟨k + 1, by omega, by go_num, HN2, below_step hBw hb2⟩
        case measure => simp [intOf]; omega
    · have HH : Hid (idxI (oddB n) l = -1) := by
        unfold Hid idxI
        rw [idxF_miss (oddB n) l 0 (fun j y hy => hN.out j y (by have := (List.getElem?_eq_some_iff.1 hy).1; omega) hy)]
      go_wp2_with fail
      go_ret
      exact ⟨by rw [HH.out]; rfl, hBw⟩
theorem contains_calls (l : List S48) (n B c d : Nat) (A F : Option Addr) (w : World) (hr : Kd.C k48 w A l.length l) (hB : w.cell? ⟨B, 0, none⟩ = some (.slice F n d)) :
    Calls Try.prog 48 #[.slice A l.length c, .func (.func 46) #[] #[.pointer (some ⟨B, 0, none⟩)]] w fun e w' => e = .returned (.bool (l.any (oddB n))) ∧ Below w.heap.size w w' := by
  have hi := Lib.hid (index_calls l n B c d A F w hr hB)
  have hl63 : l.length ≤ 9223372036854775807 := hr.2.1
  have HA := Lib.hid (idxI_any (oddB n) l)
  clear hr hB
  go_enter Try.func48, Try.ntmps48
  go_wp2_with fail
  refine hi.out.mono ?_
  rintro e w' ⟨rfl, hb⟩
  go_wp2_with fail
  go_ret
  exact ⟨by rw [← HA.out]; rfl, hb⟩

def seenB (n : Nat) (seen : List S48) (day : Int) : Bool := decide (seen.length ≤ 100) && !(seen.any (oddB n)) && dayB day
theorem obs_no (k : Nat) (l : List S44) (seen : List S48) (A S : Option Addr) (c d : Nat) (day : Int) (w : World) (hr : Kd.C k44 w A l.length l) (hc : l.length ≤ c) (hs : Kd.C k48 w S seen.length seen) (h : cause_Valid.f k l = some false) :
    Calls Try.prog 37 #[.slice A l.length c, .slice S seen.length d, .int .i64 day] w fun e w' => e = .returned (.tuple #[.pointer none, .bool false]) ∧ Below w.heap.size w w' := by
  have hn := Lib.hid (fun W hW => newModel_no k A c l W hW hc h)
  have HR := Lib.hid hr
  clear hr h hs
  go_enter Try.func37, Try.ntmps37
  go_wp2_with fail
  refine (hn.out _ (Kd.C_below HR.out (below_alloc (Below.refl _ _) _))).mono ?_
  rintro e w1 ⟨rfl, hb⟩
  have HB := Lib.hid (below_step (below_alloc (Below.refl w.heap.size w) _) hb)
  clear hb
  go_wp2_with fail
  go_ret2
  exact ⟨rfl, HB.out⟩
set_option maxHeartbeats 1000000 in
theorem obs_yes (k : Nat) (l : List S44) (seen : List S48) (A S : Option Addr) (c d : Nat) (day : Int) (w : World) (hr : Kd.C k44 w A l.length l) (hc : l.length ≤ c) (hs : Kd.C k48 w S seen.length seen) (h : cause_Valid.f k l = some true) (hlen : l.length ≤ 1000) :
    Calls Try.prog 37 #[.slice A l.length c, .slice S seen.length d, .int .i64 day] w fun e w' => ∃ g, e = .returned (.tuple #[.pointer (some ⟨g, 0, none⟩), .bool (seenB l.length seen day)]) ∧ IsM w' g l (freeOf l) ∧ w.heap.size ≤ g ∧ Below w.heap.size w w' := by
  have hn := Lib.hid (fun W hW => newModel_yes k A c l W hW hc h hlen)
  have HR := Lib.hid hr
  have HS := Lib.hid hs
  have hl63 : seen.length ≤ 9223372036854775807 := hs.2.1
  clear hr h hs
  unfold seenB
  have hall : ∀ (b1 b2 b3 : Bool), decide (seen.length ≤ 100) = b1 → seen.any (oddB l.length) = b2 → dayB day = b3 → Calls Try.prog 37 #[.slice A l.length c, .slice S seen.length d, .int .i64 day] w fun e w' => ∃ g, e = .returned (.tuple #[.pointer (some ⟨g, 0, none⟩), .bool (b1 && !b2 && b3)]) ∧ IsM w' g l (freeOf l) ∧ w.heap.size ≤ g ∧ Below w.heap.size w w' := by
    intro b1 b2 b3 h1 h2 h3
    have hct := Lib.hid (fun W hW B hB => contains_calls seen l.length B d c S A W hW hB)
    have hdy := Lib.hid (isDay_calls day)
    rw [h2] at hct
    rw [h3] at hdy
    have h1' : decide ((seen.length : Int) ≤ 100) = b1 := by rw [← h1]; simp; omega
    clear h2 h3
    cases b1 <;> cases b2
    all_goals
      go_enter Try.func37, Try.ntmps37
      go_wp2_with fail
      refine (hn.out _ (Kd.C_below HR.out (below_alloc (Below.refl _ _) _))).mono ?_
      rintro e w1 ⟨g, rfl, hM, hg, hb⟩
      have hB1 := below_step (below_alloc (Below.refl w.heap.size w) _) hb
      have hcell : w1.cell? ⟨w.heap.size, 0, none⟩ = some (.slice A l.length c) := (hb.cell (p := ⟨w.heap.size, 0, none⟩) (by simp)).trans (blk_cell (heap_alloc_new w _) 0)
      have HM := Lib.hid hM
      have HB1 := Lib.hid hB1
      have HC := Lib.hid hcell
      have hgs : w.heap.size ≤ g := by simp at hg; omega
      clear hM hB1 hcell hb hg
      go_wp2_with fail
    · go_ret2
      exact ⟨g, rfl, HM.out, hgs, HB1.out⟩
    · go_ret2
      exact ⟨g, rfl, HM.out, hgs, HB1.out⟩
    · refine (hct.out w1 (Kd.C_below HS.out HB1.out) _ HC.out).mono ?_
      rintro e w2 ⟨rfl, hb2⟩
      have HB2 := Lib.hid hb2
      clear hb2
      go_wp2_with fail
      refine (hdy.out w2).mono ?_
      rintro e w3 ⟨rfl, rfl⟩
      go_wp2_with fail
      go_ret2
      exact ⟨g, by simp, HM.out.below HB2.out, hgs, below_step HB1.out HB2.out⟩
    · refine (hct.out w1 (Kd.C_below HS.out HB1.out) _ HC.out).mono ?_
      rintro e w2 ⟨rfl, hb2⟩
      have HB2 := Lib.hid hb2
      clear hb2
      go_wp2_with fail
      go_ret2
      exact ⟨g, rfl, HM.out.below HB2.out, hgs, below_step HB1.out HB2.out⟩
  exact hall _ _ _ rfl rfl rfl
end Go.Proofs.Ytjdhnhfglpogmaa.P
/- agreeing: the states that agree with what was seen. -/
set_option linter.unusedSimpArgs false
set_option linter.unusedVariables false
namespace Go.Proofs.Ytjdhnhfglpogmaa.P
open Go.RowKit Go.Proofs.YtjdhnhfglpogmaaW.PrintWords Go.Proofs.YtjdhnhfglpogmaaW.PrintLast Go.Proofs.YtjdhnhfglpogmaaW.PrintMore

/-- Does an observation that counts hold, the variables' values being v? -/
def okS (v : Nat) (day : Int) (s : S48) : Bool := !(decide (s.f2 ≤ day) && (v.testBit s.f0.toNat != s.f1))
def agB (l : List S44) (seen : List S48) (day : Int) (s : Nat) : Bool := seen.all (okS (valN l (initN (freeOf l) s (freeOf l).length) l.length) day)
def agN (l : List S44) (seen : List S48) (day : Int) (k : Nat) : List Int := ((List.range k).filter (agB l seen day)).map (fun s : Nat => (s : Int))
theorem agN_yes (l : List S44) (seen : List S48) (day : Int) (k : Nat) (h : agB l seen day k = true) : agN l seen day (k + 1) = agN l seen day k ++ [(k : Int)] := by
  simp [agN, List.range_succ, List.filter_append, h]
theorem agN_no (l : List S44) (seen : List S48) (day : Int) (k : Nat) (h : agB l seen day k = false) : agN l seen day (k + 1) = agN l seen day k := by
  simp [agN, List.range_succ, List.filter_append, h]
theorem agN_len (l : List S44) (seen : List S48) (day : Int) (k : Nat) : (agN l seen day k).length ≤ k := by
  unfold agN
  rw [List.length_map]
  exact Nat.le_trans (List.length_filter_le _ _) (by simp)
theorem freeAt_bound : ∀ (l : List S44) (i : Nat), ∀ x ∈ freeAt l i, (i : Int) ≤ x ∧ x < (i + l.length : Nat)
  | [], i, x, h => by simp [freeAt] at h
  | v :: l, i, x, h => by
    have ih := freeAt_bound l (i + 1) x
    simp only [List.length_cons]
    simp only [freeAt] at h
    split at h
    · rcases List.mem_cons.1 h with rfl | h
      · omega
      · have := ih h
        omega
    · have := ih h
      omega
theorem freeOf_bound (l : List S44) (x : Int) (h : x ∈ freeOf l) : 0 ≤ x ∧ x < (l.length : Int) := by
  have := freeAt_bound l 0 x h
  omega
theorem info61 : (Try.prog.info? 61).map (fun i => (i.zero, i.size, i.bytes)) = some (some (.int .u64 0), 1, 8) := by kernel_rfl

set_option maxRecDepth 100000 in
set_option maxHeartbeats 4000000 in
theorem agreeing_calls (g : Nat) (l : List S44) (seen : List S48) (S : Option Addr) (d : Nat) (day : Int) (w : World) (hM : IsM w g l (freeOf l)) (hl : l.length ≤ 12) (hv : ∀ v ∈ l, VarOk v) (hs : Kd.C k48 w S seen.length seen) (hsb : ∀ s ∈ seen, 0 ≤ s.f0 ∧ s.f0 < 12) :
    Calls Try.prog 38 #[.pointer (some ⟨g, 0, none⟩), .slice S seen.length d, .int .i64 day] w fun e w' => ∃ v, e = .returned v ∧ Kd.R (Kd.int .u64) 61 w' w.heap.size (fun _ => True) v (agN l seen day (2 ^ (freeOf l).length)) ∧ Below w.heap.size w w' := by
  have hfl : (freeOf l).length ≤ 12 := Nat.le_trans (freeAt_length l 0) hl
  have hvc := Lib.hid (fun s W hs hW => values_calls g l (freeOf l) s W hW hl hfl hs (fun i hi => ⟨(freeOf_bound l i hi).1, by have := (freeOf_bound l i hi).2; omega⟩) hv)
  have HM := Lib.hid hM
  obtain ⟨A, c, F, d2, h1, h2, h3, h4, h5⟩ := hM
  have hu60 := Try.underlying60
  have hu48 := Try.underlying48
  have hg1 : w.cell? ⟨g, 1, none⟩ = some (.slice F (freeOf l).length d2) := blk_cell h1 1
  have hl63 : seen.length ≤ 9223372036854775807 := hs.2.1
  have HS := Lib.hid hs
  have HSB := Lib.hid hsb
  clear h1 h2 h3 h4 h5 hv hs hsb
  have hpw : 2 ^ (freeOf l).length < 2 ^ 13 := Nat.pow_lt_pow_right (by omega) (by omega)
  have hsh := shl_one_u64 (freeOf l).length (by omega)
  have HFL : ∀ s, s < 2 ^ (freeOf l).length → s < 2 ^ (freeOf l).length := fun s h => h
  generalize hm : 2 ^ (freeOf l).length = M at *
  have HMM := Lib.hid hm
  clear hm HFL
  go_enter Try.func38, Try.ntmps38
  go_wp2_with fail
  go_step3
  go_wp2_with fail
  go_step3
  go_wp2_with fail
  clear hsh hg1
  go_loopw [8, 21] (fun o i wr => ∃ (k : Nat), k ≤ M ∧ i = .int .u64 k ∧ Kd.R (Kd.int .u64) 61 wr w.heap.size (fun _ => True) o (agN l seen day k) ∧ Below w.heap.size w wr) (fun _ i _ => M - (intOf i).toNat)
  case atStart => exact ⟨0, Nat.zero_le _, rfl, Kd.R_nil _ _ _ _ _, Below.refl _ _⟩
  case round =>
    obtain ⟨k, hk, rfl, hR, hB⟩ := hrel
    by_cases hlt : k < M
    · have hvk := Lib.hid (hvc.out k _ (by first | exact hlt | (rw [HMM.out]; exact hlt)) (HM.out.below hB))
      have hagd : Hid (agB l seen day k = seen.all (okS (valN l (initN (freeOf l) k (freeOf l).length) l.length) day)) := rfl
      have hvl : valN l (initN (freeOf l) k (freeOf l).length) l.length < 2 ^ 12 := valN_lt l _ (initN_lt _ _ (fun i hi => ⟨(freeOf_bound l i hi).1, by have := (freeOf_bound l i hi).2; omega⟩) _ (Nat.le_refl _)) _ hl
      have hal := agN_len l seen day k
      obtain ⟨B, cB, rfl⟩ := Kd.R_slice hR
      have HR := Lib.hid hR
      clear hR
      generalize valN l (initN (freeOf l) k (freeOf l).length) l.length = v at *
      go_wp2_with fail
      refine hvk.out.mono ?_
      rintro e w2 ⟨rfl, hb2⟩
      have hB2 := below_step hB hb2
      have HR2 := Lib.hid (Kd.R_below HR.out hb2)
      clear hvk HR hb2
      go_wp2_with fail
      go_loopw [29] (fun i wq => ∃ (j : Nat), j ≤ seen.length ∧ i = .int .i64 j ∧ Hid (∀ (q : Nat) (y : S48), q < j → seen[q]? = some y → okS v day y = true) ∧ Below w2.heap.size w2 wq) (fun i _ => seen.length - (intOf i).toNat)
      case atStart => exact ⟨0, Nat.zero_le _, rfl, fun q y h => by omega, Below.refl _ _⟩
      case round =>
        obtain ⟨j, hj, rfl, hN, hB3⟩ := hrel
        have hBw := below_step hB2 hB3
        by_cases hlt2 : j < seen.length
        · obtain ⟨ad, e, hx0, hx1, hx2⟩ := at_T48 HS.out (j : Int) (by omega) (by omega)
          cases e
          simp only [Int.toNat_natCast] at hx0 hx1 hx2
          replace hx0 := (hBw.cell (World.block_lt_of_cell? w _ hx0)).trans hx0
          replace hx1 := (hBw.cell (World.block_lt_of_cell? w _ hx1)).trans hx1
          replace hx2 := (hBw.cell (World.block_lt_of_cell? w _ hx2)).trans hx2
          have hxj : seen[j]? = some (rd_T48 seen j) := by simp [rd_T48, List.getD_eq_getElem?_getD, List.getElem?_eq_getElem hlt2]
          have hx03 := HSB.out _ (List.mem_of_getElem? hxj)
          have HXJ := Lib.hid hxj
          clear hxj
          generalize rd_T48 seen (j : Int) = x at *
          obtain ⟨x0, x1, x2⟩ := x
          obtain ⟨hq1, hq2⟩ := hx03
          simp only at hx0 hx1 hx2 hq1 hq2
          obtain ⟨p, rfl⟩ := Int.eq_ofNat_of_zero_le hq1
          have hnext : okS v day ⟨(p : Int), x1, x2⟩ = true → Hid (∀ (q : Nat) (y : S48), q < j + 1 → seen[q]? = some y → okS v day y = true) := fun hok q y hq hy => by
            by_cases hjk : q < j
            · exact hN.out q y hjk hy
            · obtain rfl : q = j := by omega
              rw [HXJ.out] at hy
              cases hy
              exact hok
          by_cases hday : x2 ≤ day
          · have hdb : decide (x2 ≤ day) = true := decide_eq_true hday
            have hbit := bit_u64 v p (by omega)
            have hok : okS v day ⟨(p : Int), x1, x2⟩ = (v.testBit p == x1) := by
              simp only [okS, hdb, Bool.true_and, Int.toNat_natCast]
              cases v.testBit p <;> cases x1 <;> rfl
            have HOK := Lib.hid hok
            have HNX := Lib.hid hnext
            clear hok hnext hday
            generalize v.testBit p = tb at *
            have hbad : (tb == x1) = false → Hid (agB l seen day k = false) := fun h => by
              unfold Hid
              rw [hagd.out, List.all_eq_false]
              exact ⟨_, List.mem_of_getElem? HXJ.out, by rw [HOK.out, h]; simp⟩
            have HBAD := Lib.hid hbad
            clear hbad
            cases tb <;> cases x1 <;> simp only [Bool.false_eq_true, if_false, if_true] at hbit
            · have HN2 := HNX.out (by rw [HOK.out]; rfl)
              go_wp2_with fail
              go_quiet (fail)
              go_wp2_with fail
              go_roundw
              case rel => exact ⟨j + 1, by omega, by go_num, HN2, by repeat (first | (with_reducible first | exact hB3 | apply below_alloc | apply pw_below_drewN | apply below_drew1) | exact hB3)⟩
              case measure => simp [intOf]; omega
            · have HA := Lib.hid (agN_no l seen day k (HBAD.out rfl).out)
              go_wp2_with fail
              go_quiet (fail)
              go_wp2_with fail
              go_roundw
              case rel => exact ⟨k + 1, by omega, by go_num, by rw [HA.out]; ((with_reducible repeat (first | apply Kd.R_alloc | apply Kd.R_drewN | apply Kd.R_drew)); exact Kd.R_below HR2.out hB3), by repeat (first | (with_reducible first | exact hBw | apply below_alloc | apply pw_below_drewN | apply below_drew1) | exact hBw)⟩
              case measure => simp [intOf]; omega
            · have HA := Lib.hid (agN_no l seen day k (HBAD.out rfl).out)
              go_wp2_with fail
              go_quiet (fail)
              go_wp2_with fail
              go_roundw
              case rel => exact ⟨k + 1, by omega, by go_num, by rw [HA.out]; ((with_reducible repeat (first | apply Kd.R_alloc | apply Kd.R_drewN | apply Kd.R_drew)); exact Kd.R_below HR2.out hB3), by repeat (first | (with_reducible first | exact hBw | apply below_alloc | apply pw_below_drewN | apply below_drew1) | exact hBw)⟩
              case measure => simp [intOf]; omega
            · have HN2 := HNX.out (by rw [HOK.out]; rfl)
              go_wp2_with fail
              go_quiet (fail)
              go_wp2_with fail
              go_roundw
              case rel => exact ⟨j + 1, by omega, by go_num, HN2, by repeat (first | (with_reducible first | exact hB3 | apply below_alloc | apply pw_below_drewN | apply below_drew1) | exact hB3)⟩
              case measure => simp [intOf]; omega
          · have hdb : decide (x2 ≤ day) = false := decide_eq_false hday
            have HN2 := hnext (by simp [okS, hdb])
            clear hday hnext
            go_wp2_with fail
            go_quiet (fail)
            go_wp2_with fail
            go_roundw
            case rel => exact ⟨j + 1, by omega, by go_num, HN2, by repeat (first | (with_reducible first | exact hB3 | apply below_alloc | apply pw_below_drewN | apply below_drew1) | exact hB3)⟩
            case measure => simp [intOf]; omega
        · have HA : Hid (agN l seen day (k + 1) = agN l seen day k ++ [(k : Int)]) := agN_yes l seen day k (by
            rw [hagd.out, List.all_eq_true]
            intro y hy
            obtain ⟨q, hq⟩ := List.getElem?_of_mem hy
            exact hN.out q y (by have := (List.getElem?_eq_some_iff.1 hq).1; omega) hq)
          have HR3 := Lib.hid (Kd.R_below HR2.out hB3)
          go_wp2_with (at_builtin; refine Kd.R_append (Kd.int .u64) (w0 := w) w.heap.size rfl (.tmp 49) (.tmp 51) 68 61 (.int .u64 0) 8 rfl Try.underlying68 info61 rfl (by decide) (by omega) _ (agN l seen day k) (k : Int) [.int .u64 (k : Int)] (fun _ => True) (fun _ => False) rfl (by first | rfl | go_simp) ?aP (fun _ hk => hk.elim) ?aF ?aO ?aB ?aS ?aL ?_; (case aP => exact rfl); (case aF => exact fun _ _ => trivial); (case aO => exact HR3.out); (case aB => exact hBw); (case aS => exact below_size hBw); (case aL => omega); intro v2 w5 ho hb5 hg hat; have HK := Lib.hid (And.intro hb5 ho); clear hb5 ho hg hat)
          go_roundw
          case rel => exact ⟨k + 1, by omega, by go_num, by rw [HA.out]; exact HK.out.2, HK.out.1⟩
          case measure => simp [intOf]; omega
    · obtain rfl : k = M := by omega
      obtain ⟨B, cB, rfl⟩ := Kd.R_slice hR
      go_wp2_with fail
      rw [Exit.noGoto_ret]
      go_ret
      exact ⟨_, rfl, by first | exact hR | (rw [HMM.out]; exact hR), hB⟩
end Go.Proofs.Ytjdhnhfglpogmaa.P
/- What the functions of package cause compute, in plain lists; the bits of a state tell the same. -/
set_option linter.unusedSimpArgs false
set_option linter.unusedVariables false
namespace Go.Proofs.Ytjdhnhfglpogmaa.P
open Go.RowKit Go.Proofs.YtjdhnhfglpogmaaW.PrintWords Go.Proofs.YtjdhnhfglpogmaaW.PrintLast Go.Proofs.YtjdhnhfglpogmaaW.PrintMore

def atF (b : Int → Bool) (ps : List Int) : Nat → Nat
  | 0 => 0
  | j + 1 => atF b ps j ||| (if b (rd ps j) then 2 ^ j else 0)
theorem atN_atF (out : Nat) (ps : List Int) : ∀ j, atN out ps j = atF (fun p => out.testBit p.toNat) ps j
  | 0 => rfl
  | j + 1 => by simp only [atN, atF, atN_atF out ps j]
theorem rd_mem {ps : List Int} {j : Nat} (h : j < ps.length) : rd ps j ∈ ps := by simp [rd, List.getD_eq_getElem?_getD, List.getElem?_eq_getElem h]
theorem atF_congr {b c : Int → Bool} (ps : List Int) (h : ∀ p ∈ ps, b p = c p) : ∀ j, j ≤ ps.length → atF b ps j = atF c ps j
  | 0, _ => rfl
  | j + 1, hj => by simp only [atF, atF_congr ps h j (by omega), h _ (rd_mem (show j < ps.length by omega))]
/-- One variable's value, for the values before it. -/
def oneB (v : S44) (u : Nat) (free out : List Bool) : Bool := if v.f1.length = 0 then free.getD u false else rdOf false v.f2 (atF (fun p => out.getD p.toNat false) v.f1 v.f1.length : Nat)
def runAux : List S44 → Nat → List Bool → List Bool → List Bool
  | [], _, _, out => out
  | v :: l, u, free, out => runAux l (if v.f1.length = 0 then u + 1 else u) free (out ++ [oneB v u free out])
def runB (l : List S44) (free : List Bool) : List Bool := runAux l 0 free []
theorem runAux_append : ∀ (a b : List S44) (u i : Nat) (free out : List Bool), runAux (a ++ b) u free out = runAux b (u + (freeAt a i).length) free (runAux a u free out)
  | [], b, u, i, free, out => by simp [runAux, freeAt]
  | v :: a, b, u, i, free, out => by
    simp only [List.cons_append, runAux]
    rw [runAux_append a b _ (i + 1) free]
    simp only [freeAt]
    split
    · simp only [List.length_cons]
      rw [show u + 1 + (freeAt a (i + 1)).length = u + ((freeAt a (i + 1)).length + 1) from by omega]
    · rfl
theorem runAux_length : ∀ (l : List S44) (u : Nat) (free out : List Bool), (runAux l u free out).length = out.length + l.length
  | [], _, _, _ => rfl
  | v :: l, u, free, out => by simp only [runAux, runAux_length l, List.length_append, List.length_cons, List.length_nil]; omega
theorem take_snoc' (l : List S44) (k : Nat) (hk : k < l.length) : l.take (k + 1) = l.take k ++ [rd_T44 l (k : Int)] := by
  rw [List.take_succ_eq_append_getElem hk]
  simp [rd_T44, List.getD_eq_getElem?_getD, List.getElem?_eq_getElem hk]
theorem runB_take (l : List S44) (free : List Bool) (k : Nat) (hk : k < l.length) : runB (l.take (k + 1)) free = runB (l.take k) free ++ [oneB (rd_T44 l k) (freeOf (l.take k)).length free (runB (l.take k) free)] := by
  unfold runB
  rw [take_snoc' l k hk, runAux_append _ _ 0 0]
  simp only [runAux, Nat.zero_add]
  rfl
theorem runB_len (l : List S44) (free : List Bool) : (runB l free).length = l.length := by
  unfold runB
  rw [runAux_length]
  simp

theorem initN_bit (fr : List Int) (s j : Nat) : ∀ k, (initN fr s k).testBit j = true ↔ ∃ q, q < k ∧ (rd fr q).toNat = j ∧ s.testBit (fr.length - 1 - q) = true
  | 0 => by simp [initN]
  | k + 1 => by
    have ih := initN_bit fr s j k
    simp only [initN, Nat.testBit_or, Bool.or_eq_true, ih]
    constructor
    · rintro (⟨q, h1, h2, h3⟩ | h)
      · exact ⟨q, by omega, h2, h3⟩
      · split at h
        · rename_i hs
          rw [Nat.testBit_two_pow] at h
          exact ⟨k, by omega, by simpa using h, hs⟩
        · simp at h
    · rintro ⟨q, h1, h2, h3⟩
      by_cases hq : q < k
      · exact .inl ⟨q, hq, h2, h3⟩
      · obtain rfl : q = k := by omega
        right
        rw [if_pos h3, Nat.testBit_two_pow]
        simpa using h2
/-- Where the index of a free variable stands. -/
theorem freeOf_split (l : List S44) (j : Nat) (hj : j < l.length) : freeOf l = freeOf (l.take j) ++ ((if (rd_T44 l j).f1.length = 0 then [(j : Int)] else []) ++ freeAt (l.drop (j + 1)) (j + 1)) := by
  have h : l = l.take j ++ (rd_T44 l j :: l.drop (j + 1)) := by
    have h1 : l.drop j = rd_T44 l j :: l.drop (j + 1) := by
      rw [List.drop_eq_getElem_cons hj]
      simp [rd_T44, List.getD_eq_getElem?_getD, List.getElem?_eq_getElem hj]
    rw [← h1, List.take_append_drop]
  unfold freeOf
  conv => lhs; rw [h]
  rw [freeAt_append]
  simp only [freeAt, List.length_take, Nat.min_eq_left (Nat.le_of_lt hj), Nat.zero_add]
  split <;> simp
theorem rd_append (a b : List Int) (q : Nat) : rd (a ++ b) q = if q < a.length then rd a q else rd b ((q - a.length : Nat) : Int) := by
  simp only [rd, List.getD_eq_getElem?_getD, Int.toNat_natCast]
  split
  · rename_i h
    rw [List.getElem?_append_left h]
  · rename_i h
    rw [List.getElem?_append_right (by omega)]
theorem free_at (l : List S44) (j q : Nat) (hj : j < l.length) (hq : q < (freeOf l).length) (h : (rd (freeOf l) q).toNat = j) : (rd_T44 l j).f1.length = 0 ∧ q = (freeOf (l.take j)).length := by
  have hsp := freeOf_split l j hj
  have hb := fun x hx => freeOf_bound (l.take j) x hx
  have hb2 := fun x hx => freeAt_bound (l.drop (j + 1)) (j + 1) x hx
  have hqm := rd_mem hq
  have hqb := freeOf_bound l _ hqm
  rw [hsp] at h hq hqb
  rw [rd_append] at h hqb
  by_cases h1 : q < (freeOf (l.take j)).length
  · rw [if_pos h1] at h hqb
    have := hb _ (rd_mem h1)
    rw [List.length_take] at this
    omega
  · rw [if_neg h1] at h hqb
    by_cases h0 : (rd_T44 l j).f1.length = 0
    · refine ⟨h0, ?_⟩
      rw [if_pos h0] at h hq hqb
      by_cases h2 : q = (freeOf (l.take j)).length
      · exact h2
      · exfalso
        rw [rd_append] at h hqb
        rw [if_neg (by simp; omega)] at h hqb
        have := hb2 _ (rd_mem (show q - (freeOf (l.take j)).length - [(j : Int)].length < _ by simp only [List.length_append, List.length_cons, List.length_nil] at hq ⊢; omega))
        omega
    · exfalso
      rw [if_neg h0, List.nil_append] at h hq hqb
      have := hb2 _ (rd_mem (show q - (freeOf (l.take j)).length < _ by simp only [List.length_append] at hq; omega))
      omega
theorem free_rd (l : List S44) (j : Nat) (hj : j < l.length) (h0 : (rd_T44 l j).f1.length = 0) : (freeOf (l.take j)).length < (freeOf l).length ∧ rd (freeOf l) ((freeOf (l.take j)).length : Nat) = j := by
  have hsp := freeOf_split l j hj
  rw [if_pos h0] at hsp
  constructor
  · rw [hsp]
    simp only [List.length_append, List.length_cons, List.length_nil]
    omega
  · rw [hsp, rd_append, if_neg (by omega), Nat.sub_self]
    rfl
/-- The parents of a variable stand before it. -/
def Back (l : List S44) : Prop := ∀ (i : Nat), i < l.length → ∀ p ∈ (rd_T44 l i).f1, 0 ≤ p ∧ p < (i : Int)
theorem val_run (l : List S44) (hb : Back l) (free : List Bool) (s : Nat) (hs : ∀ k, k < (freeOf l).length → s.testBit ((freeOf l).length - 1 - k) = free.getD k false) : ∀ i, i ≤ l.length →
    (∀ j, j < i → (valN l (initN (freeOf l) s (freeOf l).length) i).testBit j = (runB (l.take i) free).getD j false) ∧ (∀ j, i ≤ j → (valN l (initN (freeOf l) s (freeOf l).length) i).testBit j = (initN (freeOf l) s (freeOf l).length).testBit j)
  | 0, _ => ⟨fun j h => by omega, fun j _ => rfl⟩
  | i + 1, hi => by
    obtain ⟨h1, h2⟩ := val_run l hb free s hs i (by omega)
    have hlen : (runB (l.take i) free).length = i := by rw [runB_len, List.length_take]; omega
    have hrt := runB_take l free i (by omega)
    have hstep : valN l (initN (freeOf l) s (freeOf l).length) (i + 1) = stepN (valN l (initN (freeOf l) s (freeOf l).length) i) i (rd_T44 l i) := rfl
    rw [hstep, hrt]
    generalize valN l (initN (freeOf l) s (freeOf l).length) i = o at *
    generalize hR : runB (l.take i) free = R at *
    have hat : atN o (rd_T44 l i).f1 (rd_T44 l i).f1.length = atF (fun p => R.getD p.toNat false) (rd_T44 l i).f1 (rd_T44 l i).f1.length := by
      rw [atN_atF]
      refine atF_congr _ (fun p hp => ?_) _ (Nat.le_refl _)
      obtain ⟨g1, g2⟩ := hb i (by omega) p hp
      exact h1 p.toNat (by omega)
    have hget : ∀ (b : Bool) j, (R ++ [b]).getD j false = if j < i then R.getD j false else if j = i then b else false := by
      intro b j
      simp only [List.getD_eq_getElem?_getD]
      by_cases hj : j < i
      · rw [if_pos hj, List.getElem?_append_left (by omega)]
      · rw [if_neg hj, List.getElem?_append_right (by omega), hlen]
        by_cases hj2 : j = i
        · subst hj2; simp
        · rw [if_neg hj2, List.getElem?_eq_none (by simp; omega)]; rfl
    have hbit : (stepN o i (rd_T44 l i)).testBit i = oneB (rd_T44 l i) (freeOf (l.take i)).length free R := by
      unfold stepN oneB
      by_cases h0 : (rd_T44 l i).f1.length = 0
      · rw [if_pos h0, if_pos h0, h2 i (Nat.le_refl _)]
        obtain ⟨f1, f2⟩ := free_rd l i (by omega) h0
        rw [← hs _ f1, Bool.eq_iff_iff, initN_bit]
        constructor
        · rintro ⟨q, q1, q2, q3⟩
          obtain ⟨_, rfl⟩ := free_at l i q (by omega) q1 q2
          exact q3
        · intro h
          exact ⟨_, f1, by rw [f2]; simp, h⟩
      · rw [if_neg h0, if_neg h0, hat]
        have hoi : o.testBit i = false := by
          rw [h2 i (Nat.le_refl _)]
          cases hc : (initN (freeOf l) s (freeOf l).length).testBit i
          · rfl
          · obtain ⟨q, q1, q2, q3⟩ := (initN_bit _ _ _ _).1 hc
            exact absurd (free_at l i q (by omega) q1 q2).1 h0
        split
        · rename_i ht
          rw [ht, Nat.testBit_or, Nat.testBit_two_pow]
          simp
        · rename_i ht
          rw [hoi]
          simp only [Bool.not_eq_true] at ht
          exact ht.symm
    have hother : ∀ j, j ≠ i → (stepN o i (rd_T44 l i)).testBit j = o.testBit j := by
      intro j hj
      unfold stepN
      split
      · rfl
      · split
        · rw [Nat.testBit_or, Nat.testBit_two_pow]
          simp
          intro h
          omega
        · rfl
    constructor
    · intro j hj
      rw [hget]
      by_cases hji : j = i
      · subst hji
        rw [hbit, if_neg (by omega), if_pos rfl]
      · rw [hother j hji, if_pos (by omega), h1 j (by omega)]
    · intro j hj
      rw [hother j (by omega), h2 j (by omega)]
end Go.Proofs.Ytjdhnhfglpogmaa.P
