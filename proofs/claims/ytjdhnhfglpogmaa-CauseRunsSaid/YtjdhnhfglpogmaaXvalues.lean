/- The values of all variables in a state: bit, values. -/
import Derived.Test.YtjdhnhfglpogmaaXmodel
import Derived.Test.YtjdhnhfglpogmaaXbits
set_option linter.unusedSimpArgs false
set_option linter.unusedVariables false
namespace Go.Proofs.Ytjdhnhfglpogmaa.P
open Go.RowKit Go.Proofs.YtjdhnhfglpogmaaW.PrintWords Go.Proofs.YtjdhnhfglpogmaaW.PrintLast Go.Proofs.YtjdhnhfglpogmaaW.PrintMore

theorem bit_calls (g : Nat) (l : List S44) (fr : List Int) (k : Nat) (w : World) (hM : IsM w g l fr) (hk : k < fr.length) (hf : fr.length ≤ 1000) :
    Calls Try.prog 32 #[.pointer (some ⟨g, 0, none⟩), .int .i64 (k : Int)] w fun e w' => e = .returned (.int .u64 ((fr.length - 1 - k : Nat) : Int)) ∧ w = w' := by
  obtain ⟨A, c, F, d, h1, h2, h3, h4, h5⟩ := hM
  have hu60 := Try.underlying60
  have hg1 : w.cell? ⟨g, 1, none⟩ = some (.slice F fr.length d) := blk_cell h1 1
  have he : ((fr.length - 1 - k : Nat) : Int) = (fr.length : Int) - 1 - k := by omega
  have HE := Lib.hid he
  clear h1 h2 h3 h4 h5 he
  go_enter Try.func32, Try.ntmps32
  go_wp2
  go_ret
  rw [HE.out]
  exact ⟨rfl, rfl⟩

/-- The bits of the free variables: the first one is the highest of the state. -/
def initN (fr : List Int) (s : Nat) : Nat → Nat
  | 0 => 0
  | k + 1 => initN fr s k ||| (if s.testBit (fr.length - 1 - k) then 2 ^ (rd fr k).toNat else 0)
def atN (out : Nat) (ps : List Int) : Nat → Nat
  | 0 => 0
  | j + 1 => atN out ps j ||| (if out.testBit (rd ps j).toNat then 2 ^ j else 0)
def stepN (out i : Nat) (v : S44) : Nat := if v.f1.length = 0 then out else if rdOf false v.f2 (atN out v.f1 v.f1.length : Nat) then out ||| 2 ^ i else out
def valN (l : List S44) (out : Nat) : Nat → Nat
  | 0 => out
  | i + 1 => stepN (valN l out i) i (rd_T44 l i)
theorem or_lt {a b n : Nat} (ha : a < 2 ^ n) (hb : b < 2 ^ n) : a ||| b < 2 ^ n := Nat.or_lt_two_pow ha hb
theorem ite_lt {c : Prop} [Decidable c] {p n : Nat} (hp : p < n) : (if c then 2 ^ p else 0) < 2 ^ n := by
  split
  · exact Nat.pow_lt_pow_right (by omega) hp
  · exact Nat.two_pow_pos n
theorem initN_lt (fr : List Int) (s : Nat) (hfr : ∀ i ∈ fr, 0 ≤ i ∧ i < 12) : ∀ k, k ≤ fr.length → initN fr s k < 2 ^ 12
  | 0, _ => by simp [initN]
  | k + 1, hk => by
    have hm : rd fr k ∈ fr := by simp [rd, List.getD_eq_getElem?_getD, List.getElem?_eq_getElem (show k < fr.length by omega)]
    have := hfr _ hm
    exact or_lt (initN_lt fr s hfr k (by omega)) (ite_lt (by omega))
theorem atN_lt (out : Nat) (ps : List Int) : ∀ j, atN out ps j < 2 ^ j
  | 0 => by simp [atN]
  | j + 1 => or_lt (Nat.lt_of_lt_of_le (atN_lt out ps j) (Nat.pow_le_pow_right (by omega) (by omega))) (ite_lt (by omega))
theorem valN_lt (l : List S44) (out : Nat) (ho : out < 2 ^ 12) : ∀ i, i ≤ 12 → valN l out i < 2 ^ 12
  | 0, _ => ho
  | i + 1, hi => by
    have ih := valN_lt l out ho i (by omega)
    simp only [valN, stepN]
    split
    · exact ih
    · split
      · exact or_lt ih (Nat.pow_lt_pow_right (by omega) (by omega))
      · exact ih
/-- What Valid asks of a variable. -/
def VarOk (v : S44) : Prop := (v.f1.length = 0 ∨ (v.f1.length ≤ 4 ∧ v.f2.length = 2 ^ v.f1.length)) ∧ ∀ p ∈ v.f1, 0 ≤ p ∧ p < 12

set_option maxRecDepth 100000 in
set_option maxHeartbeats 2000000 in
theorem values_calls (g : Nat) (l : List S44) (fr : List Int) (s : Nat) (w : World) (hM : IsM w g l fr) (hl : l.length ≤ 12) (hf : fr.length ≤ 12) (hs : s < 2 ^ fr.length) (hfr : ∀ i ∈ fr, 0 ≤ i ∧ i < 12) (hv : ∀ v ∈ l, VarOk v) :
    Calls Try.prog 33 #[.pointer (some ⟨g, 0, none⟩), .int .u64 (s : Int)] w fun e w' => e = .returned (.int .u64 (valN l (initN fr s fr.length) l.length : Nat)) ∧ Below w.heap.size w w' := by
  have hM' := Lib.hid hM
  obtain ⟨A, c, F, d, h1, h2, h3, h4, h5⟩ := hM
  have hu60 := Try.underlying60
  have hu44 := Try.underlying44
  have hg1 : w.cell? ⟨g, 1, none⟩ = some (.slice F fr.length d) := blk_cell h1 1
  have hg0 : w.cell? ⟨g, 0, none⟩ = some (.slice A l.length c) := blk_cell h1 0
  have HF := Lib.hid h5
  have HL := Lib.hid h3
  have HFR := Lib.hid hfr
  have HV := Lib.hid hv
  clear h1 h2 h3 h4 h5 hfr hv
  have hsz : s < 4096 := Nat.lt_of_lt_of_le hs (Nat.pow_le_pow_right (by omega) hf)
  clear hs
  go_enter Try.func33, Try.ntmps33
  go_wp2_with fail
  go_loopw [5, 18] (fun o i wr => ∃ (k : Nat), k ≤ fr.length ∧ i = .int .i64 k ∧ o = .int .u64 (initN fr s k : Nat) ∧ w = wr) (fun _ i _ => fr.length - (intOf i).toNat)
  case atStart => exact ⟨0, Nat.zero_le _, rfl, rfl, rfl⟩
  case round =>
    obtain ⟨k, hk, rfl, rfl, rfl⟩ := hrel
    by_cases hlt : k < fr.length
    · obtain ⟨ad, e, hx0⟩ := Kd.at_int HF.out (k : Int) (by omega) (by omega)
      cases e
      simp only [Int.toNat_natCast] at hx0
      have hr : 0 ≤ rd fr k ∧ rd fr k < 12 := HFR.out _ (by simp [rd, List.getD_eq_getElem?_getD, List.getElem?_eq_getElem hlt])
      obtain ⟨hr1, hr2⟩ := hr
      have hst : Hid (initN fr s (k + 1) = initN fr s k ||| (if s.testBit (fr.length - 1 - k) then 2 ^ (rd fr k).toNat else 0)) := rfl
      have hil := initN_lt fr s HFR.out k hk
      obtain ⟨p, hp⟩ := Int.eq_ofNat_of_zero_le hr1
      rw [hp] at hx0 hr2 hr1 hst
      rw [Int.toNat_natCast] at hst
      have hob := Lib.hid (orbit_u64 (initN fr s k) s (fr.length - 1 - k) p (by omega) (by omega) (by omega))
      clear hp
      generalize initN fr s k = o1 at *
      go_wp2_with fail
      refine (bit_calls g l fr k w hM'.out hlt (by omega)).mono ?_
      rintro e w' ⟨rfl, rfl⟩
      go_wp2_with fail
      go_roundw
      case rel => exact ⟨k + 1, by omega, by go_num, by rw [hob.out, hst.out], trivial⟩
      case measure => simp [intOf]; omega
    · obtain rfl : k = fr.length := by omega
      have hil := initN_lt fr s HFR.out fr.length (Nat.le_refl _)
      generalize hq : initN fr s fr.length = o0 at *
      have HQ := Lib.hid hq
      clear hq
      go_wp2_with fail
      go_loopw [5, 39] (fun o i wr => ∃ (k : Nat), k ≤ l.length ∧ i = .int .i64 k ∧ o = .int .u64 (valN l o0 k : Nat) ∧ Below w.heap.size w wr) (fun _ i _ => l.length - (intOf i).toNat)
      case atStart => exact ⟨0, Nat.zero_le _, rfl, rfl, Below.refl _ _⟩
      case round =>
        obtain ⟨k, hk2, rfl, rfl, hB⟩ := hrel
        by_cases hlt : k < l.length
        · obtain ⟨ad, A1, c1, A2, c2, e, hx0, hx1, hx2, hl1, hi1, hl2, hi2⟩ := at_T44 HL.out (k : Int) (by omega) (by omega)
          cases e
          simp only [Int.toNat_natCast] at hx0 hx1 hx2
          replace hx0 := (hB.cell (World.block_lt_of_cell? w _ hx0)).trans hx0
          replace hx1 := (hB.cell (World.block_lt_of_cell? w _ hx1)).trans hx1
          replace hx2 := (hB.cell (World.block_lt_of_cell? w _ hx2)).trans hx2
          have hst : Hid (valN l o0 (k + 1) = stepN (valN l o0 k) k (rd_T44 l k)) := rfl
          have hvl := valN_lt l o0 hil k (by omega)
          have hvo : VarOk (rd_T44 l k) := HV.out _ (by simp [rd_T44, List.getD_eq_getElem?_getD, List.getElem?_eq_getElem hlt])
          generalize valN l o0 k = o1 at *
          generalize rd_T44 l (k : Int) = v at *
          obtain ⟨hvo1, hvo2⟩ := hvo
          have HI1 := Lib.hid hi1
          have HI2 := Lib.hid hi2
          clear hi1 hi2
          by_cases h0 : v.f1.length = 0
          · have hb0 : ((v.f1.length : Int) == 0) = true := by simp [h0]
            have hst2 : Hid (stepN o1 k v = o1) := by unfold Hid stepN; rw [if_pos h0]
            clear h0 hvo1 hvo2
            go_wp2_with fail
            go_roundw
            case rel => exact ⟨k + 1, by omega, by go_num, by rw [hst.out, hst2.out], below_alloc hB _⟩
            case measure => simp [intOf]; omega
          · have hb0 : ((v.f1.length : Int) == 0) = false := by simpa using h0
            have hb1 : (v.f1.length : Int) ≤ 4 := by omega
            have htl : v.f2.length = 2 ^ v.f1.length := by omega
            have HTL := Lib.hid htl
            have HVO := Lib.hid hvo2
            have hst2 : Hid (stepN o1 k v = if rdOf false v.f2 (atN o1 v.f1 v.f1.length : Nat) then o1 ||| 2 ^ k else o1) := by unfold Hid stepN; rw [if_neg h0]
            clear h0 hvo1 hvo2 htl
            go_wp2_with fail
            go_loopw [10, 51] (fun o i wq => ∃ (j : Nat), j ≤ v.f1.length ∧ i = .int .i64 j ∧ o = .int .i64 (atN o1 v.f1 j : Nat) ∧ wr.alloc (.cells #[.int .i64 v.f0, .slice A1 v.f1.length c1, .slice A2 v.f2.length c2] 44) = wq) (fun _ i _ => v.f1.length - (intOf i).toNat)
            case atStart => exact ⟨0, Nat.zero_le _, rfl, rfl, rfl⟩
            case round =>
              obtain ⟨j, hj, rfl, rfl, rfl⟩ := hrel
              have hBw := below_alloc hB (.cells #[.int .i64 v.f0, .slice A1 v.f1.length c1, .slice A2 v.f2.length c2] 44)
              by_cases hlt2 : j < v.f1.length
              · obtain ⟨ad1, e, hy0⟩ := Kd.at_int HI1.out (j : Int) (by omega) (by omega)
                cases e
                simp only [Int.toNat_natCast] at hy0
                replace hy0 := (hBw.cell (World.block_lt_of_cell? w _ hy0)).trans hy0
                obtain ⟨hp1, hp2⟩ := HVO.out (rd v.f1 j) (by simp [rd, List.getD_eq_getElem?_getD, List.getElem?_eq_getElem hlt2])
                have hat : Hid (atN o1 v.f1 (j + 1) = atN o1 v.f1 j ||| (if o1.testBit (rd v.f1 j).toNat then 2 ^ j else 0)) := rfl
                have hatl := atN_lt o1 v.f1 j
                have hat2 : atN o1 v.f1 j < 16 := Nat.lt_of_lt_of_le hatl (Nat.pow_le_pow_right (by omega) (show j ≤ 4 by omega))
                clear hatl
                obtain ⟨p, hp⟩ := Int.eq_ofNat_of_zero_le hp1
                rw [hp] at hy0 hp1 hp2 hat
                rw [Int.toNat_natCast] at hat
                clear hp
                have hob := Lib.hid (orbit_i64 (atN o1 v.f1 j) o1 p j (by omega) (by omega) (by omega))
                generalize atN o1 v.f1 j = a1 at *
                go_wp2_with fail
                go_roundw
                case rel => exact ⟨j + 1, by omega, by go_num, by rw [hob.out, hat.out], trivial⟩
                case measure => simp [intOf]; omega
              · obtain rfl : j = v.f1.length := by omega
                have hatl := Lib.hid (atN_lt o1 v.f1 v.f1.length)
                have hat2 : atN o1 v.f1 v.f1.length < v.f2.length := by rw [HTL.out]; exact hatl.out
                generalize atN o1 v.f1 v.f1.length = a1 at *
                obtain ⟨ad2, e, hz0⟩ := Kd.at_bool HI2.out (a1 : Int) (by omega) (by omega)
                cases e
                simp only [Int.toNat_natCast] at hz0
                replace hz0 := (hBw.cell (World.block_lt_of_cell? w _ hz0)).trans hz0
                cases htb : rdOf false v.f2 (a1 : Int) with
                | true =>
                  rw [htb] at hz0 hst2
                  have hsh := Lib.hid (shl_one_u64 k (by omega))
                  have hor := Lib.hid (or_u64 o1 (2 ^ k) (by omega) (pow_lt32 (by omega)))
                  go_wp2_with fail
                  go_roundw
                  case rel => exact ⟨k + 1, by omega, by go_num, by rw [hsh.out, hor.out, hst.out, hst2.out]; rfl, hBw⟩
                  case measure => simp [intOf]; omega
                | false =>
                  rw [htb] at hz0 hst2
                  go_wp2_with fail
                  go_roundw
                  case rel => exact ⟨k + 1, by omega, by go_num, by rw [hst.out, hst2.out]; rfl, hBw⟩
                  case measure => simp [intOf]; omega
        · obtain rfl : k = l.length := by omega
          go_wp2_with fail
          go_ret
          exact ⟨by first | rfl | (rw [HQ.out]; rfl), hB⟩

/-- The bits of the free variables of a party. -/
def maskN (l : List S44) (fr : List Int) (party : Int) : Nat → Nat
  | 0 => 0
  | k + 1 => maskN l fr party k ||| (if (rd_T44 l (rd fr k)).f0 = party then 2 ^ (fr.length - 1 - k) else 0)
theorem maskN_lt (l : List S44) (fr : List Int) (party : Int) (hf : fr.length ≤ 12) : ∀ k, k ≤ fr.length → maskN l fr party k < 2 ^ 12
  | 0, _ => by simp [maskN]
  | k + 1, hk => or_lt (maskN_lt l fr party hf k (by omega)) (ite_lt (by omega))
set_option maxRecDepth 100000 in
set_option maxHeartbeats 2000000 in
theorem mask_calls (g : Nat) (l : List S44) (fr : List Int) (party : Int) (w : World) (hM : IsM w g l fr) (hl : l.length ≤ 12) (hf : fr.length ≤ 12) (hfr : ∀ i ∈ fr, 0 ≤ i ∧ i < (l.length : Int)) :
    Calls Try.prog 43 #[.pointer (some ⟨g, 0, none⟩), .int .i64 party] w fun e w' => e = .returned (.int .u64 (maskN l fr party fr.length : Nat)) ∧ w = w' := by
  have hM' := Lib.hid hM
  obtain ⟨A, c, F, d, h1, h2, h3, h4, h5⟩ := hM
  have hu60 := Try.underlying60
  have hu44 := Try.underlying44
  have hg1 : w.cell? ⟨g, 1, none⟩ = some (.slice F fr.length d) := blk_cell h1 1
  have hg0 : w.cell? ⟨g, 0, none⟩ = some (.slice A l.length c) := blk_cell h1 0
  have HF := Lib.hid h5
  have HL := Lib.hid h3
  have HFR := Lib.hid hfr
  clear h1 h2 h3 h4 h5 hfr
  go_enter Try.func43, Try.ntmps43
  go_wp2_with fail
  go_loopw [5, 13] (fun o i wr => ∃ (k : Nat), k ≤ fr.length ∧ i = .int .i64 k ∧ o = .int .u64 (maskN l fr party k : Nat) ∧ w = wr) (fun _ i _ => fr.length - (intOf i).toNat)
  case atStart => exact ⟨0, Nat.zero_le _, rfl, rfl, rfl⟩
  case round =>
    obtain ⟨k, hk, rfl, rfl, rfl⟩ := hrel
    by_cases hlt : k < fr.length
    · obtain ⟨ad, e, hx0⟩ := Kd.at_int HF.out (k : Int) (by omega) (by omega)
      cases e
      simp only [Int.toNat_natCast] at hx0
      have hr : 0 ≤ rd fr k ∧ rd fr k < (l.length : Int) := HFR.out _ (by simp [rd, List.getD_eq_getElem?_getD, List.getElem?_eq_getElem hlt])
      obtain ⟨hr1, hr2⟩ := hr
      have hst : Hid (maskN l fr party (k + 1) = maskN l fr party k ||| (if (rd_T44 l (rd fr k)).f0 = party then 2 ^ (fr.length - 1 - k) else 0)) := rfl
      have hil := maskN_lt l fr party hf k hk
      obtain ⟨p, hp⟩ := Int.eq_ofNat_of_zero_le hr1
      rw [hp] at hx0 hr2 hr1 hst
      clear hp
      obtain ⟨ad2, A1, c1, A2, c2, e, hy0, hy1, hy2, hl1, hi1, hl2, hi2⟩ := at_T44 HL.out (p : Int) (by omega) (by omega)
      cases e
      simp only [Int.toNat_natCast] at hy0 hy1 hy2
      clear hl1 hi1 hl2 hi2 hy1 hy2
      generalize maskN l fr party k = o1 at *
      generalize (rd_T44 l (p : Int)).f0 = q at *
      by_cases hq : q = party
      · have hqb : (q == party) = true := by simp [hq]
        have hsh := Lib.hid (shl_one_u64 (fr.length - 1 - k) (by omega))
        have hor := Lib.hid (or_u64 o1 (2 ^ (fr.length - 1 - k)) (by omega) (pow_lt32 (by omega)))
        rw [if_pos hq] at hst
        clear hq
        go_wp2_with fail
        refine (bit_calls g l fr k w hM'.out hlt (by omega)).mono ?_
        rintro e w' ⟨rfl, rfl⟩
        go_wp2_with fail
        go_roundw
        case rel => exact ⟨k + 1, by omega, by go_num, by rw [hsh.out, hor.out, hst.out], trivial⟩
        case measure => simp [intOf]; omega
      · have hqb : (q == party) = false := by simpa using hq
        rw [if_neg hq, Nat.or_zero] at hst
        clear hq
        go_wp2_with fail
        go_roundw
        case rel => exact ⟨k + 1, by omega, by go_num, by rw [hst.out], trivial⟩
        case measure => simp [intOf]; omega
    · obtain rfl : k = fr.length := by omega
      go_wp2_with fail
      go_ret
      exact ⟨rfl, rfl⟩
end Go.Proofs.Ytjdhnhfglpogmaa.P
