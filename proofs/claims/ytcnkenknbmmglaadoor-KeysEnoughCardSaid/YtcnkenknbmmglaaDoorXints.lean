/- digest.Ints: the digest of numbers in decimal digits, behind each a blank; strconv's table lies as laid. -/
import Derived.Test.YtcnkenknbmmglaaDoorGen
import Derived.Test.YtcnkenknbmmglaaDoorPy1
import Derived.Test.YtcnkenknbmmglaaDoorShelf
set_option linter.unusedSimpArgs false
set_option linter.unusedVariables false
namespace Go.Proofs.YtcnkenknbmmglaaDoor.P
open Go Go.RowKit Go.Proofs.YtcnkenknbmmglaaDoorW.PrintWords Go.Proofs.YtcnkenknbmmglaaDoorW.PrintLast Go.Proofs.YtcnkenknbmmglaaDoorW.PrintMore

/-- strconv's table of powers of ten lies as laid. -/
def TabOk (w : World) : Prop := Lib.TabIs Tryd.prog w "internal/strconv.uint64pow10" .u64 Lib.pow10Tab
theorem TabOk.below {w w' : World} (h : TabOk w) (hb : Below w.heap.size w w') : TabOk w' := Lib.tabBelow_of_tabIs h w' hb

/-- A number from 0 on in decimal digits. -/
def decF : Nat → Nat → List Int
  | 0, n => [48 + ((n % 10 : Nat) : Int)]
  | k + 1, n => if n < 10 then [48 + (n : Int)] else decF k (n / 10) ++ [48 + ((n % 10 : Nat) : Int)]
/-- A number in decimal digits. -/
def digTxt (n : Int) : List Int := if n < 0 then 45 :: decF 20 n.natAbs else decF 20 n.toNat
/-- Numbers, behind each a blank. -/
def txt (l : List Int) : List Int := l.flatMap fun n => digTxt n ++ [32]
def stepB (h x : Int) : Int := IntKind.u64.wrap ((Go.bits .xor .u64 h (IntKind.u64.wrap x)) * 1099511628211)
/-- The digest of bytes. -/
def sumB (l : List Int) : Int := l.foldl stepB 14695981039346656037
def okInt (x : Int) : Bool := decide (-9223372036854775808 ≤ x) && decide (x ≤ 9223372036854775807)

theorem dec_txt : ∀ (k n : Nat), n < 10 ^ (k + 1) → (Lib.decDigits n).map (fun b => (b.toNat : Int)) = decF k n
  | 0, n, h => by
    have h10 : n < 10 := by simpa using h
    rw [Lib.decDigits, dif_pos h10]
    simp only [decF, List.map_cons, List.map_nil, Nat.mod_eq_of_lt h10]
    rw [UInt8.toNat_ofNat', Nat.mod_eq_of_lt (by omega)]
    simp
  | k + 1, n, h => by
    rw [Lib.decDigits]
    by_cases h10 : n < 10
    · rw [dif_pos h10, decF, if_pos h10]
      simp only [List.map_cons, List.map_nil]
      rw [UInt8.toNat_ofNat', Nat.mod_eq_of_lt (by omega)]
      simp
    · rw [dif_neg h10, decF, if_neg h10, List.map_append, dec_txt k (n / 10) (by rw [Nat.pow_succ] at h; omega)]
      simp only [List.map_cons, List.map_nil]
      rw [UInt8.toNat_ofNat', Nat.mod_eq_of_lt (by omega)]
      simp
theorem itoa_txt (n : Int) (h0 : -9223372036854775808 ≤ n) (h1 : n ≤ 9223372036854775807) : (Lib.itoa n).map (fun b => (b.toNat : Int)) = digTxt n := by
  unfold Lib.itoa digTxt
  split
  · rw [List.map_cons, dec_txt 20 _ (by omega)]
    rfl
  · rw [dec_txt 20 _ (by omega)]
theorem decF_len : ∀ (k n : Nat), (decF k n).length ≤ k + 1
  | 0, n => by simp [decF]
  | k + 1, n => by
    unfold decF
    split
    · simp
    · have := decF_len k (n / 10)
      simp only [List.length_append, List.length_cons, List.length_nil]
      omega
theorem digTxt_len (n : Int) : (digTxt n).length ≤ 22 := by
  unfold digTxt
  have h1 := decF_len 20 n.natAbs
  have h2 := decF_len 20 n.toNat
  split
  · simp only [List.length_cons]; omega
  · omega
theorem rd_mem {ps : List Int} {j : Nat} (h : j < ps.length) : rd ps j ∈ ps := by simp [rd, List.getD_eq_getElem?_getD, List.getElem?_eq_getElem h]
theorem txt_append (a b : List Int) : txt (a ++ b) = txt a ++ txt b := by simp [txt]
theorem txt_take {l : List Int} {k : Nat} (hk : k < l.length) : txt (l.take (k + 1)) = txt (l.take k) ++ digTxt (rd l k) ++ [32] := by
  rw [List.take_succ_eq_append_getElem hk, txt_append]
  simp [txt, rd, List.getD_eq_getElem?_getD, List.getElem?_eq_getElem hk]
theorem txt_len : ∀ (l : List Int), (txt l).length ≤ l.length * 23
  | [] => by simp [txt]
  | x :: l => by
    have h2 := digTxt_len x
    have h3 := txt_len l
    have e : txt (x :: l) = digTxt x ++ [32] ++ txt l := by simp [txt]
    rw [e]
    simp only [List.length_append, List.length_cons, List.length_nil]
    omega
theorem sum_loop (l : List Int) (hl : l.length < 9223372036854775807) : ∀ d i, l.length - i = d → i ≤ l.length → Ev (fun k => Y.digest_Sum.l0 k (sumB (l.take i)) l (l.length : Int) (i : Nat)) (sumB l) := by
  intro d
  induction d with
  | zero =>
    intro i hd hi
    obtain rfl : i = l.length := by omega
    refine Ev.ret fun k => ?_
    simp only [Y.digest_Sum.l0]
    rw [if_neg (by omega), List.take_length]
  | succ d ih =>
    intro i hd hi
    have h2 := ih (i + 1) (by omega) (by omega)
    refine Ev.step (fun k => ?_) h2
    simp only [Y.digest_Sum.l0]
    rw [if_pos (by omega), if_pos (by omega), if_pos (by omega)]
    have e : sumB (l.take (i + 1)) = IntKind.u64.wrap ((Go.bits .xor .u64 (sumB (l.take i)) (IntKind.u64.wrap (rd l (i : Nat)))) * 1099511628211) := by
      rw [List.take_succ_eq_append_getElem (show i < l.length by omega)]
      unfold sumB
      rw [List.foldl_append]
      simp [stepB, rd, List.getD_eq_getElem?_getD, List.getElem?_eq_getElem (show i < l.length by omega)]
    rw [e, wrapN i (by omega)]
theorem sum_ev (l : List Int) (hl : l.length < 9223372036854775807) : Ev (fun k => Y.digest_Sum.f k l) (sumB l) := by
  have h := sum_loop l hl l.length 0 (by omega) (by omega)
  exact h

theorem info_u8 : (Tryd.prog.info? 5).map (fun i => (i.zero, i.size, i.bytes)) = some (some (.int .u8 0), 1, 1) := by kernel_rfl
theorem cells_txt (n : Int) (h0 : -9223372036854775808 ≤ n) (h1 : n ≤ 9223372036854775807) : Lib.byteCells (Lib.itoa n) = encs (Value.int .u8) (digTxt n) := by
  rw [← itoa_txt n h0 h1]
  simp [Lib.byteCells, encs]
set_option maxRecDepth 100000 in
set_option maxHeartbeats 1000000 in
theorem ints_calls (A0 : Option Addr) (c0 : Nat) (l0 : List Int) (w : World) (hr0 : Kd.C (Kd.int .i64) w A0 l0.length l0) (hT : TabOk w) (hok : ∀ x ∈ l0, okInt x = true) (hlen : l0.length * 23 ≤ 140737488355000) :
    Calls Tryd.prog 69 #[.slice A0 l0.length c0] w fun e w' => e = .returned (.int .u64 (sumB (txt l0))) ∧ Below w.heap.size w w' := by
  have HR0 := Lib.hid hr0
  have HT := Lib.hid hT
  have HOK := Lib.hid hok
  have hu63 := Tryd.underlying92
  have HA := Lib.hid (fun (n : Nat) (i : Int) h0 h1 (v : Value) (xs : List Value) (W : World) => Any.strconv_AppendInt_10 Tryd.laysM176 w.heap.size n i h0 h1 v xs W)
  obtain ⟨ks, hks⟩ := (sum_ev (txt l0) (by have := txt_len l0; omega)).rounds
  have HS := Lib.hid (fun A c W => Y.digest_Sum.calls ks A c (txt l0) (sumB (txt l0)) W)
  have HKS := Lib.hid hks
  have HTL := Lib.hid (fun k => txt_len (l0.take k))
  clear hr0 hT hok hks
  go_enter Tryd.func69, Tryd.ntmps69
  go_wp2_with fail
  go_loopw [3, 8] (fun v i wr => ∃ (k : Nat), k ≤ l0.length ∧ i = .int .i64 k ∧ Kd.R (Kd.int .u8) 5 wr w.heap.size (fun _ => True) v (txt (l0.take k)) ∧ Below w.heap.size w wr) (fun _ i _ => l0.length - (intOf i).toNat)
  case atStart => exact ⟨0, Nat.zero_le _, rfl, Kd.R_nil _ _ _ _ _, Below.refl _ _⟩
  case round =>
    obtain ⟨k, hk, rfl, hR, hB⟩ := hrel
    by_cases hlt : k < l0.length
    · obtain ⟨ad, e, hx0⟩ := Kd.at_int HR0.out (k : Int) (by omega) (by omega)
      cases e
      simp only [Int.toNat_natCast] at hx0
      replace hx0 := (hB.cell (World.block_lt_of_cell? w _ hx0)).trans hx0
      have hmem := HOK.out (rd l0 k) (rd_mem hlt)
      simp only [okInt, Bool.and_eq_true, decide_eq_true_eq] at hmem
      have hl1 := HTL.out k
      have hl2 := HTL.out (k + 1)
      rw [List.length_take, Nat.min_eq_left (by omega)] at hl1 hl2
      rw [txt_take hlt] at hl2
      simp only [List.length_append, List.length_cons, List.length_nil] at hl2
      have hown := Kd.own_of_R hR
      have hcall := HA.out (txt (l0.take k)).length (rd l0 k) hmem.1 hmem.2 _ _ wr hown hB.size (by omega) ((Lib.tabBelow_of_tabIs HT.out).on hB)
      have HCALL := Lib.hid hcall
      clear hcall
      have htx := Lib.hid (cells_txt (rd l0 k) hmem.1 hmem.2)
      have htk := Lib.hid (txt_take hlt)
      go_wp2_with fail
      refine HCALL.out.mono ?_
      clear HCALL
      rintro e w2 ⟨v2, rfl, hown2, hb2, _⟩
      have hR2 : Kd.R (Kd.int .u8) 5 w2 w.heap.size (fun _ => True) v2 (txt (l0.take k) ++ digTxt (rd l0 k)) := Kd.R_of_own (by
        have e : (txt (l0.take k)).length + (Lib.itoa (rd l0 k)).length = (txt (l0.take k) ++ digTxt (rd l0 k)).length := by
          rw [List.length_append, ← itoa_txt _ hmem.1 hmem.2, List.length_map]
        rw [encs_append, ← htx.out, ← e]
        exact hown2) (fun _ _ => trivial)
      have hB2 := hB.trans hb2
      clear hown2 hown hb2 hB hR
      have hlx : (txt (l0.take k) ++ digTxt (rd l0 k)).length ≤ 140737488355000 := by rw [List.length_append]; omega
      generalize hX : txt (l0.take k) ++ digTxt (rd l0 k) = X at *
      clear hX hl1 hl2
      go_wp2_with (at_builtin; refine Kd.R_append (Kd.int .u8) (w0 := w) w.heap.size rfl (.tmp 14) (.tmp 15) 92 5 (.int .u8 0) 1 rfl Tryd.underlying92 info_u8 rfl (by decide) (by omega) _ X 32 [.int .u8 32] (fun _ => True) (fun _ => False) rfl (by first | rfl | go_simp) ?aP (fun _ hk => hk.elim) ?aF ?aO ?aB ?aS ?aL ?_; (case aP => exact rfl); (case aF => exact fun _ _ => trivial); (case aO => exact hR2); (case aB => exact hB2); (case aS => exact hB2.size); (case aL => omega); intro v3 w3 ho hb3 hg hat; have HK := Lib.hid (And.intro hb3 ho); clear hb3 ho hg hat)
      go_roundw
      case rel => exact ⟨k + 1, by omega, by go_num, by rw [htk.out]; exact HK.out.2, HK.out.1⟩
      case measure => simp [intOf]; omega
    · obtain rfl : k = l0.length := by omega
      rw [List.take_length] at hR
      obtain ⟨A, c, rfl, hle, hC⟩ := Kd.R_reads hR
      have hcall := Lib.hid (HS.out A c wr hC hle HKS.out)
      go_wp2_with fail
      refine hcall.out.mono ?_
      rintro e w2 ⟨rfl, hd⟩
      go_wp2_with fail
      go_ret
      exact ⟨rfl, below_step hB hd.below⟩
def digest_Ints.f (l0 : List Int) : Option (Int) := if l0.all okInt = true ∧ l0.length * 23 ≤ 140737488355000 then some (sumB (txt l0)) else none
theorem digest_Ints.calls (A0 : Option Addr) (c0 : Nat) (l0 : List Int) (r : Int) (w : World) (hr0 : Kd.C (Kd.int .i64) w A0 l0.length l0) (hc0 : l0.length ≤ c0) (hT : TabOk w) (h : digest_Ints.f l0 = some r) :
    Calls Tryd.prog 69 #[.slice A0 l0.length c0] w fun e w' => e = .returned (.int .u64 r) ∧ Below w.heap.size w w' := by
  unfold digest_Ints.f at h
  by_cases hx : l0.all okInt = true ∧ l0.length * 23 ≤ 140737488355000
  · rw [if_pos hx] at h
    obtain rfl := Option.some.inj h
    exact ints_calls A0 c0 l0 w hr0 hT (fun x hm => List.all_eq_true.1 hx.1 x hm) hx.2
  · rw [if_neg hx] at h
    cases h
end Go.Proofs.YtcnkenknbmmglaaDoor.P
