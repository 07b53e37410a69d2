/- Layer 6: DigestNumbers: its walk, by hand, and what it computes. -/
import Derived.Test.YtolgpnbjjehdiaaDoorPd2
import Derived.Test.YtolgpnbjjehdiaaDoorPd4
import Derived.Test.YtolgpnbjjehdiaaDoorXhead6
import Derived.Lib.ConvBytes
import Derived.Test.YtolgpnbjjehdiaaDoorPx4
set_option linter.unusedSimpArgs false
set_option linter.unusedVariables false
namespace Go.Proofs.YtolgpnbjjehdiaaDoor.P
open Go Go.RowKit Go.Proofs.YtolgpnbjjehdiaaDoorW.PrintWords Go.Proofs.YtolgpnbjjehdiaaDoorW.PrintLast Go.Proofs.YtolgpnbjjehdiaaDoorW.PrintMore

theorem bytes_below {w W : World} (h : Below w.heap.size w W) (s : ByteArray) : Below w.heap.size w (Lib.bytesWorld W 5 s) :=
  below_step h ⟨rfl, rfl, rfl, by rw [Lib.bytesWorld_size]; omega, fun j hj => Lib.bytesWorld_at_old W 5 s j hj⟩
theorem sumC_str {W : World} {s : ByteArray} {k : Nat} {r : Int} (hl : s.size ≤ 1000000) (h : digest_Sum.f k (bytesOf s) = some r) :
    Calls Tryd.prog 11 #[.slice (some ⟨W.heap.size, 0, none⟩) s.size (grownCap W s.size 0 5)] (Lib.bytesWorld W 5 s) fun e w' => e = .returned (.int .u64 r) ∧ Drawn0 (Lib.bytesWorld W 5 s) w' := by
  have hbl := bytesOf_length s
  have hC : Kd.C (Kd.int .u8) (Lib.bytesWorld W 5 s) (some ⟨W.heap.size, 0, none⟩) (bytesOf s).length (bytesOf s) := by
    refine ⟨rfl, by omega, fun _ => ⟨_, rfl, fun j p hp => ⟨[.int .u8 p], rfl, rfl, fun i u hu => ?_⟩⟩⟩
    have hj := (List.getElem?_eq_some_iff.1 hp).1
    have hi : i = 0 := by
      have := (List.getElem?_eq_some_iff.1 hu).1
      simp at this; exact this
    subst hi
    simp at hu
    subst hu
    rw [add_plain]
    have h2 := Lib.bytesWorld_cell W 5 s j (by omega)
    have e1 : (Kd.int .u8).sz = 1 := rfl
    rw [e1, show j * 1 + 0 = j by omega, h2]
    congr 1
    congr 1
    unfold bytesOf at hp
    rw [List.getElem?_map] at hp
    obtain ⟨b, hb, rfl⟩ := Option.map_eq_some_iff.1 hp
    rw [List.getD_eq_getElem?_getD, hb]
    rfl
  have h3 := digest_Sum.calls k _ (grownCap W s.size 0 5) (bytesOf s) r _ hC (by rw [hbl]; exact grownCap_ge _ _ _ _) h
  rwa [hbl] at h3
theorem conv_run (W : World) (s : ByteArray) : (convert 9 22 (.string s)).run Tryd.prog W = .ok (.slice (some ⟨W.heap.size, 0, none⟩) s.size (grownCap W s.size 0 5)) (Lib.bytesWorld W 5 s) :=
  Lib.run_convert_string_bytes W 9 22 5 s Tryd.underlying9 Tryd.underlying22 Tryd.underlying5
theorem infoN : (Tryd.prog.info? 3).map (fun i => (i.zero, i.size, i.bytes)) = some (some (.int .i64 0), 1, 8) := by kernel_rfl
theorem ints_f (l : List Int) (hl : l.length ≤ 1000000) (hok : ∀ x ∈ l, okInt x = true) : digest_Ints.f l = some (sumB (txt l)) := by
  unfold digest_Ints.f
  rw [if_pos ⟨List.all_eq_true.2 hok, by omega⟩]
theorem decF_B : ∀ (k n : Nat), ∀ x ∈ decF k n, isB x
  | 0, n, x, h => by
    simp only [decF, List.mem_singleton] at h
    subst h
    exact ⟨by omega, by omega⟩
  | k + 1, n, x, h => by
    simp only [decF] at h
    split at h
    · rw [List.mem_singleton] at h
      subst h
      exact ⟨by omega, by omega⟩
    · rcases List.mem_append.1 h with h | h
      · exact decF_B k _ x h
      · rw [List.mem_singleton] at h
        subst h
        exact ⟨by omega, by omega⟩
theorem txt_B (l : List Int) : ∀ x ∈ txt l, isB x := by
  intro x hx
  unfold txt at hx
  obtain ⟨n, _, hx⟩ := List.mem_flatMap.1 hx
  rcases List.mem_append.1 hx with hx | hx
  · unfold digTxt at hx
    split at hx
    · rcases List.mem_cons.1 hx with rfl | hx
      · exact ⟨by omega, by omega⟩
      · exact decF_B _ _ x hx
    · exact decF_B _ _ x hx
  · rw [List.mem_singleton] at hx
    subst hx
    exact ⟨by omega, by omega⟩
/-- A number from 0 on: its other digits, and its last one. -/
theorem dig_split (x : Int) (h : 0 ≤ x) : digTxt x = (if x.toNat < 10 then [] else decF 19 (x.toNat / 10)) ++ [48 + x % 10] := by
  unfold digTxt
  rw [if_neg (by omega)]
  show decF (19 + 1) x.toNat = _
  simp only [decF]
  by_cases h1 : x.toNat < 10
  · rw [if_pos h1, if_pos h1, List.nil_append, show ((x.toNat : Nat) : Int) = x % 10 from by omega]
  · rw [if_neg h1, if_neg h1, show ((x.toNat % 10 : Nat) : Int) = x % 10 from by omega]
theorem sumB_mid (a b : List Int) (y y' : Int) (hb : ∀ x ∈ b, isB x) (hy : isB y) (hy' : isB y') (hne : y' ≠ y) : sumB (a ++ y' :: b) ≠ sumB (a ++ y :: b) := by
  intro h
  rw [sumB_append, sumB_append, List.foldl_cons, List.foldl_cons] at h
  exact hne (stepB_inj' (sumB_range _) hy' hy (fold_inj _ hb _ _ (stepB_range _ _) (stepB_range _ _) h))
/-- Another last digit: another digest. -/
theorem last_digit (a b : List Int) (x d : Int) (hx : 0 ≤ x) (hd : 0 ≤ d) (hd1 : d < 10) (hne : ¬ x % 10 = d) : sumB (txt (a ++ (x - x % 10 + d) :: b)) ≠ sumB (txt (a ++ x :: b)) := by
  have ht : ∀ y, txt (a ++ y :: b) = txt a ++ (digTxt y ++ (32 :: txt b)) := by
    intro y
    rw [txt_append]
    simp [txt]
  rw [ht, ht, dig_split x hx, dig_split (x - x % 10 + d) (by omega), show (x - x % 10 + d).toNat / 10 = x.toNat / 10 from by omega, show (x - x % 10 + d) % 10 = d from by omega]
  have hp : (if (x - x % 10 + d).toNat < 10 then ([] : List Int) else decF 19 (x.toNat / 10)) = if x.toNat < 10 then [] else decF 19 (x.toNat / 10) := by
    by_cases h1 : x.toNat < 10
    · rw [if_pos h1, if_pos (by omega)]
    · rw [if_neg h1, if_neg (by omega)]
  rw [hp]
  generalize (if x.toNat < 10 then ([] : List Int) else decF 19 (x.toNat / 10)) = p
  have e : ∀ y : Int, txt a ++ (p ++ [y] ++ 32 :: txt b) = (txt a ++ p) ++ y :: (32 :: txt b) := by intro y; simp
  rw [e, e]
  refine sumB_mid _ _ _ _ (fun z hz => ?_) ⟨by omega, by omega⟩ ⟨by omega, by omega⟩ (by omega)
  rcases List.mem_cons.1 hz with rfl | hz
  · exact ⟨by omega, by omega⟩
  · exact txt_B b z hz
theorem last_set (l : List Int) (i : Nat) (hi : i < l.length) (x d : Int) (hxe : x = rd l (i : Int)) (hx : 0 ≤ x) (hd : 0 ≤ d) (hd1 : d < 10) (hne : ¬ x % 10 = d) : sumB (txt (l.set i (x - x % 10 + d))) ≠ sumB (txt l) := by
  have e1 : l.set i (x - x % 10 + d) = l.take i ++ (x - x % 10 + d) :: l.drop (i + 1) := List.set_eq_take_append_cons_drop .. |>.trans (by rw [if_pos hi])
  have e2 : l = l.take i ++ x :: l.drop (i + 1) := by rw [hxe, rd_get hi, List.getElem_cons_drop, List.take_append_drop]
  have h := last_digit (l.take i) (l.drop (i + 1)) x d hx hd hd1 hne
  rw [← e1, ← e2] at h
  exact h
set_option maxRecDepth 100000 in
set_option maxHeartbeats 4000000 in
theorem numbers_calls (A0 : Option Addr) (c0 : Nat) (l : List Int) (at_ dg : Int) (w : World) (hr0 : Kd.C (Kd.int .i64) w A0 l.length l) (hc0 : l.length ≤ c0) (hT : TabOk w) (hok : ∀ x ∈ l, okInt x = true) (hd : 0 ≤ dg ∧ dg < 256) :
    Calls Tryd.prog 5 #[.slice A0 l.length c0, .int .i64 at_, .int .u8 dg] w fun e w' => e = .returned (.bool true) ∧ Below w.heap.size w w' := by
  have HR0 := Lib.hid hr0
  have HC0 := Lib.hid hc0
  have HT := Lib.hid hT
  have HOK := Lib.hid hok
  have HD := Lib.hid (cohousinglaw06_head.calls true w hT rfl)
  clear hr0 hc0 hT hok
  by_cases h100 : l.length > 100
  · have e1 : decide (100 < (l.length : Int)) = true := decide_eq_true (by omega)
    have e2 : decide (100 < l.length) = true := decide_eq_true (by omega)
    clear h100
    go_enter Tryd.func5, Tryd.ntmps5
    go_wp2_with fail
    refine HD.out.mono ?_
    rintro e w1 ⟨rfl, hb1⟩
    go_wp2_with fail
    go_ret
    exact ⟨rfl, hb1⟩
  · have e1 : decide (100 < (l.length : Int)) = false := decide_eq_false (by omega)
    have e2 : decide (100 < l.length) = false := decide_eq_false (by omega)
    have hl : l.length ≤ 100 := by omega
    have HI := Lib.hid (ints_f l (by omega) HOK.out)
    have hxl := Lib.hid (txt_len l)
    clear h100
    go_enter Tryd.func5, Tryd.ntmps5
    go_wp2_with fail
    refine HD.out.mono ?_
    rintro e w1 ⟨rfl, hb1⟩
    have HB1 := Lib.hid hb1
    clear hb1
    go_wp2_with fail
    go_loopw [8, 22] (fun sv iv wr => ∃ (j : Nat) (s : ByteArray), j ≤ l.length ∧ sv = .string s ∧ iv = .int .i64 (j : Int) ∧ Hid (bytesOf s = txt (l.take j)) ∧ Below w.heap.size w wr) (fun _ iv _ => l.length - (intOf iv).toNat)
    case atStart => exact ⟨0, ⟨#[]⟩, Nat.zero_le _, rfl, rfl, rfl, HB1.out⟩
    case round =>
      obtain ⟨j, s, hj, rfl, rfl, hs, hBr⟩ := hrel
      by_cases hlt : j < l.length
      · obtain ⟨ad, eA, hx0⟩ := Kd.at_int HR0.out (j : Int) (by omega) (by omega)
        cases eA
        simp only [Int.toNat_natCast] at hx0
        replace hx0 := (hBr.cell (World.block_lt_of_cell? w _ hx0)).trans hx0
        obtain ⟨t, ht1, ht2, ht3⟩ := decimal_dig 30 (rd l (j : Int)) (by omega) (HOK.out _ (rd_mem hlt))
        have HTX : Hid (bytesOf (s ++ (t ++ ⟨#[32]⟩)) = txt (l.take (j + 1))) := by
          unfold Hid
          rw [bytesOf_append, bytesOf_append, hs.out, ht2, txt_take hlt, List.append_assoc]
          rfl
        have hss : s.size ≤ 2300 := by
          have h1 := bytesOf_length s
          rw [hs.out] at h1
          have h2 := txt_len (l.take j)
          rw [List.length_take] at h2
          omega
        have hta : (t ++ (⟨#[32]⟩ : ByteArray)).size = t.size + 1 := by rw [ByteArray.size_append]; rfl
        have hq1 : (9223372036854775807 < t.size + 1) = False := eq_false (by omega)
        have hq2 : (9223372036854775807 < s.size + (t ++ (⟨#[32]⟩ : ByteArray)).size) = False := eq_false (by omega)
        have hq3 : (9223372036854775807 < s.size + (t.size + 1)) = False := eq_false (by omega)
        have HT1 := Lib.hid ht1
        clear hss hta
        have HBr := Lib.hid hBr
        clear ht1 ht2 ht3 hs hBr
        generalize rd l (j : Int) = x at *
        go_wp2_with fail
        refine (cohousingref06_Decimal.calls 30 _ t _ HT1.out).mono ?_
        rintro e w2 ⟨rfl, hb2⟩
        go_wp2_with fail
        go_roundw
        case rel => exact ⟨j + 1, _, by omega, rfl, by go_num, HTX, below_step HBr.out hb2⟩
        case measure => simp [intOf]; omega
      · obtain rfl : j = l.length := by omega
        have hst : bytesOf s = txt l := by rw [hs.out, List.take_length]
        have hsz := bytesOf_length s
        rw [hst] at hsz
        have hsz2 : s.size ≤ 1000000 := by have := hxl.out; omega
        have HS := Lib.hid (sum_f (bytesOf s) (by rw [hst]; have := hxl.out; omega) 4000 (by rw [hst]; have := hxl.out; omega))
        rw [hst] at HS
        have HST := Lib.hid hst
        have HSZ := Lib.hid hsz2
        have HBr := Lib.hid hBr
        clear hst hsz hsz2 hs hBr
        have hcv : ∀ W : World, (convert 9 22 (.string s)).run Tryd.prog W = .ok (.slice (some ⟨W.heap.size, 0, none⟩) s.size (grownCap W s.size 0 5)) (Lib.bytesWorld W 5 s) := fun W => conv_run W s
        have hzz : (sumB (txt l) == sumB (txt l)) = true := beq_self_eq_true _
        generalize hz : sumB (txt l) = z at *
        go_wp2_with fail
        refine (digest_Ints.calls A0 c0 l z _ (Kd.C_below HR0.out HBr.out) HC0.out (TabOk.below HT.out HBr.out) HI.out).mono ?_
        rintro e w2 ⟨rfl, hb2⟩
        have HB2 := Lib.hid (below_step HBr.out hb2)
        clear hb2
        go_wp2_with fail
        refine (sumC_str HSZ.out (k := 4000) (r := z) (by rw [HST.out]; exact HS.out)).mono ?_
        rintro e w3 ⟨rfl, hd3⟩
        have HB3 := Lib.hid (below_step (bytes_below HB2.out _) hd3.below)
        clear hd3
        by_cases h0 : l.length = 0
        · have e3 : ((l.length : Int) == 0) = true := by rw [h0]; rfl
          clear h0
          go_wp2_with fail
          go_ret
          exact ⟨rfl, HB3.out⟩
        · obtain ⟨i, hi, hie⟩ := idx_mod at_ l.length (by omega) (by omega)
          have e3 : ((l.length : Int) == 0) = false := by rw [beq_eq_false_iff_ne]; omega
          obtain ⟨ad, eA, hx0⟩ := Kd.at_int HR0.out (i : Int) (by omega) (by omega)
          cases eA
          simp only [Int.toNat_natCast] at hx0
          replace hx0 := (HB3.out.cell (World.block_lt_of_cell? w _ hx0)).trans hx0
          obtain ⟨x, hx⟩ : ∃ x, x = rd l (i : Int) := ⟨_, rfl⟩
          rw [← hx] at hx0
          have HX := Lib.hid hx
          clear hx
          have hd0 := hd.1
          have hd1 := hd.2
          clear h0 hxl
          by_cases g1 : x < 0
          · have b1 : decide (x < 0) = true := decide_eq_true g1
            clear g1
            go_wp2_with fail
            go_ret
            exact ⟨rfl, HB3.out⟩
          by_cases g2 : 4611686018427387904 < x
          · have b1 : decide (x < 0) = false := decide_eq_false g1
            have b2 : decide (4611686018427387904 < x) = true := decide_eq_true g2
            clear g1 g2
            go_wp2_with fail
            go_ret
            exact ⟨rfl, HB3.out⟩
          have b1 : decide (x < 0) = false := decide_eq_false g1
          have b2 : decide (4611686018427387904 < x) = false := decide_eq_false g2
          have ht : Int.tmod x 10 = x % 10 := Int.tmod_eq_emod_of_nonneg (by omega)
          by_cases g3 : x % 10 = dg % 10
          · have b3 : (Int.tmod x 10 == dg % 10) = true := by rw [ht, beq_iff_eq]; exact g3
            have b3' : (x % 10 == dg % 10) = true := by rw [beq_iff_eq]; exact g3
            clear g1 g2 g3
            go_wp2_with fail
            go_ret
            exact ⟨rfl, HB3.out⟩
          have b3 : (Int.tmod x 10 == dg % 10) = false := by rw [ht, beq_eq_false_iff_ne]; exact g3
          have b3' : (x % 10 == dg % 10) = false := by rw [beq_eq_false_iff_ne]; exact g3
          have G := Lib.hid (And.intro g1 (And.intro g2 g3))
          clear g1 g2 g3
          have hi63 : (i : Int) < (l.length : Int) := by omega
          go_wp2_with (first | ((with_reducible refine gate_dst (N := 75) rfl ?_); refine Kd.R_lit (Kd.int .i64) _ 3 ?hg (N := 75) ?hd (xs := ([] : List Int)) (inner := []) (ok := fun _ => True) (okp := fun _ => True) ?hr ?hp (fun _ hk => hk) trivial (Below.refl _ _) (Nat.le_refl _) (by simp) ?_; (case hd => rfl); (case hg => rfl); (case hr => first | (go_simp; done) | (go_simp; rfl)); (case hp => exact (Reps.none _ _)); intro v4 w4 ho4 hb4 hg_ hnew_; clear hg_ hnew_; have HO4 := Lib.hid (Kd.R_lower ho4 (below_size HB3.out)); have HB4 := Lib.hid (below_step HB3.out hb4); clear ho4 hb4) | ((with_reducible refine gate_builtin (b := .append) (xs := #[.tmp 75, .tmp 76]) rfl ?_); at_builtin; refine Kd.R_append_rows (Kd.int .i64) (w0 := w) w.heap.size rfl (.tmp 75) (.tmp 76) 23 3 (.int .i64 0) 8 rfl Tryd.underlying23 infoN rfl (by decide) (by omega) v4 [] l _ _ _ (fun _ => True) (fun _ => False) rfl rfl ?aO ?aR (fun _ _ h => h) (fun _ h => h.elim) ?aF ?aB ?aS ?aL ?_; (case aR => exact Kd.C_below HR0.out HB4.out); (case aB => exact HB4.out); (case aF => exact fun _ _ => trivial); (case aO => exact HO4.out); (case aS => exact below_size HB4.out); (case aL => simp only [List.length_nil]; omega); intro v5 w5 ho hb hg_ hat_; clear hg_ hat_; rw [List.nil_append] at ho; obtain ⟨go, co, eo, gb, gl, cl, HG⟩ := Kd.R_form ho (by omega); subst eo; clear HG; obtain ⟨hy0, hf0⟩ := Kd.R_celln 0 ho (i : Int) (by omega) hi63; simp only [Int.toNat_natCast] at hy0 hf0; have HO5 := Lib.hid ho; have HB5 := Lib.hid hb; have GB := Lib.hid gb; clear ho hb gb gl))
          obtain ⟨g1, g2, g3⟩ := G.out
          have hm : wrap64 (wrap64 (x - x % 10) + dg % 10) = x - x % 10 + dg % 10 := by
            rw [wrap_id (a := x - x % 10) (by omega) (by omega), wrap_id (by omega) (by omega)]
          rw [hm]
          have hne := last_set l i hi x (dg % 10) HX.out (by omega) (by omega) (by omega) g3
          rw [hz] at hne
          have HP := Kd.R_putn HO5.out (i : Int) (x - x % 10 + dg % 10)
          simp only [Int.toNat_natCast] at HP
          have HB6 := Lib.hid (below_set (j := i) (v := .int .i64 (x - x % 10 + dg % 10)) HB5.out GB.out)
          have hokm : ∀ y ∈ l.set i (x - x % 10 + dg % 10), okInt y = true := by
            intro y hy
            rcases List.mem_or_eq_of_mem_set hy with hy | rfl
            · exact HOK.out y hy
            · simp only [okInt, Bool.and_eq_true, decide_eq_true_eq]
              omega
          have hI2 := ints_f (l.set i (x - x % 10 + dg % 10)) (by rw [List.length_set]; omega) hokm
          have hlen : (l.set i (x - x % 10 + dg % 10)).length = l.length := List.length_set
          generalize l.set i (x - x % 10 + dg % 10) = l2 at *
          generalize hz2 : sumB (txt l2) = z2 at *
          have hzz2 : (z2 == z) = false := by rw [beq_eq_false_iff_ne]; exact hne
          have hzz3 : (z2 != z) = true := by rw [bne_iff_ne]; exact hne
          have hcall := digest_Ints.calls (some ⟨go, 0, none⟩) co l2 z2 (w5.setCell ⟨go, i, none⟩ (.int .i64 (x - x % 10 + dg % 10))) (Kd.R_reads' HP).2.2 (by rw [hlen]; exact (Kd.R_reads' HP).2.1) (TabOk.below HT.out HB6.out) hI2
          rw [hlen] at hcall
          refine hcall.mono ?_
          rintro e w7 ⟨rfl, hb7⟩
          have HB7 := Lib.hid (below_step HB6.out hb7)
          clear hcall hI2 hokm HP hb7 hne hz2 hlen hm g1 g2 g3 G
          go_wp2_with fail
          refine (digest_Ints.calls (some ad) c0 l z _ (Kd.C_below HR0.out HB7.out) HC0.out (TabOk.below HT.out HB7.out) HI.out).mono ?_
          rintro e w8 ⟨rfl, hb8⟩
          have HB8 := Lib.hid (below_step HB7.out hb8)
          clear hb8
          go_wp2_with fail
          go_ret
          exact ⟨rfl, HB8.out⟩
/-- The law's answer, as far as its walk tells. -/
def cohousinglaw06_DigestNumbers.f (k : Nat) (l0 : List Int) (a1 a2 : Int) : Option Bool := if l0.all okInt = true ∧ 0 ≤ a2 ∧ a2 < 256 then some true else none
theorem cohousinglaw06_DigestNumbers.calls (k : Nat) (A0 : Option Addr) (c0 : Nat) (l0 : List Int) (a1 a2 : Int) (r : Bool) (w : World) (hr0 : Kd.C (Kd.int .i64) w A0 l0.length l0) (hc0 : l0.length ≤ c0) (hT : TabOk w) (h : cohousinglaw06_DigestNumbers.f k l0 a1 a2 = some r) :
    Calls Tryd.prog 5 #[.slice A0 l0.length c0, .int .i64 a1, .int .u8 a2] w fun e w' => e = .returned (.bool r) ∧ Below w.heap.size w w' := by
  unfold cohousinglaw06_DigestNumbers.f at h
  by_cases hx : l0.all okInt = true ∧ 0 ≤ a2 ∧ a2 < 256
  · rw [if_pos hx] at h
    obtain rfl := Option.some.inj h
    exact numbers_calls A0 c0 l0 a1 a2 w hr0 hc0 hT (List.all_eq_true.1 hx.1) hx.2
  · rw [if_neg hx] at h
    cases h
theorem numbers_ev (l : List Int) (at_ dg : Int) (hok : ∀ x ∈ l, okInt x = true) (hd : isB dg) : ∃ K, ∀ k, K ≤ k → cohousinglaw06_DigestNumbers.f k l at_ dg = some true :=
  ⟨0, fun _ _ => if_pos ⟨List.all_eq_true.2 hok, hd⟩⟩
theorem wf_i64 {a : Int} (h : (Lit.int .i64 a).wf = true) : okInt a = true := by
  simp [Lit.wf, IntKind.min, IntKind.max, IntKind.bits, IntKind.signed] at h
  simp only [okInt, Bool.and_eq_true, decide_eq_true_eq]
  omega
end Go.Proofs.YtolgpnbjjehdiaaDoor.P
