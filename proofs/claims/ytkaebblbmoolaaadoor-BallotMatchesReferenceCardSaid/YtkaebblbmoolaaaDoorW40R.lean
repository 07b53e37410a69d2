/- Chapter 40: BallotMatchesReference. -/
import Derived.Test.YtkaebblbmoolaaaDoorXhead40
import Derived.Test.YtkaebblbmoolaaaDoorXshufR
import Derived.Test.YtkaebblbmoolaaaDoorXchkR
import Derived.Test.YtkaebblbmoolaaaDoorPx10
import Derived.Test.YtkaebblbmoolaaaDoorPx8
import Derived.Test.YtkaebblbmoolaaaDoorXenc
import Derived.Test.YtkaebblbmoolaaaDoorPx1
set_option linter.unusedSimpArgs false
set_option linter.unusedVariables false
namespace Go.Proofs.YtkaebblbmoolaaaDoor.P
open Go Go.RowKit Go.Proofs.YtkaebblbmoolaaaDoorW.PrintWords Go.Proofs.YtkaebblbmoolaaaDoorW.PrintLast Go.Proofs.YtkaebblbmoolaaaDoorW.PrintMore Go.Proofs.YtkaebblbmoolaaaDoor.Ord
attribute [local go_sem ↓] Go.wp_at_zero Go.wp_at_succ
attribute [local go_sem high] eqA23

theorem sameR_l0 (a b : List S23) (l : List S53) (hl : l.length < 9223372036854775807) : ∀ (d i k : Nat), l.length - i = d → i ≤ l.length → d < k → cohousingref40_Same.l0 k (i : Nat) a b l a b l = some true
  | 0, i, k, hd, hi, hk => by
    obtain ⟨k, rfl⟩ : ∃ m, k = m + 1 := ⟨k - 1, by omega⟩
    simp only [cohousingref40_Same.l0]
    rw [if_neg (by omega)]
  | d + 1, i, k, hd, hi, hk => by
    obtain ⟨k, rfl⟩ : ∃ m, k = m + 1 := ⟨k - 1, by omega⟩
    have ih := sameR_l0 a b l hl d (i + 1) k (by omega) (by omega) (by omega)
    simp only [cohousingref40_Same.l0]
    rw [if_pos (by omega), if_pos (by omega), if_pos (by omega)]
    simp only [beq_self_eq_true, Bool.not_true, Bool.or_false, Bool.false_eq_true, if_false]
    rw [show wrap64 ((i : Int) + 1) = ((i + 1 : Nat) : Int) by unfold wrap64; omega]
    exact ih
theorem sameR_f (a b : List S23) (l : List S53) (ha : a.length < 9223372036854775807) (hb : b.length < 9223372036854775807) (hl : l.length < 9223372036854775807) (k : Nat) (hk : a.length + b.length + l.length + 1 < k) : cohousingref40_Same.f k a b l a b l = some true := by
  unfold cohousingref40_Same.f
  rw [sameC_f a ha k (by omega), sameC_f b hb k (by omega)]
  simp only [obs]
  obtain ⟨k, rfl⟩ : ∃ m, k = m + 1 := ⟨k - 1, by omega⟩
  rw [if_pos trivial, if_pos trivial]
  simp only [cohousingref40_Same.j0]
  rw [if_neg (by simp)]
  exact sameR_l0 a b l hl l.length 0 k (by omega) (by omega) (by omega)
set_option maxHeartbeats 4000000 in
set_option maxRecDepth 100000 in
theorem matches_walk (a0 a1 x y : Int) (A1 : Option Addr) (c1 : Nat) (l1 : List (S23)) (A2 : Option Addr) (c2 : Nat) (l2 : List Int) (A3 : Option Addr) (c3 : Nat) (l3 : List Int) (A4 : Option Addr) (c4 : Nat) (l4 : List Int) (A5 : Option Addr) (c5 : Nat) (l5 : List Int) (B0 : Option Addr) (d0 : Nat) (m0 : List S23) (B1 : Option Addr) (d1 : Nat) (m1 : List S23) (B2 : Option Addr) (d2 : Nat) (m2 : List S53) (w : World)
    (hr1 : Kd.C k23 w A1 l1.length l1) (hc1 : l1.length ≤ c1) (hr2 : Kd.C (Kd.int .i64) w A2 l2.length l2) (hc2 : l2.length ≤ c2) (hr3 : Kd.C (Kd.int .i64) w A3 l3.length l3) (hc3 : l3.length ≤ c3) (hr4 : Kd.C (Kd.int .i64) w A4 l4.length l4) (hc4 : l4.length ≤ c4) (hr5 : Kd.C (Kd.int .i64) w A5 l5.length l5) (hc5 : l5.length ≤ c5)
    (hs0 : Kd.C k23 w B0 m0.length m0) (hd0 : m0.length ≤ d0) (hs1 : Kd.C k23 w B1 m1.length m1) (hd1 : m1.length ≤ d1) (hs2 : Kd.C k53 w B2 m2.length m2) (hd2 : m2.length ≤ d2) (hT : TabOk w) (hlen : l1.length < 4611686018427387904) :
    Calls Tryd.prog 3 #[.int .i64 a0, .int .i64 a1, .agg #[.int .i64 x, .int .i64 y], .slice A1 l1.length c1, .slice A2 l2.length c2, .slice A3 l3.length c3, .slice A4 l4.length c4, .slice A5 l5.length c5, .agg #[.slice B0 m0.length d0, .slice B1 m1.length d1, .slice B2 m2.length d2]] w fun e w' => e = .returned (.bool true) ∧ Below w.heap.size w w' := by
  have HT := Lib.hid hT
  have HLN := Lib.hid hlen
  have HR := Lib.hid (And.intro hr1 (And.intro hr2 (And.intro hr3 (And.intro hr4 hr5))))
  have HC := Lib.hid (And.intro hc1 (And.intro hc2 (And.intro hc3 (And.intro hc4 hc5))))
  have HM := Lib.hid (And.intro hs0 (And.intro hs1 (And.intro hs2 (And.intro hd0 (And.intro hd1 hd2)))))
  clear hT hlen hr1 hr2 hr3 hr4 hr5 hc1 hc2 hc3 hc4 hc5 hs0 hs1 hs2 hd0 hd1 hd2
  go_enter Tryd.func3, Tryd.ntmps3
  go_wp2_with fail
  obtain ⟨hx1, hn1, hb1⟩ := Blk.box w 23 [Value.int .i64 x, Value.int .i64 y]
  rw [show (List.toArray [Value.int .i64 x, Value.int .i64 y]) = #[Value.int .i64 x, Value.int .i64 y] from rfl] at hx1 hn1 hb1
  generalize w.alloc (Obj.cells #[Value.int .i64 x, Value.int .i64 y] 23) = w1 at hx1 hn1 hb1 ⊢
  obtain ⟨hy2, hn2, hb2⟩ := Blk.box w1 28 [Value.slice B0 m0.length d0, Value.slice B1 m1.length d1, Value.slice B2 m2.length d2]
  rw [show (List.toArray [Value.slice B0 m0.length d0, Value.slice B1 m1.length d1, Value.slice B2 m2.length d2]) = #[Value.slice B0 m0.length d0, Value.slice B1 m1.length d1, Value.slice B2 m2.length d2] from rfl] at hy2 hn2 hb2
  have e1 : w1.heap.size = w.heap.size + 1 := hn1
  rw [e1] at hy2 hb2
  generalize w1.alloc (Obj.cells #[Value.slice B0 m0.length d0, Value.slice B1 m1.length d1, Value.slice B2 m2.length d2] 28) = w2 at hy2 hn2 hb2 ⊢
  have HB2 := Lib.hid (hb1.trans (Below.mono hb2 (by omega)))
  have HX2 := Lib.hid (And.intro (hx1.below hb2 (by omega)) (And.intro hy2 (show w.heap.size + 1 < w2.heap.size from hy2.lt)))
  clear hx1 hn1 hb1 hy2 hn2 hb2 e1
  refine (cohousinglaw40_head.calls true w2 (TabOk.below HT.out HB2.out) rfl).mono ?_
  rintro e w3 ⟨rfl, hb3⟩
  have HB3 := Lib.hid (HB2.out.trans (Below.mono hb3 HB2.out.size))
  have HX3 := Lib.hid (And.intro (HX2.out.1.below hb3 HX2.out.1.lt) (And.intro (HX2.out.2.1.below hb3 HX2.out.2.1.lt) (show w.heap.size + 1 < w3.heap.size by have := HX2.out.2.2; have := hb3.size; omega)))
  clear hb3 HB2 HX2
  have b0 := HX3.out.2.1.cell 0 _ rfl
  have b1 := HX3.out.2.1.cell 1 _ rfl
  have b2 := HX3.out.2.1.cell 2 _ rfl
  go_upto_region 2 with (fail)
  go_cut [78] (fun b wx => ∃ q : Bool, b = .bool q ∧ Hid (q = false → m0.length ≤ 8 ∧ m1.length ≤ 8 ∧ m2.length ≤ 8 ∧ l2.length ≤ 8 ∧ l3.length ≤ 8 ∧ l4.length ≤ 8 ∧ l5.length ≤ 8) ∧ wx = w3)
  case first =>
    as_aux_lemma =>
     go_wp2_with fail
     all_goals go_meet
     all_goals refine ⟨_, rfl, Lib.hid (fun hq => ?_), rfl⟩
     all_goals first | (exact absurd hq (by decide)) | omega | (simp only [Bool.or_eq_false_iff, decide_eq_false_iff_not] at hq; omega)
  case rest =>
    obtain ⟨q, rfl, hq, rfl⟩ := hcut
    rename World => w4
    cases q with
    | true =>
      go_wp2_with fail
      refine bodyPost_ret (results_tmp rfl _ _ _) rfl ?_
      exact ⟨rfl, HB3.out⟩
    | false =>
      have H8 := Lib.hid (hq.out rfl)
      clear hq
      go_upto_if 83 with (fail)
      go_cut [20] (fun b wx => ∃ kk : Int, b = .int .i64 kk ∧ wx = w4)
      case first =>
        by_cases h0 : l4.length = 0
        · go_wp2_with fail
          go_meet
          exact ⟨_, rfl, rfl⟩
        · obtain ⟨ad, rfl, hc⟩ := Kd.at_int (Kd.C_below HR.out.2.2.2.1 HB3.out) 0 (by omega) (by omega)
          have hc0 : w4.cell? ad = some (.int .i64 (rd l4 0)) := by
            have h := hc
            rw [show ad.add (0 : Int).toNat = ad from Addr.add_zero' ad] at h
            exact h
          clear hc
          have hl4 : (0 : Int) < (l4.length : Int) := by omega
          have hl5 : 0 < l4.length := by omega
          go_wp2_with fail
          go_meet
          exact ⟨_, rfl, rfl⟩
      case rest =>
        obtain ⟨kk, rfl, rfl⟩ := hcut
        rename World => w4
        go_wp2_with fail
        as_aux_lemma =>
         obtain ⟨g1, g2, g3, hg⟩ : ∃ g1 g2 g3, encV a0 a1 kk = (g1, g2, g3) := ⟨_, _, _, rfl⟩
         have HG := Lib.hid hg
         clear hg
         refine (ballot_Encrypt.calls a0 a1 kk g1 g2 g3 w4 (by rw [enc_f, HG.out])).mono ?_
         rintro e w5 ⟨rfl, hb5⟩
         have HB5 := Lib.hid (HB3.out.trans (Below.mono hb5 HB3.out.size))
         have HX5 := Lib.hid (And.intro (HX3.out.1.below hb5 HX3.out.1.lt) (And.intro (HX3.out.2.1.below hb5 HX3.out.2.1.lt) (show w.heap.size + 1 < w5.heap.size by have := HX3.out.2.2; have := hb5.size; omega)))
         clear hb5 HB3 HX3 b0 b1 b2
         go_wp2_with fail
         obtain ⟨hx6, hn6, hb6⟩ := Blk.box w5 23 [Value.int .i64 g1, Value.int .i64 g2]
         rw [show (List.toArray [Value.int .i64 g1, Value.int .i64 g2]) = #[Value.int .i64 g1, Value.int .i64 g2] from rfl] at hx6 hn6 hb6
         generalize w5.alloc (Obj.cells #[Value.int .i64 g1, Value.int .i64 g2] 23) = w6 at hx6 hn6 hb6 ⊢
         refine (cohousingref40_Encrypt.calls 100 a0 a1 kk g1 g2 g3 w6 (by rw [refEnc_f a0 a1 kk 100 (by omega), HG.out])).mono ?_
         rintro e w7 ⟨rfl, hb7⟩
         have hb57 := hb6.trans (Below.mono hb7 (by omega))
         have HB7 := Lib.hid (HB5.out.trans (Below.mono hb57 HB5.out.size))
         have HX7 := Lib.hid (And.intro (HX5.out.1.below hb57 HX5.out.1.lt) (And.intro (HX5.out.2.1.below hb57 HX5.out.2.1.lt) (And.intro (hx6.below hb7 hx6.lt) (show w.heap.size + 1 < w5.heap.size ∧ w5.heap.size < w7.heap.size by have := HX5.out.2.2; have := hb7.size; omega))))
         clear hx6 hn6 hb6 hb7 hb57 HB5 HX5
         go_wp2_with ((with_reducible refine gate_dst (N := 103) rfl ?_); refine Stop.out ?_)
         obtain ⟨hx8, hn8, hb8⟩ := Blk.box w7 23 [Value.int .i64 g1, Value.int .i64 g2]
         rw [show (List.toArray [Value.int .i64 g1, Value.int .i64 g2]) = #[Value.int .i64 g1, Value.int .i64 g2] from rfl] at hx8 hn8 hb8
         generalize w7.alloc (Obj.cells #[Value.int .i64 g1, Value.int .i64 g2] 23) = w8 at hx8 hn8 hb8 ⊢
         have HB8 := Lib.hid (HB7.out.trans (Below.mono hb8 HB7.out.size))
         have HX8 := Lib.hid (And.intro (HX7.out.1.below hb8 HX7.out.1.lt) (And.intro (HX7.out.2.1.below hb8 HX7.out.2.1.lt) (And.intro (HX7.out.2.2.1.below hb8 HX7.out.2.2.1.lt) (And.intro hx8 (show w.heap.size + 1 < w5.heap.size ∧ w5.heap.size < w7.heap.size ∧ w7.heap.size < w8.heap.size by have := HX7.out.2.2.2; omega)))))
         clear hx8 hn8 hb8 HB7 HX7
         have x0 := HX8.out.1.cell 0 _ rfl
         have x1 := HX8.out.1.cell 1 _ rfl
         have y0 := HX8.out.2.2.1.cell 0 _ rfl
         have y1 := HX8.out.2.2.1.cell 1 _ rfl
         have z0 := HX8.out.2.2.2.1.cell 0 _ rfl
         have z1 := HX8.out.2.2.2.1.cell 1 _ rfl
         refine ⟨?_⟩
         go_wp2_with fail
         obtain ⟨h1, h2, h3, hh⟩ : ∃ g1 g2 g3, againV a0 x y kk = (g1, g2, g3) := ⟨_, _, _, rfl⟩
         have HH := Lib.hid hh
         clear hh
         as_aux_lemma =>
          refine (ballot_Again.calls a0 x y kk h1 h2 h3 w8 (by rw [again_f, HH.out])).mono ?_
          rintro e w9 ⟨rfl, hb9⟩
          have HB9 := Lib.hid (HB8.out.trans (Below.mono hb9 HB8.out.size))
          have HX9 := Lib.hid (And.intro (HX8.out.1.below hb9 HX8.out.1.lt) (And.intro (HX8.out.2.1.below hb9 HX8.out.2.1.lt) (And.intro (HX8.out.2.2.1.below hb9 HX8.out.2.2.1.lt) (And.intro (HX8.out.2.2.2.1.below hb9 HX8.out.2.2.2.1.lt) (show w.heap.size + 1 < w5.heap.size ∧ w5.heap.size < w7.heap.size ∧ w7.heap.size < w9.heap.size by have := HX8.out.2.2.2.2; have := hb9.size; omega)))))
          clear hb9 HB8 HX8 x0 x1 y0 y1 z0 z1
          have f0 := HX9.out.2.2.1.frozen 0
          have f1 := HX9.out.2.2.1.frozen 1
          have y0 := HX9.out.2.2.1.cell 0 _ rfl
          have y1 := HX9.out.2.2.1.cell 1 _ rfl
          go_wp2_with ((with_reducible refine gate_dst (N := 121) rfl ?_); refine Stop.out ?_)
          have hq := HX9.out.2.2.2.2
          have hX10 := (HX9.out.1.other (B' := w5.heap.size) (by omega) 0 (.int .i64 h1)).other (B' := w5.heap.size) (by omega) 1 (.int .i64 h2)
          have hM10 := (HX9.out.2.1.other (B' := w5.heap.size) (by omega) 0 (.int .i64 h1)).other (B' := w5.heap.size) (by omega) 1 (.int .i64 h2)
          have hA10 := (HX9.out.2.2.1.set 0 (.int .i64 h1)).set 1 (.int .i64 h2)
          have hB10 := (HX9.out.2.2.2.1.other (B' := w5.heap.size) (by omega) 0 (.int .i64 h1)).other (B' := w5.heap.size) (by omega) 1 (.int .i64 h2)
          have hb10 := (HB9.out.setCell (p := ⟨w5.heap.size, 0, none⟩) (show w.heap.size ≤ w5.heap.size by omega) (.int .i64 h1)).setCell (p := ⟨w5.heap.size, 1, none⟩) (show w.heap.size ≤ w5.heap.size by omega) (.int .i64 h2)
          have hs10 : ((w9.setCell ⟨w5.heap.size, 0, none⟩ (.int .i64 h1)).setCell ⟨w5.heap.size, 1, none⟩ (.int .i64 h2)).heap.size = w9.heap.size := by rw [World.size_setCell, World.size_setCell]
          generalize (w9.setCell ⟨w5.heap.size, 0, none⟩ (.int .i64 h1)).setCell ⟨w5.heap.size, 1, none⟩ (.int .i64 h2) = w10 at hX10 hM10 hA10 hB10 hb10 hs10 ⊢
          have HX10 := Lib.hid (And.intro hX10 (And.intro hM10 (And.intro hA10 (And.intro hB10 (show w.heap.size + 1 < w5.heap.size ∧ w5.heap.size < w7.heap.size ∧ w7.heap.size < w10.heap.size by omega)))))
          have HB10 := Lib.hid hb10
          clear hq hX10 hM10 hA10 hB10 hb10 hs10 HX9 HB9 f0 f1 y0 y1
          have x0 := HX10.out.1.cell 0 _ rfl
          have x1 := HX10.out.1.cell 1 _ rfl
          refine ⟨?_⟩
          go_wp2_with fail
          refine (cohousingref40_Again.calls 100 a0 x y kk h1 h2 h3 w10 (by rw [refAgain_f a0 x y kk 100 (by omega), HH.out])).mono ?_
          rintro e w11 ⟨rfl, hb11⟩
          have HB11 := Lib.hid (HB10.out.trans (Below.mono hb11 HB10.out.size))
          have HX11 := Lib.hid (And.intro (HX10.out.2.1.below hb11 HX10.out.2.1.lt) (And.intro (HX10.out.2.2.1.below hb11 HX10.out.2.2.1.lt) (And.intro (HX10.out.2.2.2.1.below hb11 HX10.out.2.2.2.1.lt) (show w.heap.size + 1 < w5.heap.size ∧ w5.heap.size < w7.heap.size ∧ w7.heap.size < w11.heap.size by have := HX10.out.2.2.2.2; have := hb11.size; omega))))
          clear hb11 HB10 HX10 x0 x1
          have f0 := HX11.out.2.2.1.frozen 0
          have f1 := HX11.out.2.2.1.frozen 1
          have z0 := HX11.out.2.2.1.cell 0 _ rfl
          have z1 := HX11.out.2.2.1.cell 1 _ rfl
          go_wp2_with ((with_reducible refine gate_dst (N := 128) rfl ?_); refine Stop.out ?_)
          have hq := HX11.out.2.2.2
          have hM12 := (HX11.out.1.other (B' := w7.heap.size) (by omega) 0 (.int .i64 h1)).other (B' := w7.heap.size) (by omega) 1 (.int .i64 h2)
          have hA12 := (HX11.out.2.1.other (B' := w7.heap.size) (by omega) 0 (.int .i64 h1)).other (B' := w7.heap.size) (by omega) 1 (.int .i64 h2)
          have hB12 := (HX11.out.2.2.1.set 0 (.int .i64 h1)).set 1 (.int .i64 h2)
          have hb12 := (HB11.out.setCell (p := ⟨w7.heap.size, 0, none⟩) (show w.heap.size ≤ w7.heap.size by omega) (.int .i64 h1)).setCell (p := ⟨w7.heap.size, 1, none⟩) (show w.heap.size ≤ w7.heap.size by omega) (.int .i64 h2)
          have hs12 : ((w11.setCell ⟨w7.heap.size, 0, none⟩ (.int .i64 h1)).setCell ⟨w7.heap.size, 1, none⟩ (.int .i64 h2)).heap.size = w11.heap.size := by rw [World.size_setCell, World.size_setCell]
          generalize (w11.setCell ⟨w7.heap.size, 0, none⟩ (.int .i64 h1)).setCell ⟨w7.heap.size, 1, none⟩ (.int .i64 h2) = w12 at hM12 hA12 hB12 hb12 hs12 ⊢
          have y0 := hA12.cell 0 _ rfl
          have y1 := hA12.cell 1 _ rfl
          have z0 := hB12.cell 0 _ rfl
          have z1 := hB12.cell 1 _ rfl
          have e0 := hM12.cell 0 _ rfl
          have e1 := hM12.cell 1 _ rfl
          have HX12 := Lib.hid (And.intro hM12 (show w.heap.size + 1 < w12.heap.size by omega))
          have HB12 := Lib.hid hb12
          clear hq hM12 hA12 hB12 hb12 hs12 HX11 HB11 f0 f1
          refine ⟨?_⟩
          go_wp2_with fail
          obtain ⟨⟨bits, er⟩, hask⟩ : ∃ z, askV l1 m0 m1 = z := ⟨_, rfl⟩
          have hbl : bits.length < 4611686018427387904 := by
            have h := askV_cases l1 m0 m1
            rw [hask] at h
            rcases h with ⟨-, -, -, -, h⟩ | ⟨-, h⟩
            · have h2 : bits.length = l1.length := h
              have := HLN.out
              omega
            · have h2 : bits = [] := h
              rw [h2]
              decide
          have HBL := Lib.hid hbl
          have HASK := Lib.hid hask
          clear hask hbl
          as_aux_lemma =>
           refine (ballot_Asked.calls A1 c1 l1 B0 d0 m0 B1 d1 m1 bits er w12 (Kd.C_below HR.out.1 HB12.out) HC.out.1 (Kd.C_below HM.out.1 HB12.out) HM.out.2.2.2.1 (Kd.C_below HM.out.2.1 HB12.out) HM.out.2.2.2.2.1 (TabOk.below HT.out HB12.out) (by unfold ballot_Asked.f; rw [HASK.out])).mono ?_
           rintro e w13 ⟨v13, rfl, ho13, hb13⟩
           have HB13 := Lib.hid (HB12.out.trans (Below.mono hb13 HB12.out.size))
           have HX13 := Lib.hid (And.intro (HX12.out.1.below hb13 HX12.out.1.lt) (show w.heap.size + 1 < w13.heap.size by have := HX12.out.2; have := hb13.size; omega))
           have HO13 := Lib.hid ho13
           clear hb13 HB12 HX12 e0 e1 y0 y1 z0 z1 ho13
           have e0 := HX13.out.1.cell 0 _ rfl
           have e1 := HX13.out.1.cell 1 _ rfl
           go_wp2_with fail
           refine (cohousingref40_Asked.calls (l1.length + m0.length + m1.length + 100001) A1 c1 l1 B0 d0 m0 B1 d1 m1 bits er w13 (Kd.C_below HR.out.1 HB13.out) HC.out.1 (Kd.C_below HM.out.1 HB13.out) HM.out.2.2.2.1 (Kd.C_below HM.out.2.1 HB13.out) HM.out.2.2.2.2.1 (by rw [refAsked_f l1 m0 m1 (by have := HLN.out; omega) (by have := H8.out; omega) (by have := H8.out; omega) _ (by omega), HASK.out])).mono ?_
           rintro e w14 ⟨v14, rfl, ho14, hb14⟩
           have HB14 := Lib.hid (HB13.out.trans (Below.mono hb14 HB13.out.size))
           have HX14 := Lib.hid (And.intro (HX13.out.1.below hb14 HX13.out.1.lt) (show w.heap.size + 1 < w14.heap.size by have := HX13.out.2; have := hb14.size; omega))
           have ho13' := Kd.R_below HO13.out hb14
           obtain ⟨X13, n13, rfl, -, -⟩ := Kd.R_reads ho13'
           obtain ⟨X14, n14, rfl, -, -⟩ := Kd.R_reads ho14
           have HQ := Lib.hid (And.intro ho13' ho14)
           clear hb14 HB13 HX13 HO13 e0 e1 ho14 ho13'
           go_wp2_with fail
           as_aux_lemma =>
            go_loopw [167, 19, 27] (fun i u q wr => ∃ j : Nat, j ≤ bits.length ∧ i = .int .i64 j ∧ u = .bool true ∧ Hid (Below w14.heap.size w14 wr)) (fun i _ _ _ => bits.length - (intOf i).toNat)
            case atStart => exact ⟨0, Nat.zero_le _, rfl, rfl, Below.refl _ _⟩
            case round =>
              obtain ⟨j, hj, rfl, rfl, hB⟩ := hrel
              by_cases hlt : j < bits.length
              · obtain ⟨g, gc, hv, g1, g2, gcells, g3⟩ := Kd.R_form HQ.out.1 (by omega)
                obtain ⟨f, fc, hu, f1, f2, fcells, f3⟩ := Kd.R_form HQ.out.2 (by omega)
                cases hv
                cases hu
                have c13 := (Kd.R_celln false HQ.out.1 (j : Int) (by omega) (by omega)).1
                have c14 := (Kd.R_celln false HQ.out.2 (j : Int) (by omega) (by omega)).1
                rw [Int.toNat_natCast] at c13 c14
                obtain ⟨b, hb⟩ : ∃ b, rdOf false bits (j : Int) = b := ⟨_, rfl⟩
                rw [hb] at c13 c14
                have hS : ∀ W, Held (Below w14.heap.size w14) W → W.cell? ⟨g, j, none⟩ = some (.bool b) ∧ W.cell? ⟨f, j, none⟩ = some (.bool b) := fun W hW => by
                  have h1 : W.heap[g]? = w14.heap[g]? := hW.block g (Array.getElem?_eq_some_iff.1 g3).1
                  have h2 : W.heap[f]? = w14.heap[f]? := hW.block f (Array.getElem?_eq_some_iff.1 f3).1
                  have e1 : W.cell? ⟨g, j, none⟩ = w14.cell? ⟨g, j, none⟩ := by simp [World.cell?, h1]
                  have e2 : W.cell? ⟨f, j, none⟩ = w14.cell? ⟨f, j, none⟩ := by simp [World.cell?, h2]
                  exact ⟨e1.trans c13, e2.trans c14⟩
                have hj2 : (j : Int) < (bits.length : Int) := by omega
                clear c13 c14 hb g1 g2 g3 f1 f2 f3
                go_wp2_with fail
                refine wp_region_auto (Below w14.heap.size w14) ((0, none, none) :: (0, none, none) :: (0, some (171, true), none) :: (0, some (171, true), none) :: (0, some (171, true), none) :: (0, some (171, true), none) :: (0, some (171, true), none) :: (0, some (171, true), none) :: (0, some (171, true), none) :: (0, some (171, true), none) :: (0, some (171, true), none) :: (0, none, none) :: (0, none, none) :: []) (by kernel_rfl) (by kernel_rfl) (fun _ _ d _ _ h => by cases d <;> exact h) hB.out.drew ?_
                repeat' (first
                  | (with_reducible apply rel_pass
                     focus (intro W hW; first | (go_simp; exact rfl) | go_simp)
                     simp only [Act.put, List.setIfInBounds_toArray, List.set_cons_zero, List.set_cons_succ])
                  | (with_reducible apply rel_yes
                     focus (exact rfl))
                  | (with_reducible apply rel_no
                     focus (exact rfl)
                     simp only [Act.put, List.setIfInBounds_toArray, List.set_cons_zero, List.set_cons_succ])
                  | (with_reducible apply rel_askF
                     focus (exact rfl)
                     all_goals (intro hb; simp only [hb, Act.put, List.setIfInBounds_toArray, List.set_cons_zero, List.set_cons_succ]))
                  | (with_reducible apply rel_askT
                     focus (exact rfl)
                     all_goals (intro hb; simp only [hb, Act.put, List.setIfInBounds_toArray, List.set_cons_zero, List.set_cons_succ]))
                  | (with_reducible apply rel_front1)
                  | (with_reducible apply rel_front2)
                  | (with_reducible apply rel_front3)
                  | (with_reducible apply rel_front4)
                  | (with_reducible apply rel_front5)
                  | (with_reducible apply rel_front6))
                apply rel_nil
                simp only [Exit.then, Exit.inBlock]
                have HWJ := Lib.hid (show wrap64 ((j : Int) + 1) = ((j + 1 : Nat) : Int) by have := HBL.out; unfold wrap64; omega)
                clear hS
                go_wp2_with fail
                refine ⟨⟨j + 1, by omega, by first | rw [HWJ.out] | rfl, rfl, hB.out.drew⟩, ?_⟩
                try rw [HWJ.out]
                simp only [intOf, Int.toNat_natCast]
                omega
              · obtain rfl : j = bits.length := by omega
                have HB15 := Lib.hid (HB14.out.trans (Below.mono hB.out HB14.out.size))
                have HX15 := Lib.hid (And.intro (HX14.out.1.below hB.out HX14.out.1.lt) (show w.heap.size + 1 < wr.heap.size by have := HX14.out.2; have := hB.out.size; omega))
                clear hB hlt hj HB14 HX14 HQ
                rename World => w15
                go_wp2_with fail
                as_aux_lemma =>
                 obtain ⟨⟨s0, s1, s2, s3⟩, hsh⟩ : ∃ z, shufV a0 l1 l2 l3 l4 l5 = z := ⟨_, rfl⟩
                 have HSH := Lib.hid hsh
                 clear hsh
                 refine (shuf_calls a0 A1 c1 l1 A2 c2 l2 A3 c3 l3 A4 c4 l4 A5 c5 l5 w15 (Kd.C_below HR.out.1 HB15.out) HC.out.1 (Kd.C_below HR.out.2.1 HB15.out) HC.out.2.1 (Kd.C_below HR.out.2.2.1 HB15.out) HC.out.2.2.1 (Kd.C_below HR.out.2.2.2.1 HB15.out) HC.out.2.2.2.1 (Kd.C_below HR.out.2.2.2.2 HB15.out) HC.out.2.2.2.2 (TabOk.below HT.out HB15.out) (s0, s1, s2, s3) HSH.out).mono ?_
                 rintro e w16 ⟨v0, v1, v2, rfl, o0, o1, o2, hb16⟩
                 simp only at o0 o1 o2 ⊢
                 have HB16 := Lib.hid (HB15.out.trans (Below.mono hb16 HB15.out.size))
                 have HX16 := Lib.hid (And.intro (HX15.out.1.below hb16 HX15.out.1.lt) (show w.heap.size + 1 < w16.heap.size by have := HX15.out.2; have := hb16.size; omega))
                 obtain ⟨M0, n0, rfl, p0, q0⟩ := Kd.R_reads o0
                 obtain ⟨M1, n1, rfl, p1, q1⟩ := Kd.R_reads o1
                 obtain ⟨M2, n2, rfl, p2, q2⟩ := Kd.R_reads o2
                 have HM16 := Lib.hid (And.intro p0 (And.intro q0 (And.intro p1 (And.intro q1 (And.intro p2 q2)))))
                 have hsl : s0.length < 4611686018427387904 ∧ s1.length < 4611686018427387904 ∧ s2.length < 4611686018427387904 := by
                   have h := HSH.out
                   have hl := HLN.out
                   unfold shufV at h
                   split at h
                   · have e0 := congrArg (fun z => z.1.length) h
                     have e1 := congrArg (fun z => z.2.1.length) h
                     have e2 := congrArg (fun z => z.2.2.1.length) h
                     simp only [shufMid, shufOut, mixL_len, shufLinks, List.length_map, List.length_range] at e0 e1 e2
                     omega
                   · have e0 := congrArg (fun z => z.1.length) h
                     have e1 := congrArg (fun z => z.2.1.length) h
                     have e2 := congrArg (fun z => z.2.2.1.length) h
                     simp only [List.length_nil] at e0 e1 e2
                     omega
                 have HSL := Lib.hid hsl
                 clear o0 o1 o2 hb16 HB15 HX15 p0 q0 p1 q1 p2 q2 hsl
                 go_wp2_with fail
                 obtain ⟨hx17, hs17, hb17⟩ := Blk.box w16 28 [Value.slice M0 s0.length n0, Value.slice M1 s1.length n1, Value.slice M2 s2.length n2]
                 rw [show (List.toArray [Value.slice M0 s0.length n0, Value.slice M1 s1.length n1, Value.slice M2 s2.length n2]) = #[Value.slice M0 s0.length n0, Value.slice M1 s1.length n1, Value.slice M2 s2.length n2] from rfl] at hx17 hs17 hb17
                 generalize w16.alloc (Obj.cells #[Value.slice M0 s0.length n0, Value.slice M1 s1.length n1, Value.slice M2 s2.length n2] 28) = w17 at hx17 hs17 hb17 ⊢
                 have HB17 := Lib.hid (HB16.out.trans (Below.mono hb17 HB16.out.size))
                 have HX17 := Lib.hid (And.intro (HX16.out.1.below hb17 HX16.out.2) (And.intro hx17 (show w.heap.size + 1 < w16.heap.size ∧ w16.heap.size < w17.heap.size by have := HX16.out.2; omega)))
                 have HK17 := Lib.hid (show Below w16.heap.size w16 w17 from hb17)
                 clear hx17 hs17 hb17 HB16 HX16
                 as_aux_lemma =>
                  refine (shufR_calls a0 A1 c1 l1 A2 c2 l2 A3 c3 l3 A4 c4 l4 A5 c5 l5 w17 (Kd.C_below HR.out.1 HB17.out) HC.out.1 (Kd.C_below HR.out.2.1 HB17.out) HC.out.2.1 (Kd.C_below HR.out.2.2.1 HB17.out) HC.out.2.2.1 (Kd.C_below HR.out.2.2.2.1 HB17.out) HC.out.2.2.2.1 (Kd.C_below HR.out.2.2.2.2 HB17.out) HC.out.2.2.2.2 (by have := H8.out; have := HLN.out; omega) (s0, s1, s2, s3) HSH.out).mono ?_
                  rintro e w18 ⟨v0, v1, v2, rfl, o0, o1, o2, hb18⟩
                  simp only at o0 o1 o2 ⊢
                  obtain ⟨L0, k0, rfl, p0, q0⟩ := Kd.R_reads o0
                  obtain ⟨L1, k1, rfl, p1, q1⟩ := Kd.R_reads o1
                  obtain ⟨L2, k2, rfl, p2, q2⟩ := Kd.R_reads o2
                  have HM18 := Lib.hid (And.intro p0 (And.intro q0 (And.intro p1 (And.intro q1 (And.intro p2 q2)))))
                  have HB18 := Lib.hid (HB17.out.trans (Below.mono hb18 HB17.out.size))
                  have HX18 := Lib.hid (And.intro (HX17.out.1.below hb18 HX17.out.1.lt) (And.intro (HX17.out.2.1.below hb18 HX17.out.2.1.lt) (show w.heap.size + 1 < w16.heap.size ∧ w16.heap.size < w18.heap.size by have := HX17.out.2.2; have := hb18.size; omega)))
                  have HK18 := Lib.hid (show Below w16.heap.size w16 w18 from HK17.out.trans (Below.mono hb18 HK17.out.size))
                  clear o0 o1 o2 hb18 HB17 HX17 p0 q0 p1 q1 p2 q2 HK17
                  go_wp2_with ((with_reducible refine gate_dst (N := 205) rfl ?_); refine Stop.out ?_)
                  obtain ⟨hx19, hs19, hb19⟩ := Blk.box w18 28 [Value.slice L0 s0.length k0, Value.slice L1 s1.length k1, Value.slice L2 s2.length k2]
                  rw [show (List.toArray [Value.slice L0 s0.length k0, Value.slice L1 s1.length k1, Value.slice L2 s2.length k2]) = #[Value.slice L0 s0.length k0, Value.slice L1 s1.length k1, Value.slice L2 s2.length k2] from rfl] at hx19 hs19 hb19
                  generalize w18.alloc (Obj.cells #[Value.slice L0 s0.length k0, Value.slice L1 s1.length k1, Value.slice L2 s2.length k2] 28) = w19 at hx19 hs19 hb19 ⊢
                  have HB19 := Lib.hid (HB18.out.trans (Below.mono hb19 HB18.out.size))
                  have HX19 := Lib.hid (And.intro (HX18.out.1.below hb19 HX18.out.1.lt) (And.intro (HX18.out.2.1.below hb19 HX18.out.2.1.lt) hx19))
                  have HK19 := Lib.hid (show Below w16.heap.size w16 w19 from HK18.out.trans (Below.mono hb19 HK18.out.size))
                  have HL19 := Lib.hid (show Below w18.heap.size w18 w19 from hb19)
                  clear hx19 hs19 hb19 HB18 HX18 HK18
                  have a0c := HX19.out.2.1.cell 0 _ rfl
                  have a1c := HX19.out.2.1.cell 1 _ rfl
                  have a2c := HX19.out.2.1.cell 2 _ rfl
                  have b0c := HX19.out.2.2.cell 0 _ rfl
                  have b1c := HX19.out.2.2.cell 1 _ rfl
                  have b2c := HX19.out.2.2.cell 2 _ rfl
                  refine ⟨?_⟩
                  go_wp2_with fail
                  as_aux_lemma =>
                   refine (cohousingref40_Same.calls (s0.length + s1.length + s2.length + 2) M0 n0 s0 M1 n1 s1 M2 n2 s2 L0 k0 s0 L1 k1 s1 L2 k2 s2 true w19 (Kd.C_below HM16.out.2.1 HK19.out) HM16.out.1 (Kd.C_below HM16.out.2.2.2.1 HK19.out) HM16.out.2.2.1 (Kd.C_below HM16.out.2.2.2.2.2 HK19.out) HM16.out.2.2.2.2.1 (Kd.C_below HM18.out.2.1 HL19.out) HM18.out.1 (Kd.C_below HM18.out.2.2.2.1 HL19.out) HM18.out.2.2.1 (Kd.C_below HM18.out.2.2.2.2.2 HL19.out) HM18.out.2.2.2.2.1 (sameR_f s0 s1 s2 (by have := HSL.out; omega) (by have := HSL.out; omega) (by have := HSL.out; omega) _ (by omega))).mono ?_
                   rintro e w20 ⟨rfl, hb20⟩
                   have HB20 := Lib.hid (HB19.out.trans (Below.mono hb20 HB19.out.size))
                   have hx20 := HX19.out.1.below hb20 HX19.out.1.lt
                   have HX20 := Lib.hid hx20
                   have m0c := hx20.cell 0 _ rfl
                   have m1c := hx20.cell 1 _ rfl
                   have m2c := hx20.cell 2 _ rfl
                   clear hb20 HB19 HX19 HK19 HL19 HM16 HM18 hx20 a0c a1c a2c b0c b1c b2c
                   obtain ⟨⟨is, er2⟩, hv⟩ : ∃ v, chkV a0 l1 m0 m1 m2 = v := ⟨_, rfl⟩
                   have HV := Lib.hid hv
                   clear hv
                   go_wp2_with fail
                   as_aux_lemma =>
                    refine (ballot_Check.calls a0 A1 c1 l1 B0 d0 m0 B1 d1 m1 B2 d2 m2 is er2 w20 (Kd.C_below HR.out.1 HB20.out) HC.out.1 (Kd.C_below HM.out.1 HB20.out) HM.out.2.2.2.1 (Kd.C_below HM.out.2.1 HB20.out) HM.out.2.2.2.2.1 (Kd.C_below HM.out.2.2.1 HB20.out) HM.out.2.2.2.2.2 (TabOk.below HT.out HB20.out) (by unfold ballot_Check.f; rw [HV.out])).mono ?_
                    rintro e w21 ⟨rfl, hb21⟩
                    have HB21 := Lib.hid (HB20.out.trans (Below.mono hb21 HB20.out.size))
                    have hx21 := HX20.out.below hb21 HX20.out.lt
                    have n0c := hx21.cell 0 _ rfl
                    have n1c := hx21.cell 1 _ rfl
                    have n2c := hx21.cell 2 _ rfl
                    clear hb21 HB20 HX20 hx21 m0c m1c m2c
                    go_wp2_with fail
                    refine (chkR_calls a0 A1 c1 l1 B0 d0 m0 B1 d1 m1 B2 d2 m2 is er2 w21 (Kd.C_below HR.out.1 HB21.out) HC.out.1 (Kd.C_below HM.out.1 HB21.out) HM.out.2.2.2.1 (Kd.C_below HM.out.2.1 HB21.out) HM.out.2.2.2.2.1 (Kd.C_below HM.out.2.2.1 HB21.out) HM.out.2.2.2.2.2 (by have := H8.out; have := HLN.out; omega) HV.out).mono ?_
                    rintro e w22 ⟨rfl, hb22⟩
                    have HB22 := Lib.hid (HB21.out.trans (Below.mono hb22 HB21.out.size))
                    clear hb22 HB21 n0c n1c n2c
                    go_wp2_with fail
                    refine bodyPost_ret (results_tmp rfl _ _ _) rfl ?_
                    exact ⟨by simp, HB22.out⟩
end Go.Proofs.YtkaebblbmoolaaaDoor.P
