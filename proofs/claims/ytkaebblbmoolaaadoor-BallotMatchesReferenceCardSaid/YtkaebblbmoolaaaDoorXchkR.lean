/- The reference's Check. -/
import Derived.Test.YtkaebblbmoolaaaDoorPbR
import Derived.Test.YtkaebblbmoolaaaDoorXlinkR
import Derived.Test.YtkaebblbmoolaaaDoorXaskR
set_option linter.unusedSimpArgs false
set_option linter.unusedVariables false
namespace Go.Proofs.YtkaebblbmoolaaaDoor.P
open Go Go.RowKit Go.Proofs.YtkaebblbmoolaaaDoorW.PrintWords Go.Proofs.YtkaebblbmoolaaaDoorW.PrintLast Go.Proofs.YtkaebblbmoolaaaDoorW.PrintMore Go.Proofs.YtkaebblbmoolaaaDoor.Ord
attribute [local go_sem ↓] Go.wp_at_zero Go.wp_at_succ

theorem contains_idx (x : Int) (l : List Int) : l.contains x = decide (0 ≤ idxI x l 0) := by
  have h := idxI_neg x l
  by_cases hx : x ∈ l
  · have : ¬ idxI x l 0 < 0 := fun e => (h.1 e) hx
    rw [decide_eq_true (by omega)]
    simpa using hx
  · have := h.2 hx
    rw [decide_eq_false (by omega)]
    simpa using hx
theorem chkAt_t {pub : Int} {inn mid out : List S23} {bits : List Bool} {i : Nat} {x : S53} {L R : List Int} (hb : rdOf false bits (i : Int) = true) (n1 : mid.length = inn.length) (n2 : out.length = inn.length) (hi : i < inn.length) :
    chkAt pub inn mid out bits i x L R = (x.f0 == (i : Int) && (linkB pub mid (i : Int) out x.f1 x.f2 && !decide (0 ≤ idxI x.f1 R 0))) := by
  unfold chkAt linkB okD
  rw [if_pos hb, contains_idx, n1, n2, show decide (0 ≤ (i : Int)) = true from decide_eq_true (by omega), show decide ((i : Int) < (inn.length : Int)) = true from decide_eq_true (by omega)]
  simp only [Bool.true_and]
  generalize decide (0 ≤ x.f1) = b1
  generalize decide (x.f1 < (inn.length : Int)) = b2
  generalize decide (0 ≤ idxI x.f1 R 0) = b3
  cases b1 <;> cases b2 <;> cases b3 <;> simp
theorem chkAt_f {pub : Int} {inn mid out : List S23} {bits : List Bool} {i : Nat} {x : S53} {L R : List Int} (hb : rdOf false bits (i : Int) = false) (n1 : mid.length = inn.length) (n2 : out.length = inn.length) (hi : i < inn.length) :
    chkAt pub inn mid out bits i x L R = (x.f1 == (i : Int) && (linkB pub inn x.f0 mid (i : Int) x.f2 && !decide (0 ≤ idxI x.f0 L 0))) := by
  unfold chkAt linkB okD
  rw [if_neg (by rw [hb]; decide), contains_idx, n1, show decide (0 ≤ (i : Int)) = true from decide_eq_true (by omega), show decide ((i : Int) < (inn.length : Int)) = true from decide_eq_true (by omega)]
  simp only [Bool.true_and]
  generalize decide (0 ≤ x.f0) = b1
  generalize decide (x.f0 < (inn.length : Int)) = b2
  generalize decide (0 ≤ idxI x.f0 L 0) = b3
  cases b1 <;> cases b2 <;> cases b3 <;> simp
set_option maxRecDepth 100000 in
set_option maxHeartbeats 4000000 in
theorem chkR_calls (a0 : Int) (A1 : Option Addr) (c1 : Nat) (l1 : List (S23)) (A2_0 : Option Addr) (c2_0 : Nat) (l2_0 : List (S23)) (A2_1 : Option Addr) (c2_1 : Nat) (l2_1 : List (S23)) (A2_2 : Option Addr) (c2_2 : Nat) (l2_2 : List (S53)) (r1 : Bool) (r2 : Int) (w : World)
    (hr1 : Kd.C k23 w A1 l1.length l1) (hc1 : l1.length ≤ c1) (hr2_0 : Kd.C k23 w A2_0 l2_0.length l2_0) (hc2_0 : l2_0.length ≤ c2_0) (hr2_1 : Kd.C k23 w A2_1 l2_1.length l2_1) (hc2_1 : l2_1.length ≤ c2_1) (hr2_2 : Kd.C k53 w A2_2 l2_2.length l2_2) (hc2_2 : l2_2.length ≤ c2_2)
    (hlen : l1.length < 4611686018427387904 ∧ l2_0.length < 4611686018427387904 ∧ l2_1.length < 4611686018427387904) (h : chkV a0 l1 l2_0 l2_1 l2_2 = (r1, r2)) :
    Calls Tryd.prog 20 #[.int .i64 a0, .slice A1 l1.length c1, .agg #[.slice A2_0 l2_0.length c2_0, .slice A2_1 l2_1.length c2_1, .slice A2_2 l2_2.length c2_2]] w fun e w' => e = .returned (.tuple #[.bool r1, .int .i64 r2]) ∧ Below w.heap.size w w' := by
  have HRES := Lib.hid h
  have HLN := Lib.hid hlen
  obtain ⟨k, hk⟩ : ∃ k : Nat, l1.length + l2_0.length + l2_1.length + 200000 < k := ⟨l1.length + l2_0.length + l2_1.length + 200001, by omega⟩
  have HK := Lib.hid hk
  have HR := Lib.hid (And.intro hr1 (And.intro hr2_0 (And.intro hr2_1 (And.intro hr2_2 (And.intro hc1 (And.intro hc2_0 (And.intro hc2_1 hc2_2)))))))
  clear h hlen hk hr1 hr2_0 hr2_1 hr2_2 hc1 hc2_0 hc2_1 hc2_2
  go_enter Tryd.func20, Tryd.ntmps20
  go_wp2_with fail
  obtain ⟨hx1, hs1, hb1⟩ := Blk.box w 28 [Value.slice A2_0 l2_0.length c2_0, Value.slice A2_1 l2_1.length c2_1, Value.slice A2_2 l2_2.length c2_2]
  rw [show (List.toArray [Value.slice A2_0 l2_0.length c2_0, Value.slice A2_1 l2_1.length c2_1, Value.slice A2_2 l2_2.length c2_2]) = #[Value.slice A2_0 l2_0.length c2_0, Value.slice A2_1 l2_1.length c2_1, Value.slice A2_2 l2_2.length c2_2] from rfl] at hx1 hs1 hb1
  generalize w.alloc (Obj.cells #[Value.slice A2_0 l2_0.length c2_0, Value.slice A2_1 l2_1.length c2_1, Value.slice A2_2 l2_2.length c2_2] 28) = w1 at hx1 hs1 hb1 ⊢
  refine (cohousingref40_Ciphers.calls k A1 c1 l1 (ciphsB l1) w1 (Kd.C_below HR.out.1 hb1) HR.out.2.2.2.2.1 (refCiphers_f l1 (by have := HLN.out; omega) k (by have := HK.out; omega))).mono ?_
  rintro e w2 ⟨rfl, hb2⟩
  have hx2 := hx1.below hb2 hx1.lt
  have HB2 := Lib.hid (show Below w.heap.size w w2 from hb1.trans (Below.mono hb2 (by omega)))
  have HX2 := Lib.hid hx2
  clear hx1 hs1 hb1 hb2 hx2
  go_wp2_with fail
  refine (cohousingref40_Key.calls k a0 (keyB a0) w2 (refKey_f a0 k (by have := HK.out; omega))).mono ?_
  rintro e w3 ⟨rfl, hd3⟩
  have HB3 := Lib.hid (HB2.out.trans (Below.mono hd3.below HB2.out.size))
  have hx3 := HX2.out.below hd3.below HX2.out.lt
  have HX3 := Lib.hid hx3
  clear hd3 hx3 HX2 HB2
  by_cases hv : (keyB a0 && ciphsB l1) = true
  case neg =>
    have hres := HRES.out
    unfold chkV at hres
    rw [if_neg hv] at hres
    simp only [Prod.mk.injEq] at hres
    obtain ⟨rfl, rfl⟩ := hres
    cases hk : keyB a0 with
    | false =>
      clear hk hv
      go_wp2_with fail
      refine bodyPost_ret (results_tmp2 rfl _ _ _) rfl ?_
      exact ⟨rfl, HB3.out⟩
    | true =>
      have hci : ciphsB l1 = false := by rw [hk] at hv; simpa using hv
      rw [hci]
      clear hk hv hci
      go_wp2_with fail
      refine bodyPost_ret (results_tmp2 rfl _ _ _) rfl ?_
      exact ⟨rfl, HB3.out⟩
  case pos =>
    have hres := HRES.out
    unfold chkV at hres
    rw [if_pos hv] at hres
    obtain ⟨hk, hci⟩ : keyB a0 = true ∧ ciphsB l1 = true := by simpa using hv
    rw [hk, hci]
    have HRES2 := Lib.hid hres
    have HV := Lib.hid (And.intro hk hci)
    have b0 := HX3.out.cell 0 _ rfl
    have b1 := HX3.out.cell 1 _ rfl
    clear hres HRES hk hci hv
    go_wp2_with fail
    obtain ⟨⟨bits, er⟩, hask⟩ : ∃ x, askV l1 l2_0 l2_1 = x := ⟨_, rfl⟩
    refine (cohousingref40_Asked.calls k A1 c1 l1 A2_0 c2_0 l2_0 A2_1 c2_1 l2_1 bits er w3 (Kd.C_below HR.out.1 HB3.out) HR.out.2.2.2.2.1 (Kd.C_below HR.out.2.1 HB3.out) HR.out.2.2.2.2.2.1 (Kd.C_below HR.out.2.2.1 HB3.out) HR.out.2.2.2.2.2.2.1 (by rw [refAsked_f l1 l2_0 l2_1 (by have := HLN.out; omega) (by have := HLN.out; omega) (by have := HLN.out; omega) k (by have := HK.out; omega), hask])).mono ?_
    rintro e w4 ⟨v4, rfl, ho4, hb4⟩
    have HB4 := Lib.hid (HB3.out.trans (Below.mono hb4 HB3.out.size))
    have hx4 := HX3.out.below hb4 HX3.out.lt
    have hac := askV_cases l1 l2_0 l2_1
    have hres := HRES2.out
    rw [hask] at hac hres
    simp only at hac hres
    have b2 := hx4.cell 2 _ rfl
    have HX4 := Lib.hid hx4
    have HO4 := Lib.hid ho4
    clear hb4 HX3 HRES2 hask b0 b1 hx4 ho4
    rcases hac with ⟨rfl, hq0, hq1, hq2, hq3⟩ | ⟨rfl, rfl⟩
    · by_cases hlen : l2_2.length = l1.length
      · rw [if_pos ⟨rfl, hlen⟩] at hres
        simp only [Prod.mk.injEq] at hres
        obtain ⟨rfl, rfl⟩ := hres
        have q4 : ((l2_2.length : Int) != (l1.length : Int)) = false := by simp; omega
        have h1 := okL_len hq0
        have h2 := okL_len hq1
        have h3 := okL_len hq2
        obtain ⟨ai, rfl, -, -⟩ := read_ci HR.out.1 (Below.refl _ _) 0 (by omega) (by omega)
        obtain ⟨am, rfl, -, -⟩ := read_ci HR.out.2.1 (Below.refl _ _) 0 (by omega) (by omega)
        obtain ⟨ao, rfl, -, -⟩ := read_ci HR.out.2.2.1 (Below.refl _ _) 0 (by omega) (by omega)
        obtain ⟨al, rfl, -, -, -⟩ := read_l HR.out.2.2.2.1 (Below.refl _ _) 0 (l2_2[0]'(by omega)) (List.getElem?_eq_getElem (by omega))
        obtain ⟨g, cap, rfl, hg1, hg2, cells, hg3⟩ := Kd.R_form HO4.out (by omega)
        have hcm : ciphsB l2_0 = true := by unfold okL at hq1; simp only [Bool.and_eq_true] at hq1; exact hq1.1
        have HL := Lib.hid (And.intro hlen (And.intro h1.2 (And.intro h2.1 (And.intro h3.1 (And.intro hq3 hcm)))))
        have HCL := Lib.hid (fun (j : Nat) (hj : j < bits.length) => (Kd.R_celln false HO4.out (j : Int) (by omega) (by omega)).1)
        have HCW := Lib.hid (show w4.heap[g]? = some (.cells cells 4 (0, 0)) from hg3)
        have hfr4 : Fr w w.heap.size g [Value.slice (some am) l2_0.length c2_0, Value.slice (some ao) l2_1.length c2_1, Value.slice (some al) l2_2.length c2_2] cells.toList w4 := ⟨HB4.out, HX4.out, by unfold Blk; exact hg3⟩
        have HF4 := Lib.hid (And.intro hfr4 (show g < w4.heap.size ∧ w.heap.size < w4.heap.size from ⟨(Array.getElem?_eq_some_iff.1 hg3).1, HX4.out.lt⟩))
        clear hq0 hq1 hq2 hq3 hlen h1 h2 h3 hg1 hg2 hg3 hcm hfr4
        go_wp2_with fail
        go_loopw [13, 11, 12] (fun i u v wr => ∃ (j : Nat) (L R : List Int), j ≤ l1.length ∧ i = .int .i64 j ∧ Hid (chkF a0 l1 l2_0 l2_1 bits 0 [] [] l2_2 = chkF a0 l1 l2_0 l2_1 bits j L R (l2_2.drop j)) ∧ Hid (Fr w w.heap.size g [Value.slice (some am) l2_0.length c2_0, Value.slice (some ao) l2_1.length c2_1, Value.slice (some al) l2_2.length c2_2] cells.toList wr ∧ w4.heap.size ≤ wr.heap.size) ∧ Hid (L.length ≤ j ∧ R.length ≤ j) ∧ Hid (Kd.R (Kd.int .i64) 3 wr w4.heap.size (fun k => some k ≠ v.ownBlock) u L ∧ Kd.R (Kd.int .i64) 3 wr w4.heap.size (fun k => some k ≠ u.ownBlock) v R)) (fun i _ _ _ => l1.length - (intOf i).toNat)
        case atStart => exact ⟨0, [], [], Nat.zero_le _, rfl, rfl, ⟨HF4.out.1, Nat.le_refl _⟩, ⟨Nat.zero_le _, Nat.zero_le _⟩, Kd.R_nil _ _ _ _ _, Kd.R_nil _ _ _ _ _⟩
        case round =>
          obtain ⟨j, L, R, hj, rfl, hc, hfr, HLL, hds⟩ := hrel
          by_cases hlt : j < l1.length
          · have hjl : j < l2_2.length := by have := HL.out.1; omega
            obtain ⟨x, hxk⟩ : ∃ x, l2_2[j]? = some x := ⟨l2_2[j], List.getElem?_eq_getElem hjl⟩
            obtain ⟨ad, e, hl0, hl1, hl2⟩ := read_l HR.out.2.2.2.1 hfr.out.1.b j x hxk
            cases e
            have hstep : chkF a0 l1 l2_0 l2_1 bits j L R (l2_2.drop j) = (chkAt a0 l1 l2_0 l2_1 bits j x L R && (if rdOf false bits (j : Int) = true then chkF a0 l1 l2_0 l2_1 bits (j + 1) L (R ++ [x.f1]) (l2_2.drop (j + 1)) else chkF a0 l1 l2_0 l2_1 bits (j + 1) (L ++ [x.f0]) R (l2_2.drop (j + 1)))) := by
              have e : l2_2.drop j = x :: l2_2.drop (j + 1) := by
                rw [List.drop_eq_getElem_cons hjl]
                congr 1
                have := List.getElem?_eq_getElem hjl
                rw [hxk] at this
                exact (Option.some.inj this).symm
              rw [e]
              rfl
            have HST := Lib.hid (hc.out.trans hstep)
            have hmc := hfr.out.1.m.cell 2 _ rfl
            have hjn : j < bits.length := by have := HL.out; omega
            have hjb : (j : Int) < (bits.length : Int) := by omega
            have hj64 : (j : Int) < (l2_2.length : Int) := by omega
            clear hstep hc hxk
            go_wp2_with ((with_reducible refine gate_dst (N := 57) rfl ?_); refine Stop.out ?_)
            obtain ⟨hx7, hs7, hb7⟩ := Blk.box wr 53 [Value.int IntKind.i64 x.f0, Value.int IntKind.i64 x.f1, Value.int IntKind.i64 x.f2]
            rw [show (List.toArray [Value.int IntKind.i64 x.f0, Value.int IntKind.i64 x.f1, Value.int IntKind.i64 x.f2]) = #[Value.int IntKind.i64 x.f0, Value.int IntKind.i64 x.f1, Value.int IntKind.i64 x.f2] from rfl] at hx7 hs7 hb7
            generalize wr.alloc (Obj.cells #[Value.int IntKind.i64 x.f0, Value.int IntKind.i64 x.f1, Value.int IntKind.i64 x.f2] 53) = w7 at hx7 hs7 hb7 ⊢
            have H7 := Lib.hid (And.intro (hfr.out.1.below hb7 (Nat.le_refl _)) (And.intro hx7 (show w4.heap.size ≤ w7.heap.size from Nat.le_trans hfr.out.2 hb7.size)))
            have HD7 := Lib.hid (And.intro (Kd.R_below hds.out.1 hb7) (Kd.R_below hds.out.2 hb7))
            have hca : w7.cell? ⟨g, j, none⟩ = some (.bool (rdOf false bits (j : Int))) := by
              have h0 := HCL.out j (by have := HL.out; omega)
              rw [Int.toNat_natCast] at h0
              have h1 : w7.heap[g]? = w4.heap[g]? := Eq.trans H7.out.1.a HCW.out.symm
              have e : w7.cell? ⟨g, j, none⟩ = w4.cell? ⟨g, j, none⟩ := by simp [World.cell?, h1]
              exact e.trans h0
            clear hx7 hs7 hb7 hds hfr hmc hl0 hl1 hl2
            have e0 := H7.out.2.1.cell 0 _ rfl
            have e1 := H7.out.2.1.cell 1 _ rfl
            have e2 := H7.out.2.1.cell 2 _ rfl
            have m0 := H7.out.1.m.cell 0 _ rfl
            have m1 := H7.out.1.m.cell 1 _ rfl
            have m2 := H7.out.1.m.cell 2 _ rfl
            obtain ⟨bit, hbit⟩ : ∃ b, rdOf false bits (j : Int) = b := ⟨_, rfl⟩
            rw [hbit] at hca
            refine ⟨?_⟩
            cases bit with
            | true =>
              have HBIT := Lib.hid hbit
              clear hbit
              have hat : chkF a0 l1 l2_0 l2_1 bits 0 [] [] l2_2 = (x.f0 == (j : Int) && (linkB a0 l2_0 (j : Int) l2_1 x.f1 x.f2 && !decide (0 ≤ idxI x.f1 R 0)) && chkF a0 l1 l2_0 l2_1 bits (j + 1) L (R ++ [x.f1]) (l2_2.drop (j + 1))) := by
                rw [HST.out, if_pos HBIT.out, chkAt_t (HBIT.out) HL.out.2.2.1 HL.out.2.2.2.1 (by omega)]
              have HAT := Lib.hid hat
              clear hat HST
              by_cases hx0 : x.f0 = (j : Int)
              · have d1 : (x.f0 != (j : Int)) = false := by simpa using hx0
                have HX0 := Lib.hid (show (x.f0 == (j : Int)) = true by simpa using hx0)
                clear hx0
                go_wp2_with fail
                refine (linkR_calls a0 (some am) c2_0 l2_0 (j : Int) (some ao) c2_1 l2_1 x.f1 x.f2 w7 (Kd.C_below HR.out.2.1 H7.out.1.b) HR.out.2.2.2.2.2.1 (Kd.C_below HR.out.2.2.1 H7.out.1.b) HR.out.2.2.2.2.2.2.1 HV.out.1 HL.out.2.2.2.2.2).mono ?_
                rintro e w8 ⟨rfl, hb8⟩
                have HB8 := Lib.hid hb8
                have H8 := Lib.hid (And.intro (H7.out.1.below hb8 (Nat.le_refl _)) (And.intro (H7.out.2.1.below hb8 H7.out.2.1.lt) (show w4.heap.size ≤ w8.heap.size from Nat.le_trans H7.out.2.2 hb8.size)))
                have HDS := Lib.hid (And.intro (Kd.R_below HD7.out.1 hb8) (Kd.R_below HD7.out.2 hb8))
                clear hb8 HD7 e0 e1 e2 m0 m1 m2
                have e0 := H8.out.2.1.cell 0 _ rfl
                have e1 := H8.out.2.1.cell 1 _ rfl
                cases hlb : linkB a0 l2_0 (j : Int) l2_1 x.f1 x.f2 with
                | false =>
                  have HQ := Lib.hid (show chkF a0 l1 l2_0 l2_1 bits 0 [] [] l2_2 = false by rw [HAT.out, hlb]; simp)
                  clear hlb
                  go_wp2_with fail
                  refine bodyPost_ret (results_tmp2 rfl _ _ _) rfl ?_
                  exact ⟨by rw [HQ.out]; rfl, H8.out.1.b⟩
                | true =>
                  have HLB := Lib.hid hlb
                  clear hlb
                  obtain ⟨Av, nv, rfl, z1, z2⟩ := Kd.R_reads HDS.out.2
                  have HZ := Lib.hid (And.intro z1 z2)
                  clear z1 z2
                  go_wp2_with fail
                  refine (cohousingref40_Place.calls 1000 Av nv R x.f1 (idxI x.f1 R 0) w8 HZ.out.2 HZ.out.1 (place_f R x.f1 (by have := HLL.out; have := HL.out; omega) 1000 (by have := HLL.out; have := HL.out; omega))).mono ?_
                  rintro e w9 ⟨rfl, hd9⟩
                  have hb9 := hd9.below
                  have H9 := Lib.hid (And.intro (H8.out.1.below hb9 (Nat.le_refl _)) (And.intro (H8.out.2.1.below hb9 H8.out.2.1.lt) (show w4.heap.size ≤ w9.heap.size from Nat.le_trans H8.out.2.2 hb9.size)))
                  have HD9 := Lib.hid (And.intro (Kd.R_below HDS.out.1 hb9) (Kd.R_below HDS.out.2 hb9))
                  clear hb9 hd9 HDS HZ e0 e1
                  have e0 := H9.out.2.1.cell 0 _ rfl
                  have e1 := H9.out.2.1.cell 1 _ rfl
                  by_cases hpl : 0 ≤ idxI x.f1 R 0
                  · have HQ := Lib.hid (show chkF a0 l1 l2_0 l2_1 bits 0 [] [] l2_2 = false by rw [HAT.out, show decide (0 ≤ idxI x.f1 R 0) = true from decide_eq_true hpl]; simp)
                    go_wp2_with fail
                    refine bodyPost_ret (results_tmp2 rfl _ _ _) rfl ?_
                    exact ⟨by rw [HQ.out]; rfl, H9.out.1.b⟩
                  · have HQ := Lib.hid (show chkF a0 l1 l2_0 l2_1 bits 0 [] [] l2_2 = chkF a0 l1 l2_0 l2_1 bits (j + 1) L (R ++ [x.f1]) (l2_2.drop (j + 1)) by rw [HAT.out, show decide (0 ≤ idxI x.f1 R 0) = false from decide_eq_false hpl, HX0.out, HLB.out]; simp)
                    go_wp2_with ((with_reducible refine gate_builtin (b := .append) (xs := #[.tmp 83, .tmp 86]) rfl ?_); at_builtin; refine Stop.out ?_)
                    refine ⟨?_⟩
                    refine Kd.R_append (Kd.int .i64) (w0 := w9) w4.heap.size rfl (.tmp 83) (.tmp 86) 25 3 (.int .i64 0) 8 rfl Tryd.underlying25 info_n rfl (by decide) (by omega) (.slice Av R.length nv) R x.f1 [.int .i64 x.f1] (fun k => some k ≠ u11.ownBlock) (fun _ => False) rfl (by first | rfl | go_simp) ?aP (fun _ hk => hk.elim) ?aF HD9.out.2 (Below.refl _ _) H9.out.2.2 ?aL ?_
                    case aP => exact rfl
                    case aF =>
                      intro q hq he
                      have := Kd.R_lt HD9.out.1 q he.symm
                      omega
                    case aL => have := HLL.out; have := HL.out; omega
                    intro v10 w10 ho10 hb10 hg10 hat10
                    have hoth := Kd.R_mono (ok' := fun q => some q ≠ v10.ownBlock) (Kd.R_step (Kd.R_bound HD9.out.1) (fun q hq hlt => hg10.block q hlt hq.1)) (fun q hq => by
                      rcases hat10 with e | ⟨b, e, hbb⟩
                      · rw [e]; exact hq.1
                      · rw [e]; intro h; cases h; have := hq.2.2.1; omega)
                    have hfr10 : Fr w w.heap.size g [Value.slice (some am) l2_0.length c2_0, Value.slice (some ao) l2_1.length c2_1, Value.slice (some al) l2_2.length c2_2] cells.toList w10 := ⟨H9.out.1.b.grown hg10 H9.out.1.b.size (fun q hq => by have := Kd.R_base HD9.out.2 q hq; have := HF4.out.2; omega), H9.out.1.m.grown hg10 (fun e => by have := Kd.R_base HD9.out.2 _ e.symm; have := HF4.out.2; omega), H9.out.1.a.grown hg10 (fun e => by have := Kd.R_base HD9.out.2 _ e.symm; have := HF4.out.2; omega)⟩
                    have H10 := Lib.hid (And.intro hfr10 (show w4.heap.size ≤ w10.heap.size from Nat.le_trans H9.out.2.2 hg10.size))
                    have HR10 := Lib.hid (And.intro hoth ho10)
                    clear ho10 hb10 hg10 hat10 hoth hfr10 e0 e1 hpl hca
                    have HWJ := Lib.hid (show wrap64 ((j : Int) + 1) = ((j + 1 : Nat) : Int) by have := HL.out; unfold wrap64; omega)
                    go_wp2_with fail
                    refine ⟨⟨j + 1, L, R ++ [x.f1], by omega, by first | rw [HWJ.out] | rfl, HQ, H10, ⟨by have := HLL.out; omega, by have := HLL.out; rw [List.length_append, List.length_singleton]; omega⟩, HR10⟩, ?_⟩
                    try rw [HWJ.out]
                    simp only [intOf, Int.toNat_natCast]
                    omega
              · have d1 : (x.f0 != (j : Int)) = true := by simpa using hx0
                have HQ := Lib.hid (show chkF a0 l1 l2_0 l2_1 bits 0 [] [] l2_2 = false by rw [HAT.out, show (x.f0 == (j : Int)) = false from by simpa using hx0]; simp)
                clear hx0
                go_wp2_with fail
                refine bodyPost_ret (results_tmp2 rfl _ _ _) rfl ?_
                exact ⟨by rw [HQ.out]; rfl, H7.out.1.b⟩
            | false =>
              have HBIT := Lib.hid hbit
              clear hbit
              have hat : chkF a0 l1 l2_0 l2_1 bits 0 [] [] l2_2 = (x.f1 == (j : Int) && (linkB a0 l1 x.f0 l2_0 (j : Int) x.f2 && !decide (0 ≤ idxI x.f0 L 0)) && chkF a0 l1 l2_0 l2_1 bits (j + 1) (L ++ [x.f0]) R (l2_2.drop (j + 1))) := by
                rw [HST.out, if_neg (by rw [HBIT.out]; decide), chkAt_f (HBIT.out) HL.out.2.2.1 HL.out.2.2.2.1 (by omega)]
              have HAT := Lib.hid hat
              clear hat HST
              by_cases hx0 : x.f1 = (j : Int)
              · have d1 : (x.f1 != (j : Int)) = false := by simpa using hx0
                have HX0 := Lib.hid (show (x.f1 == (j : Int)) = true by simpa using hx0)
                clear hx0
                go_wp2_with fail
                refine (linkR_calls a0 (some ai) c1 l1 x.f0 (some am) c2_0 l2_0 (j : Int) x.f2 w7 (Kd.C_below HR.out.1 H7.out.1.b) HR.out.2.2.2.2.1 (Kd.C_below HR.out.2.1 H7.out.1.b) HR.out.2.2.2.2.2.1 HV.out.1 HV.out.2).mono ?_
                rintro e w8 ⟨rfl, hb8⟩
                have HB8 := Lib.hid hb8
                have H8 := Lib.hid (And.intro (H7.out.1.below hb8 (Nat.le_refl _)) (And.intro (H7.out.2.1.below hb8 H7.out.2.1.lt) (show w4.heap.size ≤ w8.heap.size from Nat.le_trans H7.out.2.2 hb8.size)))
                have HDS := Lib.hid (And.intro (Kd.R_below HD7.out.1 hb8) (Kd.R_below HD7.out.2 hb8))
                clear hb8 HD7 e0 e1 e2 m0 m1 m2
                have e0 := H8.out.2.1.cell 0 _ rfl
                have e1 := H8.out.2.1.cell 1 _ rfl
                cases hlb : linkB a0 l1 x.f0 l2_0 (j : Int) x.f2 with
                | false =>
                  have HQ := Lib.hid (show chkF a0 l1 l2_0 l2_1 bits 0 [] [] l2_2 = false by rw [HAT.out, hlb]; simp)
                  clear hlb
                  go_wp2_with fail
                  refine bodyPost_ret (results_tmp2 rfl _ _ _) rfl ?_
                  exact ⟨by rw [HQ.out]; rfl, H8.out.1.b⟩
                | true =>
                  have HLB := Lib.hid hlb
                  clear hlb
                  obtain ⟨Au, nu, rfl, z1, z2⟩ := Kd.R_reads HDS.out.1
                  have HZ := Lib.hid (And.intro z1 z2)
                  clear z1 z2
                  go_wp2_with fail
                  refine (cohousingref40_Place.calls 1000 Au nu L x.f0 (idxI x.f0 L 0) w8 HZ.out.2 HZ.out.1 (place_f L x.f0 (by have := HLL.out; have := HL.out; omega) 1000 (by have := HLL.out; have := HL.out; omega))).mono ?_
                  rintro e w9 ⟨rfl, hd9⟩
                  have hb9 := hd9.below
                  have H9 := Lib.hid (And.intro (H8.out.1.below hb9 (Nat.le_refl _)) (And.intro (H8.out.2.1.below hb9 H8.out.2.1.lt) (show w4.heap.size ≤ w9.heap.size from Nat.le_trans H8.out.2.2 hb9.size)))
                  have HD9 := Lib.hid (And.intro (Kd.R_below HDS.out.1 hb9) (Kd.R_below HDS.out.2 hb9))
                  clear hb9 hd9 HDS HZ e0 e1
                  have e0 := H9.out.2.1.cell 0 _ rfl
                  have e1 := H9.out.2.1.cell 1 _ rfl
                  by_cases hpl : 0 ≤ idxI x.f0 L 0
                  · have HQ := Lib.hid (show chkF a0 l1 l2_0 l2_1 bits 0 [] [] l2_2 = false by rw [HAT.out, show decide (0 ≤ idxI x.f0 L 0) = true from decide_eq_true hpl]; simp)
                    go_wp2_with fail
                    refine bodyPost_ret (results_tmp2 rfl _ _ _) rfl ?_
                    exact ⟨by rw [HQ.out]; rfl, H9.out.1.b⟩
                  · have HQ := Lib.hid (show chkF a0 l1 l2_0 l2_1 bits 0 [] [] l2_2 = chkF a0 l1 l2_0 l2_1 bits (j + 1) (L ++ [x.f0]) R (l2_2.drop (j + 1)) by rw [HAT.out, show decide (0 ≤ idxI x.f0 L 0) = false from decide_eq_false hpl, HX0.out, HLB.out]; simp)
                    go_wp2_with ((with_reducible refine gate_builtin (b := .append) (xs := #[.tmp 112, .tmp 115]) rfl ?_); at_builtin; refine Stop.out ?_)
                    refine ⟨?_⟩
                    refine Kd.R_append (Kd.int .i64) (w0 := w9) w4.heap.size rfl (.tmp 112) (.tmp 115) 25 3 (.int .i64 0) 8 rfl Tryd.underlying25 info_n rfl (by decide) (by omega) (.slice Au L.length nu) L x.f0 [.int .i64 x.f0] (fun k => some k ≠ u12.ownBlock) (fun _ => False) rfl (by first | rfl | go_simp) ?aP (fun _ hk => hk.elim) ?aF HD9.out.1 (Below.refl _ _) H9.out.2.2 ?aL ?_
                    case aP => exact rfl
                    case aF =>
                      intro q hq he
                      have := Kd.R_lt HD9.out.2 q he.symm
                      omega
                    case aL => have := HLL.out; have := HL.out; omega
                    intro v10 w10 ho10 hb10 hg10 hat10
                    have hoth := Kd.R_mono (ok' := fun q => some q ≠ v10.ownBlock) (Kd.R_step (Kd.R_bound HD9.out.2) (fun q hq hlt => hg10.block q hlt hq.1)) (fun q hq => by
                      rcases hat10 with e | ⟨b, e, hbb⟩
                      · rw [e]; exact hq.1
                      · rw [e]; intro h; cases h; have := hq.2.2.1; omega)
                    have hfr10 : Fr w w.heap.size g [Value.slice (some am) l2_0.length c2_0, Value.slice (some ao) l2_1.length c2_1, Value.slice (some al) l2_2.length c2_2] cells.toList w10 := ⟨H9.out.1.b.grown hg10 H9.out.1.b.size (fun q hq => by have := Kd.R_base HD9.out.1 q hq; have := HF4.out.2; omega), H9.out.1.m.grown hg10 (fun e => by have := Kd.R_base HD9.out.1 _ e.symm; have := HF4.out.2; omega), H9.out.1.a.grown hg10 (fun e => by have := Kd.R_base HD9.out.1 _ e.symm; have := HF4.out.2; omega)⟩
                    have H10 := Lib.hid (And.intro hfr10 (show w4.heap.size ≤ w10.heap.size from Nat.le_trans H9.out.2.2 hg10.size))
                    have HR10 := Lib.hid (And.intro ho10 hoth)
                    clear ho10 hb10 hg10 hat10 hoth hfr10 e0 e1 hpl hca
                    have HWJ := Lib.hid (show wrap64 ((j : Int) + 1) = ((j + 1 : Nat) : Int) by have := HL.out; unfold wrap64; omega)
                    go_wp2_with fail
                    refine ⟨⟨j + 1, L ++ [x.f0], R, by omega, by first | rw [HWJ.out] | rfl, HQ, H10, ⟨by have := HLL.out; rw [List.length_append, List.length_singleton]; omega, by have := HLL.out; omega⟩, HR10⟩, ?_⟩
                    try rw [HWJ.out]
                    simp only [intOf, Int.toNat_natCast]
                    omega
              · have d1 : (x.f1 != (j : Int)) = true := by simpa using hx0
                have HQ := Lib.hid (show chkF a0 l1 l2_0 l2_1 bits 0 [] [] l2_2 = false by rw [HAT.out, show (x.f1 == (j : Int)) = false from by simpa using hx0]; simp)
                clear hx0
                go_wp2_with fail
                refine bodyPost_ret (results_tmp2 rfl _ _ _) rfl ?_
                exact ⟨by rw [HQ.out]; rfl, H7.out.1.b⟩
          · obtain rfl : j = l1.length := by omega
            have HQ := Lib.hid (show chkF a0 l1 l2_0 l2_1 bits 0 [] [] l2_2 = true by rw [hc.out, ← HL.out.1, List.drop_length]; rfl)
            clear hc
            go_wp2_with fail
            refine bodyPost_ret (results_tmp2 rfl _ _ _) rfl ?_
            exact ⟨by rw [HQ.out]; rfl, hfr.out.1.b⟩
      · rw [if_neg (fun h => hlen h.2)] at hres
        simp only [Prod.mk.injEq] at hres
        obtain ⟨rfl, rfl⟩ := hres
        have q4 : ((l2_2.length : Int) != (l1.length : Int)) = true := by simp; omega
        clear hlen
        go_wp2_with fail
        refine bodyPost_ret (results_tmp2 rfl _ _ _) rfl ?_
        exact ⟨rfl, HB4.out⟩
    · rw [if_neg (fun h => by cases h.1)] at hres
      simp only [Prod.mk.injEq] at hres
      obtain ⟨rfl, rfl⟩ := hres
      go_wp2_with fail
      refine bodyPost_ret (results_tmp2 rfl _ _ _) rfl ?_
      exact ⟨rfl, HB4.out⟩
end Go.Proofs.YtkaebblbmoolaaaDoor.P
