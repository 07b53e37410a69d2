/- cause.Blame: who is to blame. -/
import Derived.Test.YtjdhnhfglpogmaaXStates
set_option linter.unusedSimpArgs false
set_option linter.unusedVariables false
namespace Go.Proofs.Ytjdhnhfglpogmaa.P
open Go.RowKit Go.Proofs.YtjdhnhfglpogmaaW.PrintWords Go.Proofs.YtjdhnhfglpogmaaW.PrintLast Go.Proofs.YtjdhnhfglpogmaaW.PrintMore

/-- s without the bits of m. -/
def clearN (s m : Nat) : Nat := s ^^^ (s &&& m)
theorem clearN_bit (s m j : Nat) : (clearN s m).testBit j = (s.testBit j && !(m.testBit j)) := by
  unfold clearN
  rw [Nat.testBit_xor, Nat.testBit_and]
  cases s.testBit j <;> cases m.testBit j <;> rfl
theorem clearN_lt (s m n : Nat) (h : s < 2 ^ n) : clearN s m < 2 ^ n := Nat.xor_lt_two_pow h (Nat.lt_of_le_of_lt Nat.and_le_left h)
theorem andNot_u64 (s m : Nat) (hs : s < 2 ^ 32) (hm : m < 2 ^ 32) : bits .andNot .u64 (s : Int) (m : Int) = ((clearN s m : Nat) : Int) := by
  have h1 : (BitVec.ofNat 64 s &&& ~~~BitVec.ofNat 64 m).toNat = clearN s m := by
    apply Nat.eq_of_testBit_eq
    intro j
    rw [clearN_bit, BitVec.testBit_toNat, BitVec.getLsbD_and, BitVec.getLsbD_not, BitVec.getLsbD_ofNat, BitVec.getLsbD_ofNat]
    by_cases hj : j < 64
    · simp [hj]
    · have : s.testBit j = false := Nat.testBit_lt_two_pow (Nat.lt_of_lt_of_le hs (Nat.pow_le_pow_right (by omega) (by omega)))
      simp [hj, this]
  have h2 := clearN_lt s m 32 hs
  simp only [bits, BitVec.ofInt_natCast]
  rw [show (BitVec.ofNat IntKind.u64.bits s &&& ~~~BitVec.ofNat IntKind.u64.bits m).toNat = clearN s m from h1]
  exact u64_32 _ (by omega) (by omega)

/-- Would there be no defect without the faults of a party, in a state? -/
def blB (l : List S44) (defect : Nat) (mask s : Nat) : Bool :=
  (valN l (initN (freeOf l) s (freeOf l).length) l.length).testBit defect && !((valN l (initN (freeOf l) (clearN s mask) (freeOf l).length) l.length).testBit defect)
def maskOf (l : List S44) (p : Int) : Nat := maskN l (freeOf l) p (freeOf l).length
def cntB (l : List S44) (X : List Nat) (defect : Nat) (p : Int) : Nat := (X.filter (blB l defect (maskOf l p))).length
def sureB (l : List S44) (X : List Nat) (defect : Nat) (p : Int) : Bool := decide (maskOf l p ≠ 0) && decide (cntB l X defect p = X.length)
def maybeB (l : List S44) (X : List Nat) (defect : Nat) (p : Int) : Bool := decide (maskOf l p ≠ 0) && decide (0 < cntB l X defect p)
/-- The parties of the first k of which something holds. -/
def partyL (b : Int → Bool) (k : Nat) : List Int := ((List.range k).map (fun j : Nat => (j : Int) + 1)).filter b
theorem partyL_succ (b : Int → Bool) (k : Nat) : partyL b (k + 1) = partyL b k ++ (if b ((k : Int) + 1) then [(k : Int) + 1] else []) := by
  simp only [partyL, List.range_succ, List.map_append, List.map_cons, List.map_nil, List.filter_append, List.filter_cons, List.filter_nil]
theorem partyL_len (b : Int → Bool) (k : Nat) : (partyL b k).length ≤ k := by
  unfold partyL
  exact Nat.le_trans (List.length_filter_le _ _) (by simp)
def blameV (l : List S44) (seen : List S48) (day defect : Int) : List Int × List Int × Int :=
  if validB l && seenB l.length seen day && (decide (0 ≤ defect) && decide (defect < (l.length : Int))) then
    (if (agS l seen day).length = 0 then ([], [], 4) else (partyL (sureB l (agS l seen day) defect.toNat) 64, partyL (maybeB l (agS l seen day) defect.toNat) 64, 0))
  else ([], [], 1)

theorem two_rows {W w1 : World} {base : Nat} {vs vm v1 : Value} {Y : List Int} (hm : Kd.R (Kd.int .i64) 3 W base (fun k => some k ≠ vs.ownBlock) vm Y) (hg : W.grownBy w1 vs.ownBlock) (hat : v1.ownBlock = vs.ownBlock ∨ ∃ b, v1.ownBlock = some b ∧ W.heap.size ≤ b) :
    Kd.R (Kd.int .i64) 3 w1 base (fun k => some k ≠ v1.ownBlock) vm Y := by
  have h1 := Kd.R_grown hm hg (fun k hk => hk)
  have hlt := Kd.R_lt hm
  refine Kd.R_mono (Kd.R_tight2 rfl h1) (fun k hk => ?_)
  rcases hat with h | ⟨b, h, hb⟩
  · rw [h]; exact hk.2
  · rw [h]
    intro e
    have := hlt k hk.1.symm
    cases e
    omega
theorem rows_new {W : World} {base : Nat} {vm : Value} {Y : List Int} {ok : Nat → Prop} (hm : Kd.R (Kd.int .i64) 3 W base ok vm Y) : ∀ k, W.heap.size ≤ k → some k ≠ vm.ownBlock := fun k hk e => by
  have := Kd.R_lt hm k e.symm
  omega

set_option maxRecDepth 100000 in
set_option maxHeartbeats 4000000 in
theorem blame_calls (A0 : Option Addr) (c0 : Nat) (l0 : List S44) (A1 : Option Addr) (c1 : Nat) (l1 : List S48) (a2 a3 : Int) (w : World) (hr0 : Kd.C k44 w A0 l0.length l0) (hc0 : l0.length ≤ c0) (hr1 : Kd.C k48 w A1 l1.length l1) :
    Calls Try.prog 21 #[.slice A0 l0.length c0, .slice A1 l1.length c1, .int .i64 a2, .int .i64 a3] w fun e w' => ∃ v0_ v1_ : Value, e = .returned (.tuple #[v0_, v1_, .int .i64 (blameV l0 l1 a2 a3).2.2]) ∧ Kd.R (Kd.int .i64) 3 w' w.heap.size (fun k_ => some k_ ≠ (v1_ : Value).ownBlock) v0_ (blameV l0 l1 a2 a3).1 ∧ Kd.R (Kd.int .i64) 3 w' w.heap.size (fun k_ => some k_ ≠ (v0_ : Value).ownBlock) v1_ (blameV l0 l1 a2 a3).2.1 ∧ Below w.heap.size w w' := by
  obtain ⟨kv, hkv⟩ := (cause_valid_ev l0 (len63 hr0)).rounds
  have HR0 := Lib.hid hr0
  have HR1 := Lib.hid hr1
  have hu60 := Try.underlying60
  cases hval : validB l0 with
  | false =>
    rw [hval] at hkv
    have hn := Lib.hid (obs_no kv l0 l1 A0 A1 c0 c1 a2 w hr0 hc0 hr1 hkv)
    have hv : Hid (blameV l0 l1 a2 a3 = ([], [], 1)) := by unfold Hid blameV; rw [hval]; rfl
    rw [hv.out]
    clear hkv hval hr0 hr1
    go_enter Try.func21, Try.ntmps21
    go_wp2_with fail
    refine hn.out.mono ?_
    rintro e w1 ⟨rfl, hb⟩
    go_wp2_with fail
    go_ret3
    exact ⟨_, _, rfl, Kd.R_nil _ _ _ _ _, Kd.R_nil _ _ _ _ _, hb⟩
  | true =>
    rw [hval] at hkv
    have hlen := valid_len hval
    have hn := Lib.hid (obs_yes kv l0 l1 A0 A1 c0 c1 a2 w hr0 hc0 hr1 hkv (by omega))
    have hfl : (freeOf l0).length ≤ 12 := Nat.le_trans (freeAt_length l0 0) hlen
    cases hsb : seenB l0.length l1 a2 with
    | false =>
      have hv : Hid (blameV l0 l1 a2 a3 = ([], [], 1)) := by unfold Hid blameV; rw [hval, hsb]; rfl
      rw [hv.out]
      rw [hsb] at hn
      clear hkv hval hr0 hr1
      go_enter Try.func21, Try.ntmps21
      go_wp2_with fail
      refine hn.out.mono ?_
      rintro e w1 ⟨g, rfl, hM, hgs, hb⟩
      go_wp2_with fail
      go_ret3
      exact ⟨_, _, rfl, Kd.R_nil _ _ _ _ _, Kd.R_nil _ _ _ _ _, hb⟩
    | true =>
      rw [hsb] at hn
      by_cases hd0 : a3 < 0
      · have hv : Hid (blameV l0 l1 a2 a3 = ([], [], 1)) := by unfold Hid blameV; rw [decide_eq_false (show ¬ 0 ≤ a3 by omega)]; simp
        rw [hv.out]
        have hdb : decide (a3 < 0) = true := decide_eq_true hd0
        clear hkv hval hr0 hr1 hd0
        go_enter Try.func21, Try.ntmps21
        go_wp2_with fail
        refine hn.out.mono ?_
        rintro e w1 ⟨g, rfl, hM, hgs, hb⟩
        go_wp2_with fail
        go_ret3
        exact ⟨_, _, rfl, Kd.R_nil _ _ _ _ _, Kd.R_nil _ _ _ _ _, hb⟩
      · by_cases hd1 : (l0.length : Int) ≤ a3
        · have hv : Hid (blameV l0 l1 a2 a3 = ([], [], 1)) := by unfold Hid blameV; rw [decide_eq_false (show ¬ a3 < (l0.length : Int) by omega)]; simp
          rw [hv.out]
          have hdb0 : decide (a3 < 0) = false := decide_eq_false hd0
          have hdb : decide ((l0.length : Int) ≤ a3) = true := decide_eq_true hd1
          clear hkv hval hr0 hr1 hd0
          go_enter Try.func21, Try.ntmps21
          go_wp2_with fail
          refine hn.out.mono ?_
          rintro e w1 ⟨g, rfl, hM, hgs, hb⟩
          go_wp2_with fail
          go_ret3
          exact ⟨_, _, rfl, Kd.R_nil _ _ _ _ _, Kd.R_nil _ _ _ _ _, hb⟩
        · obtain ⟨d, rfl⟩ := Int.eq_ofNat_of_zero_le (show 0 ≤ a3 by omega)
          have hdl : d < l0.length := by omega
          have hag := Lib.hid (fun g W hM hW => agreeing_calls g l0 l1 A1 c1 a2 W hM hlen (valid_ok hval) hW (seen_bound hsb hlen))
          have hv : Hid (blameV l0 l1 a2 d = if (agS l0 l1 a2).length = 0 then ([], [], 4) else (partyL (sureB l0 (agS l0 l1 a2) d) 64, partyL (maybeB l0 (agS l0 l1 a2) d) 64, 0)) := by
            unfold Hid blameV
            rw [hval, hsb, decide_eq_true (show 0 ≤ (d : Int) by omega), decide_eq_true (show (d : Int) < (l0.length : Int) by omega), Int.toNat_natCast]
            rfl
          have hvc := Lib.hid (fun s g W hs hW => values_calls g l0 (freeOf l0) s W hW hlen hfl hs (fun i hi => ⟨(freeOf_bound l0 i hi).1, by have := (freeOf_bound l0 i hi).2; omega⟩) (valid_ok hval))
          have hmc := Lib.hid (fun g p W hW => mask_calls g l0 (freeOf l0) p W hW hlen hfl (fun i hi => freeOf_bound l0 i hi))
          have hml := Lib.hid (fun p => maskN_lt l0 (freeOf l0) p hfl (freeOf l0).length (Nat.le_refl _))
          have hX := agN_S l0 l1 a2
          have HXlt := Lib.hid (agS_lt l0 l1 a2)
          have hpow : 2 ^ (freeOf l0).length < 2 ^ 13 := Nat.pow_lt_pow_right (by omega) (by omega)
          have hagl : (agS l0 l1 a2).length ≤ 2 ^ (freeOf l0).length := Nat.le_trans (List.length_filter_le _ _) (by simp)
          have hvl := Lib.hid (fun s => valN_lt l0 (initN (freeOf l0) s (freeOf l0).length) (initN_lt _ _ (fun i hi => ⟨(freeOf_bound l0 i hi).1, by have := (freeOf_bound l0 i hi).2; omega⟩) _ (Nat.le_refl _)) l0.length hlen)
          rw [hX] at hag
          rw [hv.out]
          generalize agS l0 l1 a2 = X at *
          have hXl : X.length ≤ 8192 := by omega
          clear hkv hval hr0 hr1 hX hpow hagl hd0 hd1 hv
          by_cases hX0 : X.length = 0
          · rw [if_pos hX0]
            go_enter Try.func21, Try.ntmps21
            go_wp2_with fail
            refine hn.out.mono ?_
            rintro e w1 ⟨g, rfl, hM, hgs, hb⟩
            have HM := Lib.hid hM
            clear hM
            go_wp2_with fail
            refine (hag.out g w1 HM.out (Kd.C_below HR1.out hb)).mono ?_
            rintro e w2 ⟨v, rfl, hRv, hb2⟩
            have HB := Lib.hid (below_step hb hb2)
            obtain ⟨AX, cX, rfl⟩ := Kd.R_slice hRv
            have hXm : (X.map (fun s : Nat => (s : Int))).length = 0 := by simp [hX0]
            rw [hXm]
            clear hXm hRv hb hb2
            go_wp2_with fail
            go_ret3
            exact ⟨_, _, rfl, Kd.R_nil _ _ _ _ _, Kd.R_nil _ _ _ _ _, HB.out⟩
          · rw [if_neg hX0]
            go_enter Try.func21, Try.ntmps21
            go_wp2_with fail
            refine hn.out.mono ?_
            rintro e w1 ⟨g, rfl, hM, hgs, hb⟩
            have HM := Lib.hid hM
            clear hM
            go_wp2_with fail
            refine (hag.out g w1 HM.out (Kd.C_below HR1.out hb)).mono ?_
            rintro e w2 ⟨v, rfl, hRv, hb2⟩
            have HB := Lib.hid (below_step hb hb2)
            have HM2 := Lib.hid (HM.out.below hb2)
            obtain ⟨AX, cX, rfl, hcX, hCX⟩ := Kd.R_reads hRv
            have HCX := Lib.hid hCX
            have hXm : (X.map (fun s : Nat => (s : Int))).length = X.length := by simp
            clear hRv hb hb2 hCX hcX
            rw [hXm]
            have HXM := Lib.hid hXm
            have hXb : ((X.length : Int) == 0) = false := beq_eq_false_iff_ne.2 (by omega)
            have hXp : 0 < X.length := by omega
            clear hXm hX0
            go_wp2_with fail
            go_loopw [8, 9, 14] (fun vs vm i wr => ∃ (k : Nat), k ≤ 64 ∧ i = .int .i64 ((k : Int) + 1) ∧ Kd.R (Kd.int .i64) 3 wr w2.heap.size (fun k_ => some k_ ≠ vm.ownBlock) vs (partyL (sureB l0 X d) k) ∧ Kd.R (Kd.int .i64) 3 wr w2.heap.size (fun k_ => some k_ ≠ vs.ownBlock) vm (partyL (maybeB l0 X d) k) ∧ Below w2.heap.size w2 wr) (fun _ _ i _ => 65 - (intOf i).toNat)
            case atStart => exact ⟨0, Nat.zero_le _, rfl, Kd.R_nil _ _ _ _ _, Kd.R_nil _ _ _ _ _, Below.refl _ _⟩
            case round =>
              obtain ⟨k, hk, rfl, hRs, hRm, hB2⟩ := hrel
              by_cases hlt : k < 64
              · have hss := partyL_succ (sureB l0 X d) k
                have hsm := partyL_succ (maybeB l0 X d) k
                have hls := partyL_len (sureB l0 X d) k
                have hlm := partyL_len (maybeB l0 X d) k
                have hsu : sureB l0 X d ((k : Int) + 1) = (decide (maskOf l0 ((k : Int) + 1) ≠ 0) && decide ((X.filter (blB l0 d (maskOf l0 ((k : Int) + 1)))).length = X.length)) := rfl
                have hma : maybeB l0 X d ((k : Int) + 1) = (decide (maskOf l0 ((k : Int) + 1) ≠ 0) && decide (0 < (X.filter (blB l0 d (maskOf l0 ((k : Int) + 1)))).length)) := rfl
                have hmk := hml.out ((k : Int) + 1)
                have hmcall := Lib.hid (hmc.out g ((k : Int) + 1) wr (HM2.out.below hB2))
                rw [hsu] at hss
                rw [hma] at hsm
                generalize partyL (sureB l0 X d) k = Ls at *
                generalize partyL (maybeB l0 X d) k = Lm at *
                unfold maskOf at hss hsm
                generalize maskN l0 (freeOf l0) ((k : Int) + 1) (freeOf l0).length = mask at *
                obtain ⟨Bs, cs, rfl⟩ := Kd.R_slice hRs
                obtain ⟨Bm, cm, rfl⟩ := Kd.R_slice hRm
                have HRs := Lib.hid hRs
                have HRm := Lib.hid hRm
                have HSS := Lib.hid hss
                have HSM := Lib.hid hsm
                clear hsu hma hss hsm hRs hRm
                by_cases hm0 : mask = 0
                · subst hm0
                  have HSS2 : Hid (partyL (sureB l0 X d) (k + 1) = Ls) := by unfold Hid; rw [HSS.out]; simp
                  have HSM2 : Hid (partyL (maybeB l0 X d) (k + 1) = Lm) := by unfold Hid; rw [HSM.out]; simp
                  go_wp2_with fail
                  refine hmcall.out.mono ?_
                  rintro e w' ⟨rfl, rfl⟩
                  go_wp2_with fail
                  go_roundw
                  case rel => exact ⟨k + 1, by omega, by go_num, by rw [HSS2.out]; exact HRs.out, by rw [HSM2.out]; exact HRm.out, hB2⟩
                  case measure => simp [intOf]; omega
                · have hmb : ((mask : Int) == 0) = false := by simp; omega
                  go_wp2_with fail
                  refine hmcall.out.mono ?_
                  rintro e w' ⟨rfl, rfl⟩
                  go_wp2_with fail
                  obtain ⟨wo, rfl⟩ : ∃ wo : World, wo = wr := ⟨_, rfl⟩
                  have HB2 := Lib.hid hB2
                  have hb2s := hB2.size
                  go_loopw [16, 56] (fun n i wq => ∃ (j : Nat), j ≤ X.length ∧ i = .int .i64 j ∧ n = .int .i64 (((X.take j).filter (blB l0 d mask)).length : Nat) ∧ Below wo.heap.size wo wq) (fun _ i _ => X.length - (intOf i).toNat)
                  case atStart => exact ⟨0, Nat.zero_le _, rfl, by simp, Below.refl _ _⟩
                  case round =>
                    obtain ⟨j, hj, rfl, rfl, hB3⟩ := hrel
                    have hcl : ((X.take j).filter (blB l0 d mask)).length ≤ j := Nat.le_trans (List.length_filter_le _ _) (List.length_take_le _ _)
                    by_cases hlt2 : j < X.length
                    · obtain ⟨ad, e, hx0⟩ := Kd.at_int HCX.out (j : Int) (by omega) (by rw [HXM.out]; omega)
                      cases e
                      rw [rd_map, Int.toNat_natCast] at hx0
                      have hB4 := below_step HB2.out hB3
                      replace hx0 := (hB4.cell (World.block_lt_of_cell? w2 _ hx0)).trans hx0
                      have hsl := HXlt.out (X.getD j 0) (by simp [List.getD_eq_getElem?_getD, List.getElem?_eq_getElem hlt2])
                      have htk : Hid (((X.take (j + 1)).filter (blB l0 d mask)).length = ((X.take j).filter (blB l0 d mask)).length + if blB l0 d mask (X.getD j 0) then 1 else 0) := by
                        unfold Hid
                        rw [List.take_succ_eq_append_getElem hlt2, List.filter_append, List.length_append]
                        simp only [List.filter_cons, List.filter_nil, List.getD_eq_getElem?_getD, List.getElem?_eq_getElem hlt2, Option.getD_some]
                        split <;> rfl
                      generalize ((X.take j).filter (blB l0 d mask)).length = N at *
                      have hbl : blB l0 d mask (X.getD j 0) = ((valN l0 (initN (freeOf l0) (X.getD j 0) (freeOf l0).length) l0.length).testBit d && !((valN l0 (initN (freeOf l0) (clearN (X.getD j 0) mask) (freeOf l0).length) l0.length).testBit d)) := rfl
                      generalize X.getD j 0 = s at *
                      rw [hbl] at htk
                      clear hbl
                      have hs32 : s < 2 ^ 32 := Nat.lt_of_lt_of_le hsl (Nat.pow_le_pow_right (by omega) (by omega))
                      have hcs := clearN_lt s mask _ hsl
                      have hv1 := Lib.hid (fun W hW => hvc.out s g W hsl hW)
                      have hv2 := Lib.hid (fun W hW => hvc.out (clearN s mask) g W hcs hW)
                      have hl1 := hvl.out s
                      have hl2 := hvl.out (clearN s mask)
                      have han := Lib.hid (andNot_u64 s mask hs32 (by omega))
                      generalize valN l0 (initN (freeOf l0) s (freeOf l0).length) l0.length = V1 at *
                      generalize valN l0 (initN (freeOf l0) (clearN s mask) (freeOf l0).length) l0.length = V2 at *
                      have hb1 := bit_u64 V1 d (by omega)
                      have hb2 := bit_u64 V2 d (by omega)
                      generalize V1.testBit d = t1 at *
                      generalize V2.testBit d = t2 at *
                      cases t1 <;> simp only [Bool.false_eq_true, if_false, if_true] at hb1
                      · go_wp2_with fail
                        refine (hv1.out wr (HM2.out.below hB4)).mono ?_
                        rintro e w5 ⟨rfl, hb5⟩
                        go_wp2_with fail
                        go_roundw
                        case rel => exact ⟨j + 1, by omega, by go_num, by rw [htk.out]; simp, below_step hB3 hb5⟩
                        case measure => simp [intOf]; omega
                      · have han' := han.out
                        cases t2 <;> simp only [Bool.false_eq_true, if_false, if_true] at hb2
                        all_goals
                          go_wp2_with fail
                          refine (hv1.out wr (HM2.out.below hB4)).mono ?_
                          rintro e w5 ⟨rfl, hb5⟩
                          go_wp2_with fail
                          refine (hv2.out w5 (HM2.out.below (below_step hB4 hb5))).mono ?_
                          rintro e w6 ⟨rfl, hb6⟩
                          go_wp2_with fail
                          go_roundw
                          case rel => exact ⟨j + 1, by omega, by go_num, by rw [htk.out]; simp, below_step hB3 (below_step hb5 hb6)⟩
                          case measure => simp [intOf]; omega
                    · obtain rfl : j = X.length := by omega
                      rw [List.take_length] at hcl ⊢
                      have HB4 := Lib.hid (below_step HB2.out hB3)
                      have HRs3 := Lib.hid (Kd.R_below HRs.out hB3)
                      have HRm3 := Lib.hid (Kd.R_below HRm.out hB3)
                      clear hB3
                      generalize (X.filter (blB l0 d mask)).length = N at *
                      by_cases hN : N = X.length
                      · have HSS2 : Hid (partyL (sureB l0 X d) (k + 1) = Ls ++ [(k : Int) + 1]) := by unfold Hid; rw [HSS.out, hN]; simp [hm0]
                        have HSM2 : Hid (partyL (maybeB l0 X d) (k + 1) = Lm ++ [(k : Int) + 1]) := by unfold Hid; rw [HSM.out, hN, decide_eq_true (show mask ≠ 0 from hm0), decide_eq_true hXp]; rfl
                        have hb1 : ((N : Int) == (X.length : Int)) = true := beq_iff_eq.2 (by omega)
                        have hb1' : (N == X.length) = true := beq_iff_eq.2 hN
                        have hb2 : decide (0 < N) = true := decide_eq_true (by omega)
                        have hb2' : decide (0 < (N : Int)) = true := decide_eq_true (by omega)
                        clear hN
                        go_wp2_with (first | (at_builtin; refine Kd.R_append (Kd.int .i64) (w0 := w2) w2.heap.size rfl (.tmp 85) (.tmp 87) 36 3 (.int .i64 0) 8 rfl Try.underlying36 info3 rfl (by decide) (by omega) _ Ls ((k : Int) + 1) [.int .i64 ((k : Int) + 1)] (fun k_ => some k_ ≠ (.slice Bm Lm.length cm : Value).ownBlock) (fun _ => False) rfl (by first | rfl | go_simp) ?aP (fun _ hk => hk.elim) ?aF ?aO ?aB ?aS ?aL ?_; (case aP => exact rfl); (case aF => exact rows_new HRm3.out); (case aO => exact HRs3.out); (case aB => exact HB4.out); (case aS => exact below_size HB4.out); (case aL => omega); intro v2 w5 ho hb5 hg hat; obtain ⟨Bs2, cs2, rfl⟩ := Kd.R_slice ho; simp only [List.length_append, List.length_cons, List.length_nil, Nat.zero_add] at ho hat; have HRs4 := Lib.hid ho; have HB5 := Lib.hid hb5; have HRm4 := Lib.hid (two_rows HRm3.out hg hat); clear ho hb5 hg hat) | (at_builtin; refine Kd.R_append (Kd.int .i64) (w0 := w2) w2.heap.size rfl (.tmp 91) (.tmp 93) 36 3 (.int .i64 0) 8 rfl Try.underlying36 info3 rfl (by decide) (by omega) _ Lm ((k : Int) + 1) [.int .i64 ((k : Int) + 1)] (fun k_ => some k_ ≠ (.slice Bs2 (Ls.length + 1) cs2 : Value).ownBlock) (fun _ => False) rfl (by first | rfl | go_simp) ?aP (fun _ hk => hk.elim) ?aF ?aO ?aB ?aS ?aL ?_; (case aP => exact rfl); (case aF => exact rows_new HRs4.out); (case aO => exact HRm4.out); (case aB => exact HB5.out); (case aS => exact below_size HB5.out); (case aL => omega); intro v3 w7 ho hb7 hg hat; have HRm5 := Lib.hid ho; have HB7 := Lib.hid hb7; have HRs5 := Lib.hid (two_rows HRs4.out hg hat); clear ho hb7 hg hat))
                        go_roundw
                        case rel => exact ⟨k + 1, by omega, by go_num, by rw [HSS2.out]; exact HRs5.out, by rw [HSM2.out]; exact HRm5.out, HB7.out⟩
                        case measure => simp [intOf]; omega
                      · have HSS2 : Hid (partyL (sureB l0 X d) (k + 1) = Ls) := by unfold Hid; rw [HSS.out]; simp [hN]
                        have hb1 : ((N : Int) == (X.length : Int)) = false := beq_eq_false_iff_ne.2 (by omega)
                        have hb1' : (N == X.length) = false := beq_eq_false_iff_ne.2 hN
                        by_cases hN0 : 0 < N
                        · have HSM2 : Hid (partyL (maybeB l0 X d) (k + 1) = Lm ++ [(k : Int) + 1]) := by unfold Hid; rw [HSM.out]; simp [hm0, hN0]
                          have hb2 : decide (0 < N) = true := decide_eq_true hN0
                          have hb2' : decide (0 < (N : Int)) = true := decide_eq_true (by omega)
                          clear hN hN0
                          go_wp2_with (at_builtin; refine Kd.R_append (Kd.int .i64) (w0 := w2) w2.heap.size rfl (.tmp 91) (.tmp 93) 36 3 (.int .i64 0) 8 rfl Try.underlying36 info3 rfl (by decide) (by omega) _ Lm ((k : Int) + 1) [.int .i64 ((k : Int) + 1)] (fun k_ => some k_ ≠ (.slice Bs Ls.length cs : Value).ownBlock) (fun _ => False) rfl (by first | rfl | go_simp) ?aP (fun _ hk => hk.elim) ?aF ?aO ?aB ?aS ?aL ?_; (case aP => exact rfl); (case aF => exact rows_new HRs3.out); (case aO => exact HRm3.out); (case aB => exact HB4.out); (case aS => exact below_size HB4.out); (case aL => omega); intro v3 w7 ho hb7 hg hat; have HRm5 := Lib.hid ho; have HB7 := Lib.hid hb7; have HRs5 := Lib.hid (two_rows HRs3.out hg hat); clear ho hb7 hg hat)
                          go_roundw
                          case rel => exact ⟨k + 1, by omega, by go_num, by rw [HSS2.out]; exact HRs5.out, by rw [HSM2.out]; exact HRm5.out, HB7.out⟩
                          case measure => simp [intOf]; omega
                        · have HSM2 : Hid (partyL (maybeB l0 X d) (k + 1) = Lm) := by unfold Hid; rw [HSM.out]; simp [hN0]
                          obtain rfl : N = 0 := by omega
                          clear hN hN0
                          go_wp2_with fail
                          go_roundw
                          case rel => exact ⟨k + 1, by omega, by go_num, by rw [HSS2.out]; exact HRs3.out, by rw [HSM2.out]; exact HRm3.out, HB4.out⟩
                          case measure => simp [intOf]; omega
              · obtain rfl : k = 64 := by omega
                obtain ⟨Bs, cs, rfl⟩ := Kd.R_slice hRs
                obtain ⟨Bm, cm, rfl⟩ := Kd.R_slice hRm
                have HRs := Lib.hid hRs
                have HRm := Lib.hid hRm
                clear hRs hRm
                go_wp2_with fail
                go_ret3
                exact ⟨_, _, rfl, Kd.R_lower HRs.out HB.out.size, Kd.R_lower HRm.out HB.out.size, below_step HB.out hB2⟩
def cause_Blame.f (l0 : List S44) (l1 : List S48) (a2 : Int) (a3 : Int) : Option (List Int × List Int × Int) := some (blameV l0 l1 a2 a3)
theorem cause_Blame.calls (A0 : Option Addr) (c0 : Nat) (l0 : List S44) (A1 : Option Addr) (c1 : Nat) (l1 : List S48) (a2 : Int) (a3 : Int) (r1 : List Int) (r2 : List Int) (r3 : Int) (w : World) (hr0 : Kd.C k44 w A0 l0.length l0) (hc0 : l0.length ≤ c0) (hr1 : Kd.C k48 w A1 l1.length l1) (hc1 : l1.length ≤ c1) (h : cause_Blame.f l0 l1 a2 a3 = some (r1, r2, r3)) :
    Calls Try.prog 21 #[.slice A0 l0.length c0, .slice A1 l1.length c1, .int .i64 a2, .int .i64 a3] w fun e w' => ∃ v0_ v1_ : Value, e = .returned (.tuple #[v0_, v1_, .int .i64 r3]) ∧ Kd.R (Kd.int .i64) 3 w' w.heap.size (fun k_ => some k_ ≠ (v1_ : Value).ownBlock) v0_ r1 ∧ Kd.R (Kd.int .i64) 3 w' w.heap.size (fun k_ => some k_ ≠ (v0_ : Value).ownBlock) v1_ r2 ∧ Below w.heap.size w w' := by
  have hs := blame_calls A0 c0 l0 A1 c1 l1 a2 a3 w hr0 hc0 hr1
  have e := Option.some.inj h
  rw [e] at hs
  exact hs
end Go.Proofs.Ytjdhnhfglpogmaa.P
