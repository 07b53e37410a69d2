/- cause.States: the states that agree. -/
import Derived.Test.YtjdhnhfglpogmaaXRun
set_option linter.unusedSimpArgs false
set_option linter.unusedVariables false
namespace Go.Proofs.Ytjdhnhfglpogmaa.P
open Go.RowKit Go.Proofs.YtjdhnhfglpogmaaW.PrintWords Go.Proofs.YtjdhnhfglpogmaaW.PrintLast Go.Proofs.YtjdhnhfglpogmaaW.PrintMore

/-- The states that agree, as numbers and as lists. -/
def agS (l : List S44) (seen : List S48) (day : Int) : List Nat := (List.range (2 ^ (freeOf l).length)).filter (agB l seen day)
def stBits (m s : Nat) : List Bool := (List.range m).map (fun k => s.testBit (m - 1 - k))
def statesB (l : List S44) (seen : List S48) (day : Int) : List (List Bool) := (agS l seen day).map (stBits (freeOf l).length)
def statesV (l : List S44) (seen : List S48) (day : Int) : List (List Bool) × Int := if validB l && seenB l.length seen day then (statesB l seen day, 0) else ([], 1)
theorem agN_S (l : List S44) (seen : List S48) (day : Int) : agN l seen day (2 ^ (freeOf l).length) = (agS l seen day).map (fun s : Nat => (s : Int)) := rfl
theorem agS_lt (l : List S44) (seen : List S48) (day : Int) : ∀ s ∈ agS l seen day, s < 2 ^ (freeOf l).length := by
  intro s hs
  simpa using (List.mem_filter.1 hs).1
theorem stBits_len (m s : Nat) : (stBits m s).length = m := by simp [stBits]
theorem stBits_get (m s k : Nat) (hk : k < m) : (stBits m s).getD k false = s.testBit (m - 1 - k) := by simp [stBits, List.getD_eq_getElem?_getD, hk]
theorem seen_bound {n : Nat} {seen : List S48} {day : Int} (h : seenB n seen day = true) (hn : n ≤ 12) : ∀ s ∈ seen, 0 ≤ s.f0 ∧ s.f0 < 12 := by
  intro s hs
  unfold seenB at h
  simp only [Bool.and_eq_true, Bool.not_eq_true'] at h
  have h1 := h.1.2
  rw [List.any_eq_false] at h1
  have h2 := h1 s hs
  unfold oddB at h2
  simp only [Bool.or_eq_true, decide_eq_true_eq, not_or] at h2
  omega
theorem rd_map (X : List Nat) (i : Nat) : rd (X.map (fun s : Nat => (s : Int))) (i : Int) = ((X.getD i 0 : Nat) : Int) := by
  simp only [rd, Int.toNat_natCast, List.getD_eq_getElem?_getD, List.getElem?_map]
  cases X[i]? <;> rfl

set_option maxRecDepth 100000 in
set_option maxHeartbeats 4000000 in
theorem states_calls (A0 : Option Addr) (c0 : Nat) (l0 : List S44) (A1 : Option Addr) (c1 : Nat) (l1 : List S48) (a2 : Int) (w : World) (hr0 : Kd.C k44 w A0 l0.length l0) (hc0 : l0.length ≤ c0) (hr1 : Kd.C k48 w A1 l1.length l1) :
    Calls Try.prog 18 #[.slice A0 l0.length c0, .slice A1 l1.length c1, .int .i64 a2] w fun e w' => ∃ v0_ : Value, e = .returned (.tuple #[v0_, .int .i64 (statesV l0 l1 a2).2]) ∧ Kd.S (Kd.slice 4 Kd.bool) 23 w' w.heap.size (fun _ => True) v0_ (statesV l0 l1 a2).1 ∧ Below w.heap.size w w' := by
  obtain ⟨kv, hkv⟩ := (cause_valid_ev l0 (len63 hr0)).rounds
  have HR0 := Lib.hid hr0
  have HR1 := Lib.hid hr1
  have hu60 := Try.underlying60
  cases hval : validB l0 with
  | false =>
    rw [hval] at hkv
    have hn := Lib.hid (obs_no kv l0 l1 A0 A1 c0 c1 a2 w hr0 hc0 hr1 hkv)
    have hv : Hid (statesV l0 l1 a2 = ([], 1)) := by unfold Hid statesV; rw [hval]; rfl
    rw [hv.out]
    clear hkv hval hr0 hr1
    go_enter Try.func18, Try.ntmps18
    go_wp2_with fail
    refine hn.out.mono ?_
    rintro e w1 ⟨rfl, hb⟩
    go_wp2_with fail
    go_ret2
    exact ⟨_, rfl, Kd.S_nil _ _ _ _ _, hb⟩
  | true =>
    rw [hval] at hkv
    have hlen := valid_len hval
    have hn := Lib.hid (obs_yes kv l0 l1 A0 A1 c0 c1 a2 w hr0 hc0 hr1 hkv (by omega))
    have hfl : (freeOf l0).length ≤ 12 := Nat.le_trans (freeAt_length l0 0) hlen
    cases hsb : seenB l0.length l1 a2 with
    | false =>
      have hv : Hid (statesV l0 l1 a2 = ([], 1)) := by unfold Hid statesV; rw [hval, hsb]; rfl
      rw [hv.out]
      rw [hsb] at hn
      clear hkv hval hr0 hr1
      go_enter Try.func18, Try.ntmps18
      go_wp2_with fail
      refine hn.out.mono ?_
      rintro e w1 ⟨g, rfl, hM, hgs, hb⟩
      go_wp2_with fail
      go_ret2
      exact ⟨_, rfl, Kd.S_nil _ _ _ _ _, hb⟩
    | true =>
      have hv : Hid (statesV l0 l1 a2 = (statesB l0 l1 a2, 0)) := by unfold Hid statesV; rw [hval, hsb]; rfl
      rw [hv.out]
      have hag := Lib.hid (fun g W hM hW => agreeing_calls g l0 l1 A1 c1 a2 W hM hlen (valid_ok hval) hW (seen_bound hsb hlen))
      rw [hsb] at hn
      have hbc := Lib.hid (fun g k W hW hk => bit_calls g l0 (freeOf l0) k W hW hk (by omega))
      have hmk := Lib.hid (fun W => run_make_row' (P := Try.prog) 23 4 (.bool false) 1 Try.underlying23 info4 rfl .i64 .i64 (freeOf l0).length (by omega) (by omega) W)
      have hX := agN_S l0 l1 a2
      have HXlt := Lib.hid (agS_lt l0 l1 a2)
      have hsB : Hid (statesB l0 l1 a2 = (agS l0 l1 a2).map (stBits (freeOf l0).length)) := rfl
      have hpow : 2 ^ (freeOf l0).length < 2 ^ 13 := Nat.pow_lt_pow_right (by omega) (by omega)
      have hagl : (agS l0 l1 a2).length ≤ 2 ^ (freeOf l0).length := Nat.le_trans (List.length_filter_le _ _) (by simp)
      rw [hX] at hag
      generalize agS l0 l1 a2 = X at *
      have hXl : X.length ≤ 8192 := by omega
      clear hkv hval hr0 hr1 hX hpow hagl
      go_enter Try.func18, Try.ntmps18
      go_wp2_with fail
      refine hn.out.mono ?_
      rintro e w1 ⟨g, rfl, hM, hgs, hb⟩
      have HM := Lib.hid hM
      clear hM
      go_wp2_with fail
      refine (hag.out g w1 HM.out (Kd.C_below HR1.out hb)).mono ?_
      rintro e w2 ⟨v, rfl, hRv, hb2⟩
      have HB := Lib.hid (below_step hb hb2)
      have HM2 := Lib.hid (HM.out.below hb2)
      obtain ⟨AX, cX, rfl, hcX, hCX⟩ := Kd.R_reads hRv
      have HCX := Lib.hid hCX
      have hXm : (X.map (fun s : Nat => (s : Int))).length = X.length := by simp
      clear hRv hb hb2 hCX hcX
      rw [hXm]
      have HXM := Lib.hid hXm
      clear hXm
      go_wp2_with fail
      go_loopw [10, 29] (fun o i wr => ∃ (k : Nat), k ≤ X.length ∧ i = .int .i64 k ∧ Kd.S (Kd.slice 4 Kd.bool) 23 wr w2.heap.size (fun _ => True) o ((X.take k).map (stBits (freeOf l0).length)) ∧ Below w2.heap.size w2 wr) (fun _ i _ => X.length - (intOf i).toNat)
      case atStart => exact ⟨0, Nat.zero_le _, rfl, Kd.S_nil _ _ _ _ _, Below.refl _ _⟩
      case round =>
        obtain ⟨k, hk, rfl, hS, hB2⟩ := hrel
        by_cases hlt : k < X.length
        · obtain ⟨ad, e, hx0⟩ := Kd.at_int HCX.out (k : Int) (by omega) (by rw [HXM.out]; omega)
          cases e
          rw [rd_map, Int.toNat_natCast] at hx0
          replace hx0 := (hB2.cell (World.block_lt_of_cell? w2 _ hx0)).trans hx0
          have hsl := HXlt.out (X.getD k 0) (by simp [List.getD_eq_getElem?_getD, List.getElem?_eq_getElem hlt])
          have htk : Hid (X.take (k + 1) = X.take k ++ [X.getD k 0]) := by unfold Hid; rw [List.take_succ_eq_append_getElem hlt]; simp [List.getD_eq_getElem?_getD, List.getElem?_eq_getElem hlt]
          generalize X.getD k 0 = s at *
          obtain ⟨AM, cM, FM, dM, hblk, _, _, _, _⟩ := HM2.out.below hB2
          have hg1 : wr.cell? ⟨g, 1, none⟩ = some (.slice FM (freeOf l0).length dM) := blk_cell hblk 1
          clear hblk
          have hmk' := hmk.out
          go_wp2_with fail
          clear hmk' hg1 hx0
          obtain ⟨wo, rfl⟩ : ∃ wo : World, wo = wr := ⟨_, rfl⟩
          have hBw := below_step HB.out hB2
          have hB3 := below_alloc hBw (.cells (madeCells #[.bool false] (freeOf l0).length) 4)
          have hM3 := HM2.out.below (below_alloc hB2 (.cells (madeCells #[.bool false] (freeOf l0).length) 4))
          have HM3 := Lib.hid hM3
          have hmap0 : Hid ((X.take (k + 1)).map (stBits (freeOf l0).length) = (X.take k).map (stBits (freeOf l0).length) ++ [stBits (freeOf l0).length s]) := by unfold Hid; rw [htk.out, List.map_append, List.map_cons, List.map_nil]
          have hml : ((X.take k).map (stBits (freeOf l0).length)).length ≤ 8192 := by rw [List.length_map]; exact Nat.le_trans (List.length_take_le _ _) (by omega)
          generalize (X.take k).map (stBits (freeOf l0).length) = Z at *
          obtain ⟨B, cB, rfl⟩ := Kd.S_slice hS
          have hS3 : Kd.S (Kd.slice 4 Kd.bool) 23 (wo.alloc (.cells (madeCells #[.bool false] (freeOf l0).length) 4)) w2.heap.size (fun k_ => True ∧ some k_ ≠ (.slice (some ⟨wo.heap.size, 0, none⟩) (freeOf l0).length (freeOf l0).length : Value).ownBlock) _ _ :=
            Kd.S_elder' hS (fun k hk => by simp [Value.ownBlock] at hk; omega) (below_alloc (Below.refl _ _) _)
          have HS3 := Lib.hid hS3
          have hbs := HB.out.size
          have hb2s := hB2.size
          have hXl2 := stBits_len (freeOf l0).length s
          have HGT := Lib.hid (fun j hj => stBits_get (freeOf l0).length s j hj)
          have hfs := Lib.hid (fill_step (stBits (freeOf l0).length s))
          have hs32 : s < 2 ^ 32 := Nat.lt_of_lt_of_le hsl (Nat.pow_le_pow_right (by omega) (by omega))
          generalize hY : stBits (freeOf l0).length s = Y at *
          have HY := Lib.hid hY
          have HYL := Lib.hid hXl2
          clear hY hXl2 hM3 hS3 hS
          go_loopw [41] (fun i wq => ∃ (j : Nat), j ≤ (freeOf l0).length ∧ i = .int .i64 j ∧ Kd.R Kd.bool 4 wq w2.heap.size (fun _ => True) (.slice (some ⟨wo.heap.size, 0, none⟩) (freeOf l0).length (freeOf l0).length) (Y.take j ++ List.replicate (Y.length - j) false) ∧
            Kd.S (Kd.slice 4 Kd.bool) 23 wq w2.heap.size (fun k_ => True ∧ some k_ ≠ (.slice (some ⟨wo.heap.size, 0, none⟩) (freeOf l0).length (freeOf l0).length : Value).ownBlock) (.slice B Z.length cB) Z ∧ Below wo.heap.size wo wq) (fun i _ => (freeOf l0).length - (intOf i).toNat)
          case atStart =>
            have h0 := own_made_of' (enc := Value.bool) (d := false) wo w2.heap.size 4 (freeOf l0).length (by omega) (by omega)
            exact ⟨0, Nat.zero_le _, rfl, by rw [List.take_zero, List.nil_append, HYL.out, Nat.sub_zero]; exact Kd.R_of_own h0 (fun _ _ => trivial), HS3.out, below_alloc (Below.refl _ _) _⟩
          case round =>
            obtain ⟨j, hj, rfl, hR, hS4, hB4⟩ := hrel
            by_cases hlt2 : j < (freeOf l0).length
            · obtain ⟨⟨b0, hc1⟩, hf1, hbs2⟩ := row_cell hR j (by simp only [List.length_append, List.length_take, List.length_replicate]; have := HYL.out; omega)
              have hbit := bit_u64 s ((freeOf l0).length - 1 - j) hs32
              rw [← HGT.out j hlt2] at hbit
              have hfk := Lib.hid (hfs.out j (by have := HYL.out; omega))
              have HR := Lib.hid hR
              have HS4 := Lib.hid hS4
              clear hR hS4
              have hbj := Lib.hid (hbc.out g j wr (HM2.out.below (below_step hB2 hB4)) hlt2)
              generalize Y.getD j false = bk at *
              cases bk <;> simp only [Bool.false_eq_true, if_false, if_true] at hbit
              all_goals
                go_wp2_with fail
                refine hbj.out.mono ?_
                rintro e w' ⟨rfl, rfl⟩
                go_wp2_with fail
                go_roundw
                case rel => exact ⟨j + 1, by omega, by go_num, by rw [← hfk.out]; exact Kd.R_putn HR.out (j : Int) _, Kd.S_far HS4.out (fun k hk => by have := hk.2; simp [Value.ownBlock] at this; exact this) _, below_set hB4 (Nat.le_refl _)⟩
                case measure => simp [intOf]; omega
            · obtain rfl : j = (freeOf l0).length := by omega
              rw [show Y.take (freeOf l0).length ++ List.replicate (Y.length - (freeOf l0).length) false = Y from by rw [← HYL.out, List.take_length, Nat.sub_self]; simp] at hR
              have HR := Lib.hid hR
              have HS4 := Lib.hid hS4
              have hne : ∀ k_, some k_ = (.slice (some ⟨wo.heap.size, 0, none⟩) (freeOf l0).length (freeOf l0).length : Value).ownBlock → True ∧ some k_ ≠ (.slice B Z.length cB : Value).ownBlock := fun k_ h1 => ⟨trivial, fun h2 => ((Kd.S_R hS4).1 k_ h2.symm).2 h1⟩
              have HNE := Lib.hid hne
              have hB5 := below_step hB2 hB4
              have HB5 := Lib.hid hB5
              clear hR hS4 hne hB4 hB5
              go_wp2_with (at_builtin; refine Kd.S_append (Kd.slice 4 Kd.bool) (w0 := w2) w2.heap.size rfl (.tmp 55) (.tmp 57) 32 23 (.slice none 0 0) 24 rfl Try.underlying32 info23 rfl (by decide) (by omega) _ Z Y [.slice (some ⟨wo.heap.size, 0, none⟩) (freeOf l0).length (freeOf l0).length] (fun _ => True) (fun k_ => some k_ = (.slice (some ⟨wo.heap.size, 0, none⟩) (freeOf l0).length (freeOf l0).length : Value).ownBlock) rfl (by first | rfl | go_simp) ?aP HNE.out ?aF ?aO ?aB ?aS ?aL ?_; (case aP => exact Kd.M_row (Kd.R_tight rfl HR.out)); (case aF => exact fun _ _ => trivial); (case aO => exact Kd.S_mono HS4.out (fun k_ hk => ⟨trivial, fun e => hk.2 e⟩)); (case aB => exact HB5.out); (case aS => exact below_size HB5.out); (case aL => omega); intro v2 w5 ho hb5 hg hat; have HK := Lib.hid (And.intro hb5 ho); have HG := Lib.hid (And.intro hg hat); clear hb5 ho hg hat)
              go_roundw
              case rel => exact ⟨k + 1, by omega, by go_num, by rw [hmap0.out]; exact HK.out.2, HK.out.1⟩
              case measure => simp [intOf]; omega
        · obtain rfl : k = X.length := by omega
          rw [List.take_length] at hS
          have hS' := Kd.S_lower hS HB.out.size
          go_wp2_with fail
          go_ret2
          exact ⟨_, rfl, by rw [hsB.out]; exact hS', below_step HB.out hB2⟩
def cause_States.f (l0 : List S44) (l1 : List S48) (a2 : Int) : Option ((List (List Bool)) × Int) := some (statesV l0 l1 a2)
theorem cause_States.calls (A0 : Option Addr) (c0 : Nat) (l0 : List S44) (A1 : Option Addr) (c1 : Nat) (l1 : List S48) (a2 : Int) (r1 : List (List Bool)) (r2 : Int) (w : World) (hr0 : Kd.C k44 w A0 l0.length l0) (hc0 : l0.length ≤ c0) (hr1 : Kd.C k48 w A1 l1.length l1) (hc1 : l1.length ≤ c1) (h : cause_States.f l0 l1 a2 = some (r1, r2)) :
    Calls Try.prog 18 #[.slice A0 l0.length c0, .slice A1 l1.length c1, .int .i64 a2] w fun e w' => ∃ v0_ : Value, e = .returned (.tuple #[v0_, .int .i64 r2]) ∧ Kd.S (Kd.slice 4 Kd.bool) 23 w' w.heap.size (fun _ => True) v0_ r1 ∧ Below w.heap.size w w' := by
  have hs := states_calls A0 c0 l0 A1 c1 l1 a2 w hr0 hc0 hr1
  have e := Option.some.inj h
  rw [e] at hs
  exact hs
end Go.Proofs.Ytjdhnhfglpogmaa.P
