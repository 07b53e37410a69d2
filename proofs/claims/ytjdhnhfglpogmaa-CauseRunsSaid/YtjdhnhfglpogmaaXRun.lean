/- cause.Run: the values of all variables. -/
import Derived.Test.YtjdhnhfglpogmaaPvalid
import Derived.Outline
set_option linter.unusedSimpArgs false
set_option linter.unusedVariables false
namespace Go.Proofs.Ytjdhnhfglpogmaa.P
open Go.RowKit Go.Proofs.YtjdhnhfglpogmaaW.PrintWords Go.Proofs.YtjdhnhfglpogmaaW.PrintLast Go.Proofs.YtjdhnhfglpogmaaW.PrintMore

/-- The number of a state. -/
def stF (free : List Bool) (m : Nat) : Nat → Nat
  | 0 => 0
  | k + 1 => stF free m k ||| (if free.getD k false then 2 ^ (m - 1 - k) else 0)
theorem stF_lt (free : List Bool) (m : Nat) : ∀ k, k ≤ m → stF free m k < 2 ^ m
  | 0, _ => by simpa [stF] using Nat.two_pow_pos m
  | k + 1, hk => or_lt (stF_lt free m k (by omega)) (ite_lt (by omega))
theorem stF_bit (free : List Bool) (m j : Nat) (hj : j < m) : ∀ k, k ≤ m → (stF free m k).testBit (m - 1 - j) = (decide (j < k) && free.getD j false)
  | 0, _ => by simp [stF]
  | k + 1, hk => by
    have ih := stF_bit free m j hj k (by omega)
    simp only [stF, Nat.testBit_or, ih]
    by_cases hjk : j = k
    · subst hjk
      cases free.getD j false <;> simp [Nat.testBit_two_pow]
    · have : (if free.getD k false then 2 ^ (m - 1 - k) else 0).testBit (m - 1 - j) = false := by
        split
        · rw [Nat.testBit_two_pow]; simp; omega
        · simp
      rw [this, Bool.or_false]
      by_cases h : j < k
      · rw [decide_eq_true h, decide_eq_true (show j < k + 1 by omega)]
      · rw [decide_eq_false h, decide_eq_false (show ¬ j < k + 1 by omega)]
theorem fill_step (X : List Bool) (k : Nat) (hk : k < X.length) : (X.take k ++ List.replicate (X.length - k) false).set k (X.getD k false) = X.take (k + 1) ++ List.replicate (X.length - (k + 1)) false := by
  have h1 : (X.take k).length = k := by rw [List.length_take]; omega
  rw [List.set_append_right _ _ (by omega), h1, Nat.sub_self, show X.length - k = (X.length - (k + 1)) + 1 from by omega, List.replicate_succ, List.set_cons_zero, List.take_succ_eq_append_getElem hk, List.append_assoc]
  simp [List.getD_eq_getElem?_getD, List.getElem?_eq_getElem hk]
/-- Where an own row's cell lies, and that it can be written. -/
theorem row_cell {W : World} {base g n c : Nat} {ok : Nat → Prop} {xs : List Bool} (h : Kd.R Kd.bool 4 W base ok (.slice (some ⟨g, 0, none⟩) n c) xs) (k : Nat) (hk : k < xs.length) :
    (∃ b, W.cell? ⟨g, k, none⟩ = some (.bool b)) ∧ W.frozen? ⟨g, k, none⟩ = false ∧ base ≤ g := by
  obtain ⟨inner, ho⟩ := Kd.R_own h
  obtain ⟨cells, hc⟩ := own_typed ho g rfl
  obtain ⟨A, c', he, hl, hC⟩ := Kd.R_reads h
  simp only [Value.slice.injEq] at he
  obtain ⟨rfl, rfl, rfl⟩ := he
  obtain ⟨ad, e, hx⟩ := Kd.at_bool hC (k : Int) (by omega) (by omega)
  cases e
  rw [Int.toNat_natCast, add_plain] at hx
  exact ⟨⟨_, hx⟩, blk_frozen hc k, own_base ho g rfl⟩
/-- What Run gives. -/
def runV (l : List S44) (free : List Bool) : List Bool × Int := if validB l && decide (free.length = (freeOf l).length) then (runB l free, 0) else ([], 1)

set_option maxRecDepth 100000 in
set_option maxHeartbeats 4000000 in
theorem run_calls (A0 : Option Addr) (c0 : Nat) (l0 : List S44) (A1 : Option Addr) (c1 : Nat) (l1 : List Bool) (w : World) (hr0 : Kd.C k44 w A0 l0.length l0) (hc0 : l0.length ≤ c0) (hr1 : Kd.C Kd.bool w A1 l1.length l1) :
    Calls Try.prog 13 #[.slice A0 l0.length c0, .slice A1 l1.length c1] w fun e w' => ∃ v0_ : Value, e = .returned (.tuple #[v0_, .int .i64 (runV l0 l1).2]) ∧ Kd.R Kd.bool 4 w' w.heap.size (fun _ => True) v0_ (runV l0 l1).1 ∧ Below w.heap.size w w' := by
  obtain ⟨kv, hkv⟩ := (cause_valid_ev l0 (len63 hr0)).rounds
  have hl63 : l1.length ≤ 9223372036854775807 := hr1.2.1
  have HR0 := Lib.hid hr0
  have HR1 := Lib.hid hr1
  have hu60 := Try.underlying60
  cases hval : validB l0 with
  | false =>
    rw [hval] at hkv
    have hn := Lib.hid (newModel_no kv A0 c0 l0 w hr0 hc0 hkv)
    have hv : Hid (runV l0 l1 = ([], 1)) := by unfold Hid runV; rw [hval]; rfl
    rw [hv.out]
    clear hkv hval hr0 hr1
    go_enter Try.func13, Try.ntmps13
    go_wp2_with fail
    refine hn.out.mono ?_
    rintro e w1 ⟨rfl, hb⟩
    go_wp2_with fail
    go_ret2
    exact ⟨_, rfl, Kd.R_nil _ _ _ _ _, hb⟩
  | true =>
    rw [hval] at hkv
    have hlen := valid_len hval
    have hn := Lib.hid (newModel_yes kv A0 c0 l0 w hr0 hc0 hkv (by omega))
    have hfl : (freeOf l0).length ≤ 12 := Nat.le_trans (freeAt_length l0 0) hlen
    by_cases hfe : l1.length = (freeOf l0).length
    · have hv : Hid (runV l0 l1 = (runB l0 l1, 0)) := by unfold Hid runV; rw [hval, decide_eq_true hfe]; rfl
      rw [hv.out]
      have hne : ((l1.length : Int) != ((freeOf l0).length : Int)) = false := by simp [hfe]
      have hvc := Lib.hid (fun s g W hs hW => values_calls g l0 (freeOf l0) s W hW hlen hfl hs (fun i hi => ⟨(freeOf_bound l0 i hi).1, by have := (freeOf_bound l0 i hi).2; omega⟩) (valid_ok hval))
      have hrun := Lib.hid (val_run l0 (valid_back hval) l1 (stF l1 l1.length l1.length) (fun k hk => by rw [← hfe]; rw [stF_bit l1 l1.length k (by omega) _ (Nat.le_refl _), decide_eq_true (by omega), Bool.true_and]) l0.length (Nat.le_refl _)).1
      have hvlt := valN_lt l0 (initN (freeOf l0) (stF l1 l1.length l1.length) (freeOf l0).length) (initN_lt _ _ (fun i hi => ⟨(freeOf_bound l0 i hi).1, by have := (freeOf_bound l0 i hi).2; omega⟩) _ (Nat.le_refl _)) l0.length hlen
      have hbc := Lib.hid (fun g k W hW hk => bit_calls g l0 (freeOf l0) k W hW hk (by omega))
      have hl1 : l1.length ≤ 12 := by omega
      have hsl := stF_lt l1 l1.length l1.length (Nat.le_refl _)
      have HFE := Lib.hid hfe
      have hmk := Lib.hid (fun W => run_make_row' (P := Try.prog) 23 4 (.bool false) 1 Try.underlying23 info4 rfl .i64 .i64 l0.length (by omega) (by omega) W)
      clear hkv hval hr0 hr1 hfe
      go_enter Try.func13, Try.ntmps13
      go_wp2_with fail
      refine hn.out.mono ?_
      rintro e w1 ⟨g, rfl, hM, hgs, hb⟩
      have HM := Lib.hid hM
      obtain ⟨AM, cM, FM, dM, hblk, _, _, _, _⟩ := hM
      have hg1 : w1.cell? ⟨g, 1, none⟩ = some (.slice FM (freeOf l0).length dM) := blk_cell hblk 1
      clear hblk
      go_wp2_with fail
      go_loopw [8, 33] (fun o i wr => ∃ (k : Nat), k ≤ l1.length ∧ i = .int .i64 k ∧ o = .int .u64 (stF l1 l1.length k : Nat) ∧ w1 = wr) (fun _ i _ => l1.length - (intOf i).toNat)
      case atStart => exact ⟨0, Nat.zero_le _, rfl, rfl, rfl⟩
      case round =>
        obtain ⟨k, hk, rfl, rfl, rfl⟩ := hrel
        by_cases hlt : k < l1.length
        · obtain ⟨ad, e, hx0⟩ := Kd.at_bool HR1.out (k : Int) (by omega) (by omega)
          cases e
          simp only [Int.toNat_natCast] at hx0
          replace hx0 := (hb.cell (World.block_lt_of_cell? w _ hx0)).trans hx0
          have hst : Hid (stF l1 l1.length (k + 1) = stF l1 l1.length k ||| (if rdOf false l1 k then 2 ^ (l1.length - 1 - k) else 0)) := by
            unfold Hid
            rfl
          have hsk := stF_lt l1 l1.length k hk
          have hs12 : stF l1 l1.length k < 2 ^ 32 := Nat.lt_of_lt_of_le hsk (Nat.pow_le_pow_right (by omega) (by omega))
          clear hsk
          generalize stF l1 l1.length k = o1 at *
          cases hbk : rdOf false l1 (k : Int) with
          | false =>
            rw [hbk] at hx0 hst
            go_wp2_with fail
            go_roundw
            case rel => exact ⟨k + 1, by omega, by go_num, by rw [hst.out]; simp, trivial⟩
            case measure => simp [intOf]; omega
          | true =>
            rw [hbk] at hx0 hst
            have hsh := Lib.hid (shl_one_u64 (l1.length - 1 - k) (by omega))
            have hor := Lib.hid (or_u64 o1 (2 ^ (l1.length - 1 - k)) hs12 (pow_lt32 (by omega)))
            go_wp2_with fail
            have hq := hbc.out g k w1 HM.out (by have := HFE.out; omega)
            rw [← HFE.out] at hq
            refine hq.mono ?_
            clear hq
            rintro e w' ⟨rfl, rfl⟩
            go_wp2_with fail
            go_roundw
            case rel => exact ⟨k + 1, by omega, by go_num, by rw [hsh.out, hor.out, hst.out]; simp, trivial⟩
            case measure => simp [intOf]; omega
        · obtain rfl : k = l1.length := by omega
          go_wp2_with fail
          refine (hvc.out (stF l1 l1.length l1.length) g w1 (by have := HFE.out; rw [← this]; exact hsl) HM.out).mono ?_
          rintro e w2 ⟨rfl, hb2⟩
          generalize valN l0 (initN (freeOf l0) (stF l1 l1.length l1.length) (freeOf l0).length) l0.length = V at *
          have HB := Lib.hid (below_step hb hb2)
          clear hb hb2 hg1 hsl
          have hmk' := hmk.out
          go_wp2_with fail
          clear hmk'
          have hXl : (runB l0 l1).length = l0.length := runB_len l0 l1
          have HX := Lib.hid (fun j (hj : j < l0.length) => (hrun.out j hj).trans (by rw [List.take_length]))
          have hfs := Lib.hid (fill_step (runB l0 l1))
          generalize hX : runB l0 l1 = X at *
          have HXE := Lib.hid hX
          clear hX
          have HXL := Lib.hid hXl
          clear hXl
          go_loopw [54] (fun i wr => ∃ (k : Nat), k ≤ l0.length ∧ i = .int .i64 k ∧ Kd.R Kd.bool 4 wr w.heap.size (fun _ => True) (.slice (some ⟨w2.heap.size, 0, none⟩) l0.length l0.length) (X.take k ++ List.replicate (X.length - k) false) ∧ Below w.heap.size w wr) (fun i _ => l0.length - (intOf i).toNat)
          case atStart =>
            have h0 := own_made_of' (enc := Value.bool) (d := false) w2 w.heap.size 4 l0.length HB.out.size (by omega)
            exact ⟨0, Nat.zero_le _, rfl, by rw [List.take_zero, List.nil_append, HXL.out, Nat.sub_zero]; exact Kd.R_of_own h0 (fun _ _ => trivial), below_alloc HB.out _⟩
          case round =>
            obtain ⟨k, hk, rfl, hR, hBr⟩ := hrel
            by_cases hlt : k < l0.length
            · obtain ⟨⟨b0, hc1⟩, hf1, hbs⟩ := row_cell hR k (by simp only [List.length_append, List.length_take, List.length_replicate]; have := HXL.out; omega)
              have hbit := bit_u64 V k (by omega)
              rw [HX.out k hlt] at hbit
              have hfk := Lib.hid (hfs.out k (by have := HXL.out; omega))
              have HR := Lib.hid hR
              clear hR
              generalize X.getD k false = bk at *
              cases bk <;> simp only [Bool.false_eq_true, if_false, if_true] at hbit
              all_goals
                go_wp2_with fail
                go_roundw
                case rel => exact ⟨k + 1, by omega, by go_num, by rw [← hfk.out]; exact Kd.R_putn HR.out (k : Int) _, below_set hBr hbs⟩
                case measure => simp [intOf]; omega
            · obtain rfl : k = l0.length := by omega
              go_wp2_with fail
              go_ret2
              exact ⟨.slice (some ⟨w2.heap.size, 0, none⟩) l0.length l0.length, rfl, by rw [show X.take l0.length ++ List.replicate (X.length - l0.length) false = X from by rw [← HXL.out, List.take_length, Nat.sub_self]; simp] at hR; first | exact hR | (rw [HXE.out]; exact hR), hBr⟩
    · have hv : Hid (runV l0 l1 = ([], 1)) := by unfold Hid runV; rw [hval, decide_eq_false hfe]; rfl
      rw [hv.out]
      have hne : ((l1.length : Int) != ((freeOf l0).length : Int)) = true := by simp; omega
      clear hkv hval hr0 hr1 hfe
      go_enter Try.func13, Try.ntmps13
      go_wp2_with fail
      refine hn.out.mono ?_
      rintro e w1 ⟨g, rfl, hM, hgs, hb⟩
      obtain ⟨AM, cM, FM, dM, hblk, _, _, _, _⟩ := hM
      have hg1 : w1.cell? ⟨g, 1, none⟩ = some (.slice FM (freeOf l0).length dM) := blk_cell hblk 1
      clear hblk
      go_wp2_with fail
      go_ret2
      exact ⟨_, rfl, Kd.R_nil _ _ _ _ _, hb⟩
def cause_Run.f (l0 : List S44) (l1 : List Bool) : Option (List Bool × Int) := some (runV l0 l1)
theorem cause_Run.calls (A0 : Option Addr) (c0 : Nat) (l0 : List S44) (A1 : Option Addr) (c1 : Nat) (l1 : List Bool) (r1 : List Bool) (r2 : Int) (w : World) (hr0 : Kd.C k44 w A0 l0.length l0) (hc0 : l0.length ≤ c0) (hr1 : Kd.C Kd.bool w A1 l1.length l1) (hc1 : l1.length ≤ c1) (h : cause_Run.f l0 l1 = some (r1, r2)) :
    Calls Try.prog 13 #[.slice A0 l0.length c0, .slice A1 l1.length c1] w fun e w' => ∃ v0_ : Value, e = .returned (.tuple #[v0_, .int .i64 r2]) ∧ Kd.R Kd.bool 4 w' w.heap.size (fun _ => True) v0_ r1 ∧ Below w.heap.size w w' := by
  have hrun := run_calls A0 c0 l0 A1 c1 l1 w hr0 hc0 hr1
  have e := Option.some.inj h
  rw [e] at hrun
  exact hrun
end Go.Proofs.Ytjdhnhfglpogmaa.P
