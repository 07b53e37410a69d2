/- agreeing: the states that agree with what was seen. -/
import Derived.Test.YtjdhnhfglpogmaaXobs
set_option linter.unusedSimpArgs false
set_option linter.unusedVariables false
namespace Go.Proofs.Ytjdhnhfglpogmaa.P
open Go.RowKit Go.Proofs.YtjdhnhfglpogmaaW.PrintWords Go.Proofs.YtjdhnhfglpogmaaW.PrintLast Go.Proofs.YtjdhnhfglpogmaaW.PrintMore

/-- Does an observation that counts hold, the variables' values being v? -/
def okS (v : Nat) (day : Int) (s : S48) : Bool := !(decide (s.f2 ≤ day) && (v.testBit s.f0.toNat != s.f1))
def agB (l : List S44) (seen : List S48) (day : Int) (s : Nat) : Bool := seen.all (okS (valN l (initN (freeOf l) s (freeOf l).length) l.length) day)
def agN (l : List S44) (seen : List S48) (day : Int) (k : Nat) : List Int := ((List.range k).filter (agB l seen day)).map (fun s : Nat => (s : Int))
theorem agN_yes (l : List S44) (seen : List S48) (day : Int) (k : Nat) (h : agB l seen day k = true) : agN l seen day (k + 1) = agN l seen day k ++ [(k : Int)] := by
  simp [agN, List.range_succ, List.filter_append, h]
theorem agN_no (l : List S44) (seen : List S48) (day : Int) (k : Nat) (h : agB l seen day k = false) : agN l seen day (k + 1) = agN l seen day k := by
  simp [agN, List.range_succ, List.filter_append, h]
theorem agN_len (l : List S44) (seen : List S48) (day : Int) (k : Nat) : (agN l seen day k).length ≤ k := by
  unfold agN
  rw [List.length_map]
  exact Nat.le_trans (List.length_filter_le _ _) (by simp)
theorem freeAt_bound : ∀ (l : List S44) (i : Nat), ∀ x ∈ freeAt l i, (i : Int) ≤ x ∧ x < (i + l.length : Nat)
  | [], i, x, h => by simp [freeAt] at h
  | v :: l, i, x, h => by
    have ih := freeAt_bound l (i + 1) x
    simp only [List.length_cons]
    simp only [freeAt] at h
    split at h
    · rcases List.mem_cons.1 h with rfl | h
      · omega
      · have := ih h
        omega
    · have := ih h
      omega
theorem freeOf_bound (l : List S44) (x : Int) (h : x ∈ freeOf l) : 0 ≤ x ∧ x < (l.length : Int) := by
  have := freeAt_bound l 0 x h
  omega
theorem info61 : (Try.prog.info? 61).map (fun i => (i.zero, i.size, i.bytes)) = some (some (.int .u64 0), 1, 8) := by kernel_rfl

set_option maxRecDepth 100000 in
set_option maxHeartbeats 4000000 in
theorem agreeing_calls (g : Nat) (l : List S44) (seen : List S48) (S : Option Addr) (d : Nat) (day : Int) (w : World) (hM : IsM w g l (freeOf l)) (hl : l.length ≤ 12) (hv : ∀ v ∈ l, VarOk v) (hs : Kd.C k48 w S seen.length seen) (hsb : ∀ s ∈ seen, 0 ≤ s.f0 ∧ s.f0 < 12) :
    Calls Try.prog 38 #[.pointer (some ⟨g, 0, none⟩), .slice S seen.length d, .int .i64 day] w fun e w' => ∃ v, e = .returned v ∧ Kd.R (Kd.int .u64) 61 w' w.heap.size (fun _ => True) v (agN l seen day (2 ^ (freeOf l).length)) ∧ Below w.heap.size w w' := by
  have hfl : (freeOf l).length ≤ 12 := Nat.le_trans (freeAt_length l 0) hl
  have hvc := Lib.hid (fun s W hs hW => values_calls g l (freeOf l) s W hW hl hfl hs (fun i hi => ⟨(freeOf_bound l i hi).1, by have := (freeOf_bound l i hi).2; omega⟩) hv)
  have HM := Lib.hid hM
  obtain ⟨A, c, F, d2, h1, h2, h3, h4, h5⟩ := hM
  have hu60 := Try.underlying60
  have hu48 := Try.underlying48
  have hg1 : w.cell? ⟨g, 1, none⟩ = some (.slice F (freeOf l).length d2) := blk_cell h1 1
  have hl63 : seen.length ≤ 9223372036854775807 := hs.2.1
  have HS := Lib.hid hs
  have HSB := Lib.hid hsb
  clear h1 h2 h3 h4 h5 hv hs hsb
  have hpw : 2 ^ (freeOf l).length < 2 ^ 13 := Nat.pow_lt_pow_right (by omega) (by omega)
  have hsh := shl_one_u64 (freeOf l).length (by omega)
  have HFL : ∀ s, s < 2 ^ (freeOf l).length → s < 2 ^ (freeOf l).length := fun s h => h
  generalize hm : 2 ^ (freeOf l).length = M at *
  have HMM := Lib.hid hm
  clear hm HFL
  go_enter Try.func38, Try.ntmps38
  go_wp2_with fail
  go_step3
  go_wp2_with fail
  go_step3
  go_wp2_with fail
  clear hsh hg1
  go_loopw [8, 21] (fun o i wr => ∃ (k : Nat), k ≤ M ∧ i = .int .u64 k ∧ Kd.R (Kd.int .u64) 61 wr w.heap.size (fun _ => True) o (agN l seen day k) ∧ Below w.heap.size w wr) (fun _ i _ => M - (intOf i).toNat)
  case atStart => exact ⟨0, Nat.zero_le _, rfl, Kd.R_nil _ _ _ _ _, Below.refl _ _⟩
  case round =>
    obtain ⟨k, hk, rfl, hR, hB⟩ := hrel
    by_cases hlt : k < M
    · have hvk := Lib.hid (hvc.out k _ (by first | exact hlt | (rw [HMM.out]; exact hlt)) (HM.out.below hB))
      have hagd : Hid (agB l seen day k = seen.all (okS (valN l (initN (freeOf l) k (freeOf l).length) l.length) day)) := rfl
      have hvl : valN l (initN (freeOf l) k (freeOf l).length) l.length < 2 ^ 12 := valN_lt l _ (initN_lt _ _ (fun i hi => ⟨(freeOf_bound l i hi).1, by have := (freeOf_bound l i hi).2; omega⟩) _ (Nat.le_refl _)) _ hl
      have hal := agN_len l seen day k
      obtain ⟨B, cB, rfl⟩ := Kd.R_slice hR
      have HR := Lib.hid hR
      clear hR
      generalize valN l (initN (freeOf l) k (freeOf l).length) l.length = v at *
      go_wp2_with fail
      refine hvk.out.mono ?_
      rintro e w2 ⟨rfl, hb2⟩
      have hB2 := below_step hB hb2
      have HR2 := Lib.hid (Kd.R_below HR.out hb2)
      clear hvk HR hb2
      go_wp2_with fail
      go_loopw [29] (fun i wq => ∃ (j : Nat), j ≤ seen.length ∧ i = .int .i64 j ∧ Hid (∀ (q : Nat) (y : S48), q < j → seen[q]? = some y → okS v day y = true) ∧ Below w2.heap.size w2 wq) (fun i _ => seen.length - (intOf i).toNat)
      case atStart => exact ⟨0, Nat.zero_le _, rfl, fun q y h => by omega, Below.refl _ _⟩
      case round =>
        obtain ⟨j, hj, rfl, hN, hB3⟩ := hrel
        have hBw := below_step hB2 hB3
        by_cases hlt2 : j < seen.length
        · obtain ⟨ad, e, hx0, hx1, hx2⟩ := at_T48 HS.out (j : Int) (by omega) (by omega)
          cases e
          simp only [Int.toNat_natCast] at hx0 hx1 hx2
          replace hx0 := (hBw.cell (World.block_lt_of_cell? w _ hx0)).trans hx0
          replace hx1 := (hBw.cell (World.block_lt_of_cell? w _ hx1)).trans hx1
          replace hx2 := (hBw.cell (World.block_lt_of_cell? w _ hx2)).trans hx2
          have hxj : seen[j]? = some (rd_T48 seen j) := by simp [rd_T48, List.getD_eq_getElem?_getD, List.getElem?_eq_getElem hlt2]
          have hx03 := HSB.out _ (List.mem_of_getElem? hxj)
          have HXJ := Lib.hid hxj
          clear hxj
          generalize rd_T48 seen (j : Int) = x at *
          obtain ⟨x0, x1, x2⟩ := x
          obtain ⟨hq1, hq2⟩ := hx03
          simp only at hx0 hx1 hx2 hq1 hq2
          obtain ⟨p, rfl⟩ := Int.eq_ofNat_of_zero_le hq1
          have hnext : okS v day ⟨(p : Int), x1, x2⟩ = true → Hid (∀ (q : Nat) (y : S48), q < j + 1 → seen[q]? = some y → okS v day y = true) := fun hok q y hq hy => by
            by_cases hjk : q < j
            · exact hN.out q y hjk hy
            · obtain rfl : q = j := by omega
              rw [HXJ.out] at hy
              cases hy
              exact hok
          by_cases hday : x2 ≤ day
          · have hdb : decide (x2 ≤ day) = true := decide_eq_true hday
            have hbit := bit_u64 v p (by omega)
            have hok : okS v day ⟨(p : Int), x1, x2⟩ = (v.testBit p == x1) := by
              simp only [okS, hdb, Bool.true_and, Int.toNat_natCast]
              cases v.testBit p <;> cases x1 <;> rfl
            have HOK := Lib.hid hok
            have HNX := Lib.hid hnext
            clear hok hnext hday
            generalize v.testBit p = tb at *
            have hbad : (tb == x1) = false → Hid (agB l seen day k = false) := fun h => by
              unfold Hid
              rw [hagd.out, List.all_eq_false]
              exact ⟨_, List.mem_of_getElem? HXJ.out, by rw [HOK.out, h]; simp⟩
            have HBAD := Lib.hid hbad
            clear hbad
            cases tb <;> cases x1 <;> simp only [Bool.false_eq_true, if_false, if_true] at hbit
            · have HN2 := HNX.out (by rw [HOK.out]; rfl)
              go_wp2_with fail
              go_quiet (fail)
              go_wp2_with fail
              go_roundw
              case rel => exact ⟨j + 1, by omega, by go_num, HN2, by repeat (first | (with_reducible first | exact hB3 | apply below_alloc | apply pw_below_drewN | apply below_drew1) | exact hB3)⟩
              case measure => simp [intOf]; omega
            · have HA := Lib.hid (agN_no l seen day k (HBAD.out rfl).out)
              go_wp2_with fail
              go_quiet (fail)
              go_wp2_with fail
              go_roundw
              case rel => exact ⟨k + 1, by omega, by go_num, by rw [HA.out]; ((with_reducible repeat (first | apply Kd.R_alloc | apply Kd.R_drewN | apply Kd.R_drew)); exact Kd.R_below HR2.out hB3), by repeat (first | (with_reducible first | exact hBw | apply below_alloc | apply pw_below_drewN | apply below_drew1) | exact hBw)⟩
              case measure => simp [intOf]; omega
            · have HA := Lib.hid (agN_no l seen day k (HBAD.out rfl).out)
              go_wp2_with fail
              go_quiet (fail)
              go_wp2_with fail
              go_roundw
              case rel => exact ⟨k + 1, by omega, by go_num, by rw [HA.out]; ((with_reducible repeat (first | apply Kd.R_alloc | apply Kd.R_drewN | apply Kd.R_drew)); exact Kd.R_below HR2.out hB3), by repeat (first | (with_reducible first | exact hBw | apply below_alloc | apply pw_below_drewN | apply below_drew1) | exact hBw)⟩
              case measure => simp [intOf]; omega
            · have HN2 := HNX.out (by rw [HOK.out]; rfl)
              go_wp2_with fail
              go_quiet (fail)
              go_wp2_with fail
              go_roundw
              case rel => exact ⟨j + 1, by omega, by go_num, HN2, by repeat (first | (with_reducible first | exact hB3 | apply below_alloc | apply pw_below_drewN | apply below_drew1) | exact hB3)⟩
              case measure => simp [intOf]; omega
          · have hdb : decide (x2 ≤ day) = false := decide_eq_false hday
            have HN2 := hnext (by simp [okS, hdb])
            clear hday hnext
            go_wp2_with fail
            go_quiet (fail)
            go_wp2_with fail
            go_roundw
            case rel => exact ⟨j + 1, by omega, by go_num, HN2, by repeat (first | (with_reducible first | exact hB3 | apply below_alloc | apply pw_below_drewN | apply below_drew1) | exact hB3)⟩
            case measure => simp [intOf]; omega
        · have HA : Hid (agN l seen day (k + 1) = agN l seen day k ++ [(k : Int)]) := agN_yes l seen day k (by
            rw [hagd.out, List.all_eq_true]
            intro y hy
            obtain ⟨q, hq⟩ := List.getElem?_of_mem hy
            exact hN.out q y (by have := (List.getElem?_eq_some_iff.1 hq).1; omega) hq)
          have HR3 := Lib.hid (Kd.R_below HR2.out hB3)
          go_wp2_with (at_builtin; refine Kd.R_append (Kd.int .u64) (w0 := w) w.heap.size rfl (.tmp 49) (.tmp 51) 68 61 (.int .u64 0) 8 rfl Try.underlying68 info61 rfl (by decide) (by omega) _ (agN l seen day k) (k : Int) [.int .u64 (k : Int)] (fun _ => True) (fun _ => False) rfl (by first | rfl | go_simp) ?aP (fun _ hk => hk.elim) ?aF ?aO ?aB ?aS ?aL ?_; (case aP => exact rfl); (case aF => exact fun _ _ => trivial); (case aO => exact HR3.out); (case aB => exact hBw); (case aS => exact below_size hBw); (case aL => omega); intro v2 w5 ho hb5 hg hat; have HK := Lib.hid (And.intro hb5 ho); clear hb5 ho hg hat)
          go_roundw
          case rel => exact ⟨k + 1, by omega, by go_num, by rw [HA.out]; exact HK.out.2, HK.out.1⟩
          case measure => simp [intOf]; omega
    · obtain rfl : k = M := by omega
      obtain ⟨B, cB, rfl⟩ := Kd.R_slice hR
      go_wp2_with fail
      rw [Exit.noGoto_ret]
      go_ret
      exact ⟨_, rfl, by first | exact hR | (rw [HMM.out]; exact hR), hB⟩
end Go.Proofs.Ytjdhnhfglpogmaa.P
