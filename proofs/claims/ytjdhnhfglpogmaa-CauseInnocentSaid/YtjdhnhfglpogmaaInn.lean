/- Layer 36: CauseInnocent answers true: its walk, by hand. -/
import Derived.Test.YtjdhnhfglpogmaaLawU
import Derived.Test.YtjdhnhfglpogmaaXhead
import Derived.Test.YtjdhnhfglpogmaaPx1
set_option linter.unusedSimpArgs false
set_option linter.unusedVariables false
namespace Go.Proofs.Ytjdhnhfglpogmaa.P
open Go Go.RowKit Go.Proofs.YtjdhnhfglpogmaaW.PrintWords Go.Proofs.YtjdhnhfglpogmaaW.PrintLast Go.Proofs.YtjdhnhfglpogmaaW.PrintMore

theorem row_at {W : World} {base g n c : Nat} {ok : Nat → Prop} {xs : List Bool} (h : Kd.R Kd.bool 4 W base ok (.slice (some ⟨g, 0, none⟩) n c) xs) (k : Nat) (hk : k < xs.length) :
    W.cell? ⟨g, k, none⟩ = some (.bool (xs.getD k false)) ∧ W.frozen? ⟨g, k, none⟩ = false ∧ base ≤ g := by
  obtain ⟨inner, ho⟩ := Kd.R_own h
  obtain ⟨cells, hc⟩ := own_typed ho g rfl
  obtain ⟨A, c', he, hl, hC⟩ := Kd.R_reads h
  simp only [Value.slice.injEq] at he
  obtain ⟨rfl, rfl, rfl⟩ := he
  obtain ⟨ad, e, hx⟩ := Kd.at_bool hC (k : Int) (by omega) (by omega)
  cases e
  rw [Int.toNat_natCast, add_plain] at hx
  exact ⟨hx, blk_frozen hc k, own_base ho g rfl⟩

theorem getD_set (N : List Bool) (a c : Nat) (b : Bool) (h : a < N.length) : (N.set a b).getD c false = if a = c then b else N.getD c false := by
  simp only [List.getD_eq_getElem?_getD, List.getElem?_set]
  by_cases e : a = c
  · subst e; simp [h]
  · simp [e]
/-- What is needed, behind the rounds down to q. -/
def Good (l : List S44) (d : Nat) (N : List Bool) (q : Nat) : Prop :=
  N.length = l.length ∧ N.getD d false = true ∧ ∀ i, q ≤ i → i ≤ d → N.getD i false = true → ∀ p ∈ (rd_T44 l (i : Nat)).f1, N.getD p.toNat false = true
def GoodIn (l : List S44) (d : Nat) (N : List Bool) (i j : Nat) : Prop :=
  Good l d N (i + 1) ∧ (N.getD i false = true → ∀ j', j' < j → N.getD (rd (rd_T44 l (i : Nat)).f1 (j' : Nat)).toNat false = true)
theorem good_step (l : List S44) (d : Nat) (N : List Bool) (i j : Nat) (h : GoodIn l d N i j) (hi : i < l.length) (h0 : 0 ≤ rd (rd_T44 l (i : Nat)).f1 (j : Nat)) (h1 : rd (rd_T44 l (i : Nat)).f1 (j : Nat) < (i : Int)) :
    GoodIn l d (N.set (rd (rd_T44 l (i : Nat)).f1 (j : Nat)).toNat (N.getD (rd (rd_T44 l (i : Nat)).f1 (j : Nat)).toNat false || N.getD i false)) i (j + 1) := by
  obtain ⟨⟨hl, hd, hc⟩, hin⟩ := h
  generalize hp : rd (rd_T44 l (i : Nat)).f1 (j : Nat) = p at *
  have hpl : p.toNat < N.length := by omega
  have hget := fun c => getD_set N p.toNat c (N.getD p.toNat false || N.getD i false) hpl
  have mono : ∀ c, N.getD c false = true → (N.set p.toNat (N.getD p.toNat false || N.getD i false)).getD c false = true := by
    intro c hcT
    rw [hget c]
    by_cases e : p.toNat = c
    · subst e; rw [if_pos rfl, hcT, Bool.true_or]
    · rw [if_neg e]; exact hcT
  have same : ∀ c, i ≤ c → (N.set p.toNat (N.getD p.toNat false || N.getD i false)).getD c false = N.getD c false := by
    intro c hcI
    rw [hget c, if_neg (by omega)]
  refine ⟨⟨by rw [List.length_set]; exact hl, mono _ hd, ?_⟩, ?_⟩
  · intro i' h2 h3 h4 p' hp'
    rw [same i' (by omega)] at h4
    exact mono _ (hc i' h2 h3 h4 p' hp')
  · intro h4 j' hj'
    rw [same i (Nat.le_refl _)] at h4
    by_cases e : j' = j
    · subst e
      rw [hp, hget, if_pos rfl, h4, Bool.or_true]
    · exact mono _ (hin h4 j' (by omega))
theorem good_out (l : List S44) (d : Nat) (N : List Bool) (i : Nat) (h : GoodIn l d N i (rd_T44 l (i : Nat)).f1.length) : Good l d N i := by
  obtain ⟨⟨hl, hd, hc⟩, hin⟩ := h
  refine ⟨hl, hd, fun i' h1 h2 h3 p hp => ?_⟩
  by_cases e : i' = i
  · subst e
    obtain ⟨j, hj⟩ := List.getElem?_of_mem hp
    have hlt := (List.getElem?_eq_some_iff.1 hj).1
    have := hin h3 j hlt
    rwa [show rd (rd_T44 l (i' : Nat)).f1 (j : Nat) = p from by simp [rd, List.getD_eq_getElem?_getD, hj]] at this
  · exact hc i' (by omega) h2 h3 p hp

theorem set_lift {W W2 : World} {m : Nat} {ks : List Int} (h : IntSet W m ks) (hg : W.grownBy W2 (some m)) {p : Addr} {v : Value} (hp : W.cell? p = some v) : W2.cell? p = some v := by
  have hlt := World.block_lt_of_cell? W _ hp
  have hne : p.block ≠ m := by
    intro e
    obtain ⟨es, clk, h1, _⟩ := h
    rw [← e] at h1
    unfold World.cell? at hp
    rw [h1] at hp
    simp at hp
  rw [← hp]
  exact World.cell?_of_block (hg.block p.block hlt (fun e => hne (Option.some.inj e)))
/-- Who is guilty, behind k free variables and j states. -/
def GU (l : List S44) (S : List (List Bool)) (N : List Bool) (fr ks : List Int) (k j : Nat) : Prop :=
  (∀ q, q < k → ∀ t, t < S.length → (rd_L3 S (t : Nat)).getD q false = true → N.getD (rd fr (q : Nat)).toNat false = true → ks.contains (rd_T44 l (rd fr (q : Nat))).f0 = true) ∧
  (∀ t, t < j → (rd_L3 S (t : Nat)).getD k false = true → N.getD (rd fr (k : Nat)).toNat false = true → ks.contains (rd_T44 l (rd fr (k : Nat))).f0 = true)
theorem GU.next {l : List S44} {S : List (List Bool)} {N : List Bool} {fr ks : List Int} {k : Nat} (h : GU l S N fr ks k S.length) : GU l S N fr ks (k + 1) 0 := by
  refine ⟨fun q hq t ht h1 h2 => ?_, fun t ht => absurd ht (by omega)⟩
  by_cases e : q = k
  · subst e; exact h.2 t ht h1 h2
  · exact h.1 q (by omega) t ht h1 h2
theorem GU.skip {l : List S44} {S : List (List Bool)} {N : List Bool} {fr ks : List Int} {k j : Nat} (h : GU l S N fr ks k j) (hn : ¬ ((rd_L3 S (j : Nat)).getD k false = true ∧ N.getD (rd fr (k : Nat)).toNat false = true)) : GU l S N fr ks k (j + 1) := by
  refine ⟨h.1, fun t ht h1 h2 => ?_⟩
  by_cases e : t = j
  · subst e; exact absurd ⟨h1, h2⟩ hn
  · exact h.2 t (by omega) h1 h2
theorem GU.add {l : List S44} {S : List (List Bool)} {N : List Bool} {fr ks : List Int} {k j : Nat} (h : GU l S N fr ks k j) : GU l S N fr (if ks.contains (rd_T44 l (rd fr (k : Nat))).f0 then ks else ks ++ [(rd_T44 l (rd fr (k : Nat))).f0]) k (j + 1) := by
  refine ⟨fun q hq t ht h1 h2 => ?_, fun t ht h1 h2 => ?_⟩
  · rw [set_contains, h.1 q hq t ht h1 h2, Bool.true_or]
  · rw [set_contains]; simp

theorem innocent_pure (l : List S44) (seen : List S48) (day : Int) (d : Nat) (N : List Bool) (ks : List Int) (hv : validB l = true) (ho : obsB seen l.length = true) (hd : d < l.length) (hN : Good l d N 0) (hG : GU l (statesB l seen day) N (freeOf l) ks (freeOf l).length 0) :
    ∀ p ∈ (blameX l (agS l seen day) d).2.1, ks.contains p = true ∧ 1 ≤ p := by
  intro p hp
  have hb := valid_back hv
  unfold statesB at hG
  generalize agS l seen day = X at *
  unfold blameX at hp
  by_cases hX : X.length = 0
  · rw [if_pos hX] at hp
    simp at hp
  · rw [if_neg hX] at hp
    replace hp : p ∈ partyL (maybeB l X d) 64 := hp
    unfold partyL at hp
    rw [List.mem_filter, List.mem_map] at hp
    obtain ⟨⟨q, _, hq⟩, hm⟩ := hp
    refine ⟨?_, by omega⟩
    unfold maybeB at hm
    simp only [Bool.and_eq_true, decide_eq_true_eq] at hm
    obtain ⟨s, hs, hbl⟩ := (cnt_some l X d p).1 hm.2
    cases hc : ks.contains p with
    | true => rfl
    | false =>
      exfalso
      obtain ⟨t, ht⟩ := List.getElem?_of_mem hs
      have htl := (List.getElem?_eq_some_iff.1 ht).1
      have hSt : rd_L3 (X.map (stBits (freeOf l).length)) (t : Nat) = stBits (freeOf l).length s := by
        rw [rd_L3_map X _ t htl]
        simp [List.getD_eq_getElem?_getD, ht]
      have heq : ∀ i, i < l.length → i ≤ d → N.getD i false = true → (runB l (stBits (freeOf l).length s)).getD i false = (runB l (stBits (freeOf l).length (clearN s (maskOf l p)))).getD i false := by
        intro i
        induction i using Nat.strongRecOn with
        | ind i ih =>
          intro hi hid hNi
          by_cases h0 : (rd_T44 l (i : Nat)).f1.length = 0
          · obtain ⟨f1, f2⟩ := free_rd l i hi h0
            rw [runB_get l _ i hi, runB_get l _ i hi]
            unfold oneB
            rw [if_pos h0, if_pos h0, stBits_get _ _ _ f1, stBits_get _ _ _ f1, clearN_bit]
            unfold maskOf
            rw [maskN_bit l (freeOf l) p _ f1 _ (Nat.le_refl _), decide_eq_true f1, Bool.true_and, f2]
            cases hbit : s.testBit ((freeOf l).length - 1 - (freeOf (l.take i)).length) with
            | false => simp
            | true =>
              have hg := hG.1 _ f1 t (by simpa using htl) (by rw [hSt, stBits_get _ _ _ f1]; exact hbit) (by rw [f2]; exact hNi)
              rw [f2] at hg
              by_cases e : (rd_T44 l (i : Int)).f0 = p
              · rw [e, hc] at hg; cases hg
              · rw [decide_eq_false e]; rfl
          · rw [runB_at l hb _ i hi h0, runB_at l hb _ i hi h0]
            rw [atF_congr (b := fun p' => (runB l (stBits (freeOf l).length s)).getD p'.toNat false) (c := fun p' => (runB l (stBits (freeOf l).length (clearN s (maskOf l p)))).getD p'.toNat false) _ (fun p' hp' => ?_) _ (Nat.le_refl _)]
            have hbp := hb i hi p' hp'
            exact ih p'.toNat (by omega) (by omega) (by omega) (hN.2.2 i (by omega) hid hNi p' hp')
      have h1 := heq d hd (Nat.le_refl _) hN.2.1
      unfold blB at hbl
      rw [val_bits l hb _ d hd, val_bits l hb _ d hd, h1] at hbl
      cases hvv : (runB l (stBits (freeOf l).length (clearN s (maskOf l p)))).getD d false <;> rw [hvv] at hbl <;> cases hbl

set_option maxRecDepth 100000 in
set_option maxHeartbeats 4000000 in
theorem innocent_calls (A0 : Option Addr) (c0 : Nat) (l : List S44) (A1 : Option Addr) (c1 : Nat) (seen : List S48) (day which : Int) (w : World) (hr0 : Kd.C k44 w A0 l.length l) (hc0 : l.length ≤ c0) (hr1 : Kd.C k48 w A1 seen.length seen) (hc1 : seen.length ≤ c1) (ha : 0 ≤ which ∧ which < 256) :
    Calls Try.prog 9 #[.slice A0 l.length c0, .slice A1 seen.length c1, .int .i64 day, .int .u8 which] w fun e w' => e = .returned (.bool true) ∧ Below w.heap.size w w' := by
  obtain ⟨ku, hku⟩ := (usable_ev l seen day (len63 hr0)).rounds
  have HR0 := Lib.hid hr0
  have HR1 := Lib.hid hr1
  have HU := Lib.hid (fun W hb => cohousinglaw36_usable.calls ku A0 c0 l A1 c1 seen day (usableB l seen day) W (Kd.C_below hr0 hb) hc0 (Kd.C_below hr1 hb) hc1 hku)
  have HD := Lib.hid (cohousinglaw36_head.calls true w rfl)
  have HC0 := Lib.hid hc0
  have HC1 := Lib.hid hc1
  clear hku hc0 hc1 hr0 hr1
  cases hub : usableB l seen day with
  | false =>
    rw [hub] at HU
    clear hub
    go_enter Try.func9, Try.ntmps9
    go_wp2_with fail
    refine HD.out.mono ?_
    rintro e w1 ⟨rfl, hb1⟩
    go_wp2_with fail
    refine (HU.out w1 hb1).mono ?_
    rintro e w2 ⟨rfl, hb2⟩
    go_wp2_with fail
    go_ret
    exact ⟨rfl, below_step hb1 hb2⟩
  | true =>
    rw [hub] at HU
    obtain ⟨hv, ho, hd, _⟩ := usable_valid hub
    clear hub
    by_cases hl0 : l.length = 0
    · have hz : ((l.length : Int) == 0) = true := by rw [hl0]; rfl
      clear hl0
      go_enter Try.func9, Try.ntmps9
      go_wp2_with fail
      refine HD.out.mono ?_
      rintro e w1 ⟨rfl, hb1⟩
      go_wp2_with fail
      refine (HU.out w1 hb1).mono ?_
      rintro e w2 ⟨rfl, hb2⟩
      go_wp2_with fail
      go_ret
      exact ⟨rfl, below_step hb1 hb2⟩
    · obtain ⟨d, hdl, hde⟩ := tmod_nat which l.length ha.1 ha.2 (by omega)
      have hz : ((l.length : Int) == 0) = false := by rw [beq_eq_false_iff_ne]; omega
      have hde' : which % (l.length : Int) = (d : Int) := by
        rw [← hde, show wrap64 which = which from by unfold wrap64; omega, Int.tmod_eq_emod_of_nonneg ha.1]
      clear hde
      have hlen := valid_len hv
      have hmk := Lib.hid (fun W => run_make_row' (P := Try.prog) 23 4 (.bool false) 1 Try.underlying23 info4 rfl .i64 .i64 l.length (by omega) (by omega) W)
      go_enter Try.func9, Try.ntmps9
      go_wp2_with fail
      refine HD.out.mono ?_
      rintro e w1 ⟨rfl, hb1⟩
      go_wp2_with fail
      refine (HU.out w1 hb1).mono ?_
      rintro e w2 ⟨rfl, hb2⟩
      have HB := Lib.hid (below_step hb1 hb2)
      clear hb1 hb2
      obtain ⟨AL, hAL⟩ : ∃ AL : World → World, Hid (∀ W, AL W = W.alloc (Obj.cells (madeCells #[Value.bool false] l.length) 4)) := ⟨fun W => W.alloc (Obj.cells (madeCells #[Value.bool false] l.length) 4), fun _ => rfl⟩
      have hmk' := fun W => (hmk.out W).trans (by rw [← hAL.out])
      have hRA : Hid (∀ W (b : Nat), b ≤ W.heap.size → Kd.R Kd.bool 4 (AL W) b (fun _ => True) (.slice (some ⟨W.heap.size, 0, none⟩) l.length l.length) (List.replicate l.length false)) := by
        intro W b hb
        rw [hAL.out]
        have h0 := own_made_of' (enc := Value.bool) (d := false) W b 4 l.length hb (by omega)
        exact Kd.R_of_own h0 (fun _ _ => trivial)
      have hmc : ∀ W, (AL W).cell? ⟨W.heap.size, d, none⟩ = some (.bool false) := fun W => by
        have h := (row_at (hRA.out W W.heap.size (Nat.le_refl _)) d (by simpa using hdl)).1
        simpa [List.getD_eq_getElem?_getD, List.getElem?_replicate, hdl] using h
      have hmf : ∀ W, (AL W).frozen? ⟨W.heap.size, d, none⟩ = false := fun W => (row_at (hRA.out W W.heap.size (Nat.le_refl _)) d (by simpa using hdl)).2.1
      go_wp2_with fail
      clear hmk' hmc hmf
      have hback := Lib.hid (valid_back hv)
      obtain ⟨kf, hkf0⟩ := (free_ev l (by omega)).rounds
      have hkf := Lib.hid hkf0
      clear hkf0
      go_loopw [12] (fun iv wr => ∃ (q : Nat) (N : List Bool), q ≤ d + 1 ∧ iv = .int .i64 ((q : Int) - 1) ∧ Kd.R Kd.bool 4 wr w.heap.size (fun _ => True) (.slice (some ⟨w2.heap.size, 0, none⟩) l.length l.length) N ∧ Hid (Good l d N q) ∧ Below w.heap.size w wr) (fun iv _ => (intOf iv + 1).toNat)
      case atStart =>
        refine ⟨d + 1, (List.replicate l.length false).set d true, Nat.le_refl _, by first | (rw [hde']; simp) | simp, Kd.R_putn (hRA.out w2 w.heap.size HB.out.size) (d : Int) true, ⟨by simp, ?_, ?_⟩, below_set (by rw [hAL.out]; exact below_alloc HB.out _) HB.out.size⟩
        · rw [getD_set _ _ _ _ (by simpa using hdl), if_pos rfl]
        · intro i h1 h2; omega
      case round =>
        obtain ⟨q, N, hq, rfl, hR, hgood, hBr⟩ := hrel
        by_cases hq0 : q = 0
        · subst hq0
          have e1 := Lib.hid (statesV_x l seen day hv ho hd)
          have hmm := @run_makeMap Try.prog
          have HR := Lib.hid hR
          clear hR
          go_wp2_with fail
          refine (cause_States.calls A0 c0 l A1 c1 seen day _ _ wr (Kd.C_below HR0.out hBr) HC0.out (Kd.C_below HR1.out hBr) HC1.out (by unfold cause_States.f; rw [e1.out])).mono ?_
          rintro e w3 ⟨vS, rfl, hS, hb3⟩
          obtain ⟨AS, cS, rfl, hSl, hSC⟩ := Kd.R_reads (Kd.S_R hS)
          have HSC := Lib.hid hSC
          have HB3 := Lib.hid (below_step hBr hb3)
          have HN3 := Lib.hid (Kd.R_below HR.out hb3)
          clear hS hSC hSl hBr hb3 HR
          go_wp2_with fail
          refine (cohousingref36_Free.calls kf A0 c0 l (freeOf l) _ (Kd.C_below HR0.out (below_alloc HB3.out _)) HC0.out hkf.out).mono ?_
          rintro e w4 ⟨vF, rfl, hF, hb4⟩
          obtain ⟨AF, cF, rfl, hFl, hFC⟩ := Kd.R_reads hF
          have HBW := Lib.hid (below_step (below_alloc (Below.refl w3.heap.size w3) (.map #[] 0)) hb4)
          have HB4 := Lib.hid (below_step HB3.out HBW.out)
          have HS4 := Lib.hid (Kd.C_below HSC.out HBW.out)
          have HN4 := Lib.hid (Kd.R_reads' (Kd.R_below HN3.out HBW.out)).2.2
          have HF4 := Lib.hid hFC
          have hset0 : IntSet w4 w3.heap.size [] := (IntSet.new w3).same (hb4.block w3.heap.size (by simp))
          have HSL := Lib.hid (statesV_len l seen day)
          clear hF hFC hb4 HSC HN3 hFl hmm
          have hSlen : Hid (∀ t, t < (statesB l seen day).length → (rd_L3 (statesB l seen day) (t : Nat)).length = (freeOf l).length) := by
            intro t ht
            unfold statesB at ht ⊢
            rw [rd_L3_map _ _ t (by simpa using ht), stBits_len]
          have hfb := Lib.hid (freeOf_bound l)
          have hNl : N.length = l.length := hgood.out.1
          have hS63 : (statesB l seen day).length ≤ 4096 := by have := HSL.out.1; rw [e1.out] at this; exact this
          have hF63 : (freeOf l).length ≤ 12 := Nat.le_trans (freeAt_length l 0) hlen
          obtain ⟨HP⟩ : Nonempty (Hid (∀ ks, GU l (statesB l seen day) N (freeOf l) ks (freeOf l).length 0 → ∀ p ∈ (blameX l (agS l seen day) d).2.1, ks.contains p = true ∧ 1 ≤ p)) := ⟨fun ks hG => innocent_pure l seen day d N ks hv ho hdl hgood.out hG⟩
          have e3 := Lib.hid (blameV_x l seen day d hv ho hd hdl)
          have HBl := Lib.hid (blameV_len l seen day (d : Int))
          clear HSL hgood hv ho hd
          generalize hSS : statesB l seen day = S at *
          generalize hFF : freeOf l = fr at *
          go_wp2_with fail
          go_loopw [92] (fun kv wq => ∃ (k : Nat) (ks : List Int), k ≤ fr.length ∧ kv = .int .i64 k ∧ IntSet wq w3.heap.size ks ∧ Hid (GU l S N fr ks k 0) ∧ Hid (∀ p v, w4.cell? p = some v → wq.cell? p = some v) ∧ Below w.heap.size w wq) (fun kv _ => fr.length - (intOf kv).toNat)
          case atStart => exact ⟨0, [], Nat.zero_le _, rfl, hset0, ⟨fun q hq => absurd hq (by omega), fun t ht => absurd ht (by omega)⟩, fun p v h => h, HB4.out⟩
          case round =>
            obtain ⟨k, ks, hk, rfl, hset, hG, hL, hBq⟩ := hrel
            by_cases hlt : k < fr.length
            · obtain ⟨ad, eF, hx0⟩ := Kd.at_int HF4.out (k : Int) (by omega) (by omega)
              cases eF
              simp only [Int.toNat_natCast] at hx0
              replace hx0 := hL.out _ _ hx0
              have hbd := hfb.out (rd fr (k : Int)) (rd_mem hlt)
              obtain ⟨i, hi⟩ := Int.eq_ofNat_of_zero_le hbd.1
              rw [hi] at hx0
              have hi' := Lib.hid hi
              have hil : i < l.length := by omega
              clear hbd hi
              obtain ⟨wo, hwo⟩ : ∃ wo : World, wo = wr := ⟨_, rfl⟩
              go_wp2_with fail
              go_loopw [99] (fun tv wq => ∃ (t : Nat) (ks : List Int), t ≤ S.length ∧ tv = .int .i64 t ∧ IntSet wq w3.heap.size ks ∧ Hid (GU l S N fr ks k t) ∧ Hid (∀ p v, w4.cell? p = some v → wq.cell? p = some v) ∧ Below w.heap.size w wq) (fun tv _ => S.length - (intOf tv).toNat)
              case atStart => exact ⟨0, ks, Nat.zero_le _, rfl, hset, hG, hL, hBq⟩
              case round =>
                clear hL hG hset hBq hwo
                obtain ⟨t, ks, ht, rfl, hset, hG, hL, hBq⟩ := hrel
                by_cases htl : t < S.length
                · obtain ⟨ad3, As, cs, eS, hs0, hsl, hsC⟩ := at_L3 HS4.out (t : Int) (by omega) (by omega)
                  cases eS
                  simp only [Int.toNat_natCast] at hs0
                  have hln := hSlen.out t htl
                  obtain ⟨ad4, e4, hb0⟩ := Kd.at_bool hsC (k : Int) (by omega) (by omega)
                  cases e4
                  simp only [Int.toNat_natCast] at hb0
                  obtain ⟨ad5, e5, hn0⟩ := Kd.at_bool HN4.out (i : Int) (by omega) (by omega)
                  cases e5
                  rw [Int.toNat_natCast, add_plain] at hn0
                  obtain ⟨ad6, A1', c1', A2', c2', e6, hp0, _, _, _, _, _, _⟩ := at_T44 HR0.out (i : Int) (by omega) (by omega)
                  cases e6
                  simp only [Int.toNat_natCast] at hp0
                  rw [hln] at hs0 hsl
                  replace hs0 := hL.out _ _ hs0
                  clear hsC
                  have hb1 : Hid (rdOf false (rd_L3 S (t : Int)) (k : Int) = (rd_L3 S (t : Nat)).getD k false) := rfl
                  have hn1 : Hid (rdOf false N (i : Int) = N.getD (rd fr (k : Nat)).toNat false) := by unfold Hid; rw [hi'.out]; rfl
                  have hp1 : Hid (rd_T44 l (i : Int) = rd_T44 l (rd fr (k : Nat))) := by unfold Hid; rw [hi'.out]
                  have HL := Lib.hid hL
                  have HBQ := Lib.hid hBq
                  have HSET := Lib.hid hset
                  have HG := Lib.hid hG
                  clear hset hG hL hBq
                  go_wp2_with fail
                  refine (cohousingref36_Free.calls kf _ c0 l fr wr (Kd.C_below HR0.out HBQ.out) HC0.out hkf.out).mono ?_
                  rintro e w5 ⟨vF5, rfl, hF5, hb5⟩
                  obtain ⟨AF5, cF5, rfl, hF5l, _⟩ := Kd.R_reads hF5
                  have HL5 : Hid (∀ p v, w4.cell? p = some v → w5.cell? p = some v) := fun p v h => (hb5.cell (World.block_lt_of_cell? wr _ (HL.out.out p v h))).trans (HL.out.out p v h)
                  have HB5 := Lib.hid (below_step HBQ.out hb5)
                  have hset5 := HSET.out.same (hb5.block w3.heap.size HSET.out.lt)
                  replace hb0 := HL5.out _ _ hb0
                  replace hn0 := HL5.out _ _ hn0
                  replace hp0 := (HB5.out.cell (World.block_lt_of_cell? w _ hp0)).trans hp0
                  have hGs := Lib.hid (fun h => GU.skip HG.out.out h)
                  have hGa := Lib.hid (GU.add HG.out.out)
                  rw [← hp1.out] at hGa
                  clear hF5 hF5l hb5 HG HL HBQ HSET hs0
                  cases hbb : rdOf false (rd_L3 S (t : Int)) (k : Int) with
                  | false =>
                    rw [hbb] at hb0
                    have HG2 := Lib.hid (hGs.out (fun h => by rw [← hb1.out, hbb] at h; cases h.1))
                    clear hbb hGs hGa
                    go_wp2_with fail
                    go_roundw
                    case rel => exact ⟨t + 1, ks, by omega, by go_num, hset5, HG2, HL5, HB5.out⟩
                    case measure => simp [intOf]; omega
                  | true =>
                    rw [hbb] at hb0
                    cases hnn : rdOf false N (i : Int) with
                    | false =>
                      rw [hnn] at hn0
                      have HG2 := Lib.hid (hGs.out (fun h => by rw [← hn1.out, hnn] at h; cases h.2))
                      clear hbb hnn hGs hGa
                      go_wp2_with fail
                      go_roundw
                      case rel => exact ⟨t + 1, ks, by omega, by go_num, hset5, HG2, HL5, HB5.out⟩
                      case measure => simp [intOf]; omega
                    | true =>
                      rw [hnn] at hn0
                      clear hbb hnn hGs
                      have HSET5 := Lib.hid hset5
                      clear hset5
                      generalize (rd_T44 l (i : Int)).f0 = x at *
                      go_wp2_with (at_mapUpdate; refine wpList_update_set rfl _ _ _ rfl Try.underlying53 Try.underlying3 rfl HSET5.out _ rfl rfl ?_; intro W2 hm2 hg2; have HK := Lib.hid (And.intro hm2 (And.intro (HB5.out.grown hg2 HB5.out.size (fun k_ hk_ => by cases hk_; exact HB3.out.size)) (fun p v (h : w4.cell? p = some v) => set_lift HSET5.out hg2 (HL5.out p v h)))); clear hm2 hg2)
                      go_roundw
                      case rel => exact ⟨t + 1, _, by omega, by go_num, HK.out.1, hGa, HK.out.2.2, HK.out.2.1⟩
                      case measure => simp [intOf]; omega
                · obtain rfl : t = S.length := by omega
                  go_wp2_with fail
                  go_roundw
                  case rel => exact ⟨k + 1, ks, by omega, by go_num, hset, GU.next hG.out, hL, hBq⟩
                  case measure => simp [intOf] <;> omega
            · obtain rfl : k = fr.length := by omega
              have hpp := Lib.hid (HP.out ks hG.out)
              have hB3 : (blameX l (agS l seen day) d).2.2 = 0 ∨ (blameX l (agS l seen day) d).2.2 = 4 := by
                unfold blameX
                split
                · exact .inr rfl
                · exact .inl rfl
              have hB63 : (blameX l (agS l seen day) d).2.1.length ≤ 64 := by have := HBl.out.2; rw [e3.out] at this; exact this
              clear HP hG hL HBl
              generalize blameX l (agS l seen day) d = B at *
              obtain ⟨B1, B2, B3⟩ := B
              have HSET := Lib.hid hset
              clear hset
              go_wp2_with fail
              refine (cause_Blame.calls A0 c0 l A1 c1 seen day (d : Int) B1 B2 B3 wr (Kd.C_below HR0.out hBq) HC0.out (Kd.C_below HR1.out hBq) HC1.out (by unfold cause_Blame.f; rw [e3.out])).mono ?_
              rintro e w6 ⟨v0, v1, rfl, hM0, hM1, hb6⟩
              obtain ⟨AM0, cM0, rfl, _, _⟩ := Kd.R_reads hM0
              obtain ⟨AM, cM, rfl, _, hMC⟩ := Kd.R_reads hM1
              have hset6 := Lib.hid (HSET.out.same (hb6.block w3.heap.size HSET.out.lt))
              have HMC := Lib.hid hMC
              have HB6 := Lib.hid (below_step hBq hb6)
              clear hM0 hM1 hMC hb6 hBq HSET
              go_wp2_with fail
              go_loopw [138] (fun jv wq => ∃ (j : Nat), j ≤ B2.length ∧ jv = .int .i64 j ∧ w6 = wq) (fun jv _ => B2.length - (intOf jv).toNat)
              case atStart => exact ⟨0, Nat.zero_le _, rfl, rfl⟩
              case round =>
                obtain ⟨j, hj, rfl, rfl⟩ := hrel
                by_cases hjl : j < B2.length
                · obtain ⟨ad7, e7, hy0⟩ := Kd.at_int HMC.out (j : Int) (by omega) (by omega)
                  cases e7
                  simp only [Int.toNat_natCast] at hy0
                  obtain ⟨hyc, hy1⟩ := hpp.out (rd B2 (j : Int)) (rd_mem hjl)
                  generalize rd B2 (j : Int) = y at *
                  have hlk := run_lookup_set Try.underlying53 Try.underlying3 (fun w => Try.zeroValue4 w) hset6.out y
                  rw [hyc] at hlk
                  have hy2 : ¬ y < 1 := by omega
                  clear hyc
                  go_wp2_with fail
                  go_roundw
                  case rel => exact ⟨j + 1, by omega, by go_num, trivial⟩
                  case measure => simp [intOf]; omega
                · rcases hB3 with hB3 | hB3
                  all_goals
                    have hB3' : B3 = _ := hB3
                    subst hB3'
                    go_wp2_with fail
                    go_ret
                    exact ⟨rfl, HB6.out⟩
        · obtain ⟨i, rfl⟩ : ∃ i, q = i + 1 := ⟨q - 1, by omega⟩
          rw [show (((i + 1 : Nat) : Int) - 1) = (i : Int) by omega]
          have hil : i < l.length := by omega
          obtain ⟨ad, Ap, cp, At, ct, hA, hx0, hx1, hx2, hle1, hC1, hle2, hC2⟩ := at_T44 HR0.out (i : Int) (by omega) (by omega)
          cases hA
          simp only [Int.toNat_natCast] at hx1
          replace hx1 := (hBr.cell (World.block_lt_of_cell? w _ hx1)).trans hx1
          have HPS := Lib.hid hC1
          clear hx0 hx2 hC1 hC2 hle2
          generalize hps : (rd_T44 l (i : Int)).f1 = ps at *
          have hps63 : ps.length ≤ 9223372036854775807 := HPS.out.2.1
          have HR := Lib.hid hR
          have HBr := Lib.hid hBr
          clear hR hBr
          obtain ⟨wo, hwo⟩ : ∃ wo : World, wo = wr := ⟨_, rfl⟩
          go_wp2_with fail
          go_loopw [61] (fun jv wq => ∃ (j : Nat) (N : List Bool), j ≤ ps.length ∧ jv = .int .i64 j ∧ Kd.R Kd.bool 4 wq w.heap.size (fun _ => True) (.slice (some ⟨w2.heap.size, 0, none⟩) l.length l.length) N ∧ Hid (GoodIn l d N i j) ∧ Below w.heap.size w wq) (fun jv _ => ps.length - (intOf jv).toNat)
          case atStart => exact ⟨0, N, Nat.zero_le _, rfl, HR.out, ⟨hgood.out, fun _ j' hj' => absurd hj' (by omega)⟩, HBr.out⟩
          case round =>
            obtain ⟨j, N', hj, rfl, hR', hgi, hBq⟩ := hrel
            by_cases hlt : j < ps.length
            · obtain ⟨ad2, e2, hp0⟩ := Kd.at_int HPS.out (j : Int) (by omega) (by omega)
              cases e2
              simp only [Int.toNat_natCast] at hp0
              replace hp0 := (hBq.cell (World.block_lt_of_cell? w _ hp0)).trans hp0
              have hpb := hback.out i hil (rd ps (j : Int)) (by rw [hps]; exact rd_mem hlt)
              have hst := good_step l d N' i j hgi.out hil (by rw [hps]; exact hpb.1) (by rw [hps]; exact hpb.2)
              rw [hps] at hst
              generalize rd ps (j : Int) = p at *
              obtain ⟨pn, rfl⟩ := Int.eq_ofNat_of_zero_le hpb.1
              rw [Int.toNat_natCast] at hst
              have hN'l : N'.length = l.length := hgi.out.1.1
              have hpn : pn < i := by omega
              obtain ⟨hcp, hfp, hbs⟩ := row_at hR' pn (by omega)
              obtain ⟨hci, hfi, _⟩ := row_at hR' i (by omega)
              have HR' := Lib.hid hR'
              have hcm : Hid (∃ b, (N'.getD pn false || N'.getD i false) = b) := ⟨_, rfl⟩
              clear hR' hgi hN'l hps
              cases hb1 : N'.getD pn false with
              | true =>
                rw [hb1] at hcp hst
                rw [Bool.true_or] at hst
                have HST := Lib.hid hst
                clear hst hb1
                go_wp2_with fail
                go_roundw
                case rel => exact ⟨j + 1, N'.set pn true, by omega, by go_num, Kd.R_putn HR'.out (pn : Int) true, HST, below_set hBq hbs⟩
                case measure => simp [intOf]; omega
              | false =>
                rw [hb1] at hcp hst
                rw [Bool.false_or] at hst
                have HST := Lib.hid hst
                clear hst hb1
                generalize N'.getD i false = bi at *
                go_wp2_with fail
                go_roundw
                case rel => exact ⟨j + 1, N'.set pn bi, by omega, by go_num, Kd.R_putn HR'.out (pn : Int) bi, HST, below_set hBq hbs⟩
                case measure => simp [intOf]; omega
            · obtain rfl : j = ps.length := by omega
              go_wp2_with fail
              go_roundw
              case rel => exact ⟨i, N', by omega, by first | rfl | (rw [show wrap64 ((i : Int) - 1) = (i : Int) - 1 from by unfold wrap64; omega]), hR', by have h := hgi.out; rw [← hps] at h; exact good_out l d N' i h, hBq⟩
              case measure => simp [intOf] <;> omega
end Go.Proofs.Ytjdhnhfglpogmaa.P
