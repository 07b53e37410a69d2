/- Chapter 40: BallotMixes. -/
import Derived.Test.YtkaebblbmoolaaaDoorPbF
import Derived.Test.YtkaebblbmoolaaaDoorXhead40
set_option linter.unusedSimpArgs false
set_option linter.unusedVariables false
namespace Go.Proofs.YtkaebblbmoolaaaDoor.P
open Go Go.RowKit Go.Proofs.YtkaebblbmoolaaaDoorW.PrintWords Go.Proofs.YtkaebblbmoolaaaDoorW.PrintLast Go.Proofs.YtkaebblbmoolaaaDoorW.PrintMore Go.Proofs.YtkaebblbmoolaaaDoor.Ord
attribute [local go_sem ↓] Go.wp_at_zero Go.wp_at_succ
set_option maxHeartbeats 4000000 in
set_option maxRecDepth 100000 in
theorem mixes_walk (a0 : Int) (A1 : Option Addr) (c1 : Nat) (l1 : List (S23)) (A2 : Option Addr) (c2 : Nat) (l2 : List Int) (A3 : Option Addr) (c3 : Nat) (l3 : List Int) (A4 : Option Addr) (c4 : Nat) (l4 : List Int) (A5 : Option Addr) (c5 : Nat) (l5 : List Int) (w : World)
    (hr1 : Kd.C k23 w A1 l1.length l1) (hc1 : l1.length ≤ c1) (hr2 : Kd.C (Kd.int .i64) w A2 l2.length l2) (hc2 : l2.length ≤ c2) (hr3 : Kd.C (Kd.int .i64) w A3 l3.length l3) (hc3 : l3.length ≤ c3) (hr4 : Kd.C (Kd.int .i64) w A4 l4.length l4) (hc4 : l4.length ≤ c4) (hr5 : Kd.C (Kd.int .i64) w A5 l5.length l5) (hc5 : l5.length ≤ c5) (hT : TabOk w)
    (h0 : (Lit.int .u64 a0).wf = true) :
    Calls Tryd.prog 6 #[.int .u64 a0, .slice A1 l1.length c1, .slice A2 l2.length c2, .slice A3 l3.length c3, .slice A4 l4.length c4, .slice A5 l5.length c5] w fun e w' => e = .returned (.bool true) ∧ Below w.heap.size w w' := by
  obtain ⟨x0, x1⟩ := secN_lt a0
  have hsec := secret_f h0
  generalize secN a0 = x at x0 x1 hsec
  have HX := Lib.hid (And.intro x0 x1)
  have HP := Lib.hid (public_f x0 x1)
  have HS := Lib.hid hsec
  have HT := Lib.hid hT
  have HR := Lib.hid (And.intro hr1 (And.intro hr2 (And.intro hr3 (And.intro hr4 hr5))))
  have HC := Lib.hid (And.intro hc1 (And.intro hc2 (And.intro hc3 (And.intro hc4 hc5))))
  clear x0 x1 hsec h0 hT hr1 hr2 hr3 hr4 hr5 hc1 hc2 hc3 hc4 hc5
  go_enter Tryd.func6, Tryd.ntmps6
  go_wp2_with fail
  refine (cohousinglaw40_head.calls true w HT.out rfl).mono ?_
  rintro e w2 ⟨rfl, hb2⟩
  have HB2 := Lib.hid hb2
  clear hb2
  go_wp2_with fail
  refine (cohousingref08_Secret.calls a0 (x : Int) w2 HS.out).mono ?_
  rintro e w3 ⟨rfl, hd⟩
  have HB3 := Lib.hid (below_step HB2.out hd.below)
  clear hd HB2
  go_wp2_with fail
  refine (cohousinglaw40_public.calls (x : Int) (pubN x : Int) w3 HP.out).mono ?_
  rintro e w4 ⟨rfl, hb4⟩
  have HB4 := Lib.hid (HB3.out.trans (Below.mono hb4 HB3.out.size))
  clear hb4 HB3
  by_cases h8 : (8 : Int) < (l1.length : Int)
  · have d8 : decide ((8 : Int) < (l1.length : Int)) = true := decide_eq_true h8
    clear h8
    go_wp2_with fail
    go_ret
    exact ⟨rfl, HB4.out⟩
  have d8 : decide ((8 : Int) < (l1.length : Int)) = false := decide_eq_false h8
  have H8 := Lib.hid (show l1.length ≤ 8 by omega)
  clear h8
  go_wp2_with fail
  refine (shuf_calls (pubN x : Int) A1 c1 l1 A2 c2 l2 A3 c3 l3 A4 c4 l4 A5 c5 l5 w4 (Kd.C_below HR.out.1 HB4.out) HC.out.1 (Kd.C_below HR.out.2.1 HB4.out) HC.out.2.1 (Kd.C_below HR.out.2.2.1 HB4.out) HC.out.2.2.1 (Kd.C_below HR.out.2.2.2.1 HB4.out) HC.out.2.2.2.1 (Kd.C_below HR.out.2.2.2.2 HB4.out) HC.out.2.2.2.2 (TabOk.below HT.out HB4.out) _ rfl).mono ?_
  rintro e w6 ⟨v0, v1, v2, rfl, o0, o1, o2, hb6⟩
  have HB6 := Lib.hid (HB4.out.trans (Below.mono hb6 HB4.out.size))
  clear hb6 HB4
  by_cases hok : shufOk (pubN x : Int) l1 l2 l3 l4 l5 = true
  · have hv : shufV (pubN x : Int) l1 l2 l3 l4 l5 = (shufMid (pubN x : Int) l1 l2 l4, shufOut (pubN x : Int) l1 l2 l3 l4 l5, shufLinks (pubN x : Int) l1 l2 l3 l4 l5, 0) := by unfold shufV; rw [if_pos hok]
    rw [hv] at o0 o1 o2 ⊢
    simp only at o0 o1 o2
    have HOK := Lib.hid hok
    clear hv hok
    obtain ⟨M0, n0, rfl, p0, q0⟩ := Kd.R_reads o0
    obtain ⟨M1, n1, rfl, p1, q1⟩ := Kd.R_reads o1
    obtain ⟨M2, n2, rfl, p2, q2⟩ := Kd.R_reads o2
    have HM := Lib.hid (And.intro p0 (And.intro q0 (And.intro p1 (And.intro q1 (And.intro p2 q2)))))
    clear o0 o1 o2 p0 q0 p1 q1 p2 q2
    have HCK := Lib.hid (shuf_chk HOK.out)
    have HAK := Lib.hid (shuf_ask HOK.out)
    obtain ⟨s0, s1, s2, s3, s4, s5⟩ := shuf_parts HOK.out
    have HSP := Lib.hid (And.intro s0 (And.intro s1 (And.intro s2 (And.intro s3 (And.intro s4 s5)))))
    have HML := Lib.hid (show (shufMid (pubN x : Int) l1 l2 l4).length = l1.length from mixL_len _ _ _ _)
    have HOL := Lib.hid (show (shufOut (pubN x : Int) l1 l2 l3 l4 l5).length = l1.length from (mixL_len _ _ _ _).trans (mixL_len _ _ _ _))
    have HKL := Lib.hid (show (shufLinks (pubN x : Int) l1 l2 l3 l4 l5).length = l1.length by simp [shufLinks])
    have HMC := Lib.hid (mixL_ciphs (pubN x : Int) l1 l2 l4 s0 s1 s2 s4)
    have HLK := Lib.hid (fun (j : Nat) (hj : j < l1.length) => (show (shufLinks (pubN x : Int) l1 l2 l3 l4 l5)[j]? = some (linkAt l2 l3 l4 l5 (shufBits (pubN x : Int) l1 l2 l3 l4 l5) j) by simp [shufLinks, hj]))
    have hmc : ∀ v, cntV (shufMid (pubN x : Int) l1 l2 l4) x v = cntV l1 x v := fun v => mix_count v HX.out.2 rfl s1 s2 s4
    have hoc : ∀ v, cntV (shufOut (pubN x : Int) l1 l2 l3 l4 l5) x v = cntV l1 x v := fun v => (mix_count v HX.out.2 rfl HMC.out (by rw [mixL_len]; exact s3) (by rw [mixL_len]; exact s5)).trans (hmc v)
    have hoc2 : ciphsB (shufOut (pubN x : Int) l1 l2 l3 l4 l5) = true := mixL_ciphs (pubN x : Int) _ l3 l5 s0 HMC.out (by rw [mixL_len]; exact s3) (by rw [mixL_len]; exact s5)
    have hn1 : 1 ≤ l1.length := by simp only [ciphsB, Bool.and_eq_true, decide_eq_true_eq] at s1; exact s1.1
    have HN1 := Lib.hid hn1
    have HCNT := Lib.hid (fun v => And.intro (count_f l1 x v HX.out.1 HX.out.2 s1 100 (by omega)) (And.intro (by rw [← hoc v]; exact count_f _ x v HX.out.1 HX.out.2 hoc2 100 (by omega) : cohousinglaw40_count.f 100 (shufOut (pubN x : Int) l1 l2 l3 l4 l5) (x : Int) v = some (cntV l1 x v)) (by rw [← hmc v]; exact count_f _ x v HX.out.1 HX.out.2 HMC.out 100 (by omega) : cohousinglaw40_count.f 100 (shufMid (pubN x : Int) l1 l2 l4) (x : Int) v = some (cntV l1 x v))))
    clear s0 s1 s2 s3 s4 s5 hmc hoc hoc2 hn1
    obtain ⟨md, hmd⟩ : ∃ l, l = shufMid (pubN x : Int) l1 l2 l4 := ⟨_, rfl⟩
    obtain ⟨ot, hot⟩ : ∃ l, l = shufOut (pubN x : Int) l1 l2 l3 l4 l5 := ⟨_, rfl⟩
    obtain ⟨lk, hlk⟩ : ∃ l, l = shufLinks (pubN x : Int) l1 l2 l3 l4 l5 := ⟨_, rfl⟩
    obtain ⟨bits, hbits⟩ : ∃ l, l = shufBits (pubN x : Int) l1 l2 l3 l4 l5 := ⟨_, rfl⟩
    rw [← hmd, ← hot] at HCK HAK HM HCNT
    rw [← hbits] at HAK HLK
    rw [← hlk] at HCK HM HLK HKL
    rw [← hmd] at HML
    rw [← hot] at HOL
    rw [← hmd, ← hot, ← hlk]
    clear hmd hot hlk hbits HMC
    go_wp2_with fail
    obtain ⟨hx7, hs7, hb7⟩ := Blk.box w6 28 [Value.slice M0 md.length n0, Value.slice M1 ot.length n1, Value.slice M2 lk.length n2]
    rw [show (List.toArray [Value.slice M0 md.length n0, Value.slice M1 ot.length n1, Value.slice M2 lk.length n2]) = #[Value.slice M0 md.length n0, Value.slice M1 ot.length n1, Value.slice M2 lk.length n2] from rfl] at hx7 hs7 hb7
    generalize w6.alloc (Obj.cells #[Value.slice M0 md.length n0, Value.slice M1 ot.length n1, Value.slice M2 lk.length n2] 28) = w7 at hx7 hs7 hb7 ⊢
    have HW := Lib.hid (fun (W : World) (h : Below w6.heap.size w6 W) => (⟨HB6.out.trans (Below.mono h HB6.out.size), TabOk.below HT.out (HB6.out.trans (Below.mono h HB6.out.size))⟩ : Below w.heap.size w W ∧ TabOk W))
    refine (ballot_Check.calls (pubN x : Int) A1 c1 l1 M0 n0 md M1 n1 ot M2 n2 lk true 0 w7 (Kd.C_below HR.out.1 (HW.out _ hb7).1) HC.out.1 (Kd.C_below HM.out.2.1 hb7) HM.out.1 (Kd.C_below HM.out.2.2.2.1 hb7) HM.out.2.2.1 (Kd.C_below HM.out.2.2.2.2.2 hb7) HM.out.2.2.2.2.1 (HW.out _ hb7).2 (by unfold ballot_Check.f; rw [HCK.out])).mono ?_
    rintro e w8 ⟨rfl, hb8⟩
    have hx8 := hx7.below hb8 hx7.lt
    have HB8 := Lib.hid (show Below w6.heap.size w6 w8 from hb7.trans (Below.mono hb8 (by omega)))
    have m0 := hx8.cell 0 _ rfl
    have m1 := hx8.cell 1 _ rfl
    have m2 := hx8.cell 2 _ rfl
    have HX8 := Lib.hid hx8
    clear hx7 hs7 hb7 hb8 hx8
    go_wp2_with fail
    refine (ballot_Asked.calls A1 c1 l1 M0 n0 md M1 n1 ot bits 0 w8 (Kd.C_below HR.out.1 (HW.out _ HB8.out).1) HC.out.1 (Kd.C_below HM.out.2.1 HB8.out) HM.out.1 (Kd.C_below HM.out.2.2.2.1 HB8.out) HM.out.2.2.1 (HW.out _ HB8.out).2 (by unfold ballot_Asked.f; rw [HAK.out.1])).mono ?_
    rintro e w9 ⟨vb, rfl, ho9, hb9⟩
    obtain ⟨g, cap, rfl, hg1, hg2, cells, hg3⟩ := Kd.R_form ho9 (by have := HAK.out.2; have := HN1.out; omega)
    have hfr9 : Fr w6 w6.heap.size g [Value.slice M0 md.length n0, Value.slice M1 ot.length n1, Value.slice M2 lk.length n2] cells.toList w9 := ⟨HB8.out.trans (Below.mono hb9 HB8.out.size), HX8.out.below hb9 HX8.out.lt, by unfold Blk; exact hg3⟩
    have HCL := Lib.hid (fun (j : Nat) (hj : j < bits.length) => (Kd.R_celln false ho9 (j : Int) (by omega) (by omega)).1)
    have HCW := Lib.hid hg3
    have H9 := Lib.hid hfr9
    have n0' := hfr9.m.cell 0 _ rfl
    have n1' := hfr9.m.cell 1 _ rfl
    have n2' := hfr9.m.cell 2 _ rfl
    have b0 : ((ot.length : Int) != (l1.length : Int)) = false := by have := HOL.out; simp; omega
    have b1 : ((lk.length : Int) != (l1.length : Int)) = false := by have := HKL.out; simp; omega
    have b2 : ((bits.length : Int) != (l1.length : Int)) = false := by have := HAK.out.2; simp; omega
    obtain ⟨ai, rfl, -, -⟩ := read_ci HR.out.1 (Below.refl _ _) 0 (by omega) (by have := HN1.out; omega)
    obtain ⟨ak, rfl, -, -, -⟩ := read_l HM.out.2.2.2.2.2 (Below.refl _ _) 0 (lk[0]'(by have := HKL.out; have := HN1.out; omega)) (List.getElem?_eq_getElem (by have := HKL.out; have := HN1.out; omega))
    clear hfr9 ho9 hb9 hg1 hg2 hg3 m0 m1 m2 HB8 HX8
    go_wp2_with fail
    go_loopw [13, 117] (fun u i wr => ∃ k : Nat, k ≤ l1.length ∧ u = .bool true ∧ i = .int .i64 k ∧ Hid (Fr w6 w6.heap.size g [Value.slice M0 md.length n0, Value.slice M1 ot.length n1, Value.slice (some ak) lk.length n2] cells.toList wr)) (fun _ i _ => l1.length - (intOf i).toNat)
    case atStart => exact ⟨0, Nat.zero_le _, rfl, rfl, H9.out⟩
    case round =>
      obtain ⟨k, hk, rfl, rfl, hfr⟩ := hrel
      by_cases hlt : k < l1.length
      · obtain ⟨ad, e, hl0, hl1⟩ := read_ci HR.out.1 (HW.out _ hfr.out.b).1 (k : Int) (by omega) (by omega)
        cases e
        simp only [Int.toNat_natCast] at hl0 hl1
        have qi := ciphs_rd HSP.out.2.1 (show (0 : Int) ≤ (k : Int) by omega) (by omega)
        obtain ⟨o, ho⟩ : ∃ o, cohousinglaw40_open.f (rd_T23 l1 (k : Int)).f0 (rd_T23 l1 (k : Int)).f1 (x : Int) = some o := ⟨_, open_f x HX.out.1 HX.out.2 qi.1 qi.2⟩
        have HO := Lib.hid ho
        clear ho qi
        have k0 : (k : Int) < (l1.length : Int) := by omega
        go_wp2_with fail
        obtain ⟨hx7, hs7, hb7⟩ := Blk.box wr 23 [Value.int IntKind.i64 (rd_T23 l1 (k : Int)).f0, Value.int IntKind.i64 (rd_T23 l1 (k : Int)).f1]
        rw [show (List.toArray [Value.int IntKind.i64 (rd_T23 l1 (k : Int)).f0, Value.int IntKind.i64 (rd_T23 l1 (k : Int)).f1]) = #[Value.int IntKind.i64 (rd_T23 l1 (k : Int)).f0, Value.int IntKind.i64 (rd_T23 l1 (k : Int)).f1] from rfl] at hx7 hs7 hb7
        generalize wr.alloc (Obj.cells #[Value.int IntKind.i64 (rd_T23 l1 (k : Int)).f0, Value.int IntKind.i64 (rd_T23 l1 (k : Int)).f1] 23) = wc at hx7 hs7 hb7 ⊢
        have hfc := hfr.out.below hb7 (Nat.le_refl _)
        refine (cohousinglaw40_open.calls (rd_T23 l1 (k : Int)).f0 (rd_T23 l1 (k : Int)).f1 (x : Int) o wc HO.out).mono ?_
        rintro e wd ⟨rfl, hbd⟩
        have HFD := Lib.hid (hfc.below hbd (Nat.le_refl _))
        clear hx7 hs7 hb7 hfc hbd hl0 hl1
        go_wp2_with fail
        have hS : ∀ W, Held (fun W => Fr w6 w6.heap.size g [Value.slice M0 md.length n0, Value.slice M1 ot.length n1, Value.slice (some ak) lk.length n2] cells.toList W) W → W.cell? ⟨w6.heap.size, 0, none⟩ = some (.slice M0 md.length n0) ∧ W.cell? ⟨w6.heap.size, 1, none⟩ = some (.slice M1 ot.length n1) := fun W hW =>
          ⟨hW.m.cell 0 _ rfl, hW.m.cell 1 _ rfl⟩
        have HFE := Lib.hid (HFD.out.below (below_drew (Below.refl wd.heap.size wd)) (Nat.le_refl _))
        refine wp_region_auto (fun W => Fr w6 w6.heap.size g [Value.slice M0 md.length n0, Value.slice M1 ot.length n1, Value.slice (some ak) lk.length n2] cells.toList W) ((0, none, none) :: (0, none, none) :: (0, some (126, true), none) :: (0, some (126, true), none) :: (0, some (126, true), none) :: (1, some (126, true), none) :: (1, some (126, true), none) :: (1, some (126, true), none) :: (1, some (126, true), none) :: (0, some (126, true), some true) :: (0, some (126, true), some true) :: (0, some (126, true), none) :: (0, none, none) :: (0, none, none) :: (0, some (138, true), none) :: (0, some (138, true), none) :: (0, some (138, true), none) :: (1, some (138, true), none) :: (1, some (138, true), none) :: (1, some (138, true), none) :: (1, some (138, true), none) :: (0, some (138, true), some true) :: (0, some (138, true), some true) :: (0, some (138, true), none) :: (0, none, none) :: (0, none, none) :: []) (by kernel_rfl) (by kernel_rfl) (fun _ _ d _ _ h => by cases d <;> exact h) HFE.out ?_
        repeat' (first
          | (with_reducible apply rel_pass
             focus (intro W hW; first | (go_simp; exact rfl) | go_simp)
             simp only [Act.put, List.setIfInBounds_toArray, List.set_cons_zero, List.set_cons_succ])
          | (with_reducible apply rel_yes
             focus (exact rfl))
          | (with_reducible apply rel_no
             focus (exact rfl)
             simp only [Act.put, List.setIfInBounds_toArray, List.set_cons_zero, List.set_cons_succ])
          | (with_reducible apply rel_askF
             focus (exact rfl)
             all_goals (intro hb; simp only [hb, Act.put, List.setIfInBounds_toArray, List.set_cons_zero, List.set_cons_succ]))
          | (with_reducible apply rel_askT
             focus (exact rfl)
             all_goals (intro hb; simp only [hb, Act.put, List.setIfInBounds_toArray, List.set_cons_zero, List.set_cons_succ]))
          | (with_reducible apply rel_front1)
          | (with_reducible apply rel_front2)
          | (with_reducible apply rel_front3)
          | (with_reducible apply rel_front4)
          | (with_reducible apply rel_front5)
          | (with_reducible apply rel_front6))
        with_reducible apply rel_act
        intro K hK
        go_simp
        refine (cohousinglaw40_count.calls 100 (some ai) c1 l1 (x : Int) o (cntV l1 x o) wd.drew (Kd.C_below HR.out.1 (HW.out _ HFE.out.b).1) HC.out.1 (HCNT.out o).1).mono ?_
        rintro e we ⟨rfl, hb⟩
        have HFwe := Lib.hid (HFE.out.below hb (Nat.le_refl _))
        clear hb
        refine hK _ _ ⟨fun _ => HFwe.out, ?_⟩
        clear hK K
        try simp only [Act.put, List.setIfInBounds_toArray, List.set_cons_zero, List.set_cons_succ]
        repeat' (first
          | (with_reducible apply rel_pass
             focus (intro W hW; first | (go_simp; exact rfl) | go_simp)
             simp only [Act.put, List.setIfInBounds_toArray, List.set_cons_zero, List.set_cons_succ])
          | (with_reducible apply rel_yes
             focus (exact rfl))
          | (with_reducible apply rel_no
             focus (exact rfl)
             simp only [Act.put, List.setIfInBounds_toArray, List.set_cons_zero, List.set_cons_succ])
          | (with_reducible apply rel_askF
             focus (exact rfl)
             all_goals (intro hb; simp only [hb, Act.put, List.setIfInBounds_toArray, List.set_cons_zero, List.set_cons_succ]))
          | (with_reducible apply rel_askT
             focus (exact rfl)
             all_goals (intro hb; simp only [hb, Act.put, List.setIfInBounds_toArray, List.set_cons_zero, List.set_cons_succ]))
          | (with_reducible apply rel_front1)
          | (with_reducible apply rel_front2)
          | (with_reducible apply rel_front3)
          | (with_reducible apply rel_front4)
          | (with_reducible apply rel_front5)
          | (with_reducible apply rel_front6))
        with_reducible apply rel_act
        intro K hK
        go_simp
        refine (cohousinglaw40_count.calls 100 M1 n1 ot (x : Int) o (cntV l1 x o) we (Kd.C_below HM.out.2.2.2.1 HFwe.out.b) HM.out.2.2.1 (HCNT.out o).2.1).mono ?_
        rintro e wf ⟨rfl, hb⟩
        have HFwf := Lib.hid (HFwe.out.below hb (Nat.le_refl _))
        clear hb
        refine hK _ _ ⟨fun _ => HFwf.out, ?_⟩
        clear hK K
        try simp only [Act.put, List.setIfInBounds_toArray, List.set_cons_zero, List.set_cons_succ]
        repeat' (first
          | (with_reducible apply rel_pass
             focus (intro W hW; first | (go_simp; exact rfl) | go_simp)
             simp only [Act.put, List.setIfInBounds_toArray, List.set_cons_zero, List.set_cons_succ])
          | (with_reducible apply rel_yes
             focus (exact rfl))
          | (with_reducible apply rel_no
             focus (exact rfl)
             simp only [Act.put, List.setIfInBounds_toArray, List.set_cons_zero, List.set_cons_succ])
          | (with_reducible apply rel_askF
             focus (exact rfl)
             all_goals (intro hb; simp only [hb, Act.put, List.setIfInBounds_toArray, List.set_cons_zero, List.set_cons_succ]))
          | (with_reducible apply rel_askT
             focus (exact rfl)
             all_goals (intro hb; simp only [hb, Act.put, List.setIfInBounds_toArray, List.set_cons_zero, List.set_cons_succ]))
          | (with_reducible apply rel_front1)
          | (with_reducible apply rel_front2)
          | (with_reducible apply rel_front3)
          | (with_reducible apply rel_front4)
          | (with_reducible apply rel_front5)
          | (with_reducible apply rel_front6))
        with_reducible apply rel_act
        intro K hK
        go_simp
        refine (cohousinglaw40_count.calls 100 (some ai) c1 l1 (x : Int) o (cntV l1 x o) wf (Kd.C_below HR.out.1 (HW.out _ HFwf.out.b).1) HC.out.1 (HCNT.out o).1).mono ?_
        rintro e wg ⟨rfl, hb⟩
        have HFwg := Lib.hid (HFwf.out.below hb (Nat.le_refl _))
        clear hb
        refine hK _ _ ⟨fun _ => HFwg.out, ?_⟩
        clear hK K
        try simp only [Act.put, List.setIfInBounds_toArray, List.set_cons_zero, List.set_cons_succ]
        repeat' (first
          | (with_reducible apply rel_pass
             focus (intro W hW; first | (go_simp; exact rfl) | go_simp)
             simp only [Act.put, List.setIfInBounds_toArray, List.set_cons_zero, List.set_cons_succ])
          | (with_reducible apply rel_yes
             focus (exact rfl))
          | (with_reducible apply rel_no
             focus (exact rfl)
             simp only [Act.put, List.setIfInBounds_toArray, List.set_cons_zero, List.set_cons_succ])
          | (with_reducible apply rel_askF
             focus (exact rfl)
             all_goals (intro hb; simp only [hb, Act.put, List.setIfInBounds_toArray, List.set_cons_zero, List.set_cons_succ]))
          | (with_reducible apply rel_askT
             focus (exact rfl)
             all_goals (intro hb; simp only [hb, Act.put, List.setIfInBounds_toArray, List.set_cons_zero, List.set_cons_succ]))
          | (with_reducible apply rel_front1)
          | (with_reducible apply rel_front2)
          | (with_reducible apply rel_front3)
          | (with_reducible apply rel_front4)
          | (with_reducible apply rel_front5)
          | (with_reducible apply rel_front6))
        with_reducible apply rel_act
        intro K hK
        go_simp
        refine (cohousinglaw40_count.calls 100 M0 n0 md (x : Int) o (cntV l1 x o) wg (Kd.C_below HM.out.2.1 HFwg.out.b) HM.out.1 (HCNT.out o).2.2).mono ?_
        rintro e wh ⟨rfl, hb⟩
        have HFwh := Lib.hid (HFwg.out.below hb (Nat.le_refl _))
        clear hb
        refine hK _ _ ⟨fun _ => HFwh.out, ?_⟩
        clear hK K
        try simp only [Act.put, List.setIfInBounds_toArray, List.set_cons_zero, List.set_cons_succ]
        repeat' (first
          | (with_reducible apply rel_pass
             focus (intro W hW; first | (go_simp; exact rfl) | go_simp)
             simp only [Act.put, List.setIfInBounds_toArray, List.set_cons_zero, List.set_cons_succ])
          | (with_reducible apply rel_yes
             focus (exact rfl))
          | (with_reducible apply rel_no
             focus (exact rfl)
             simp only [Act.put, List.setIfInBounds_toArray, List.set_cons_zero, List.set_cons_succ])
          | (with_reducible apply rel_askF
             focus (exact rfl)
             all_goals (intro hb; simp only [hb, Act.put, List.setIfInBounds_toArray, List.set_cons_zero, List.set_cons_succ]))
          | (with_reducible apply rel_askT
             focus (exact rfl)
             all_goals (intro hb; simp only [hb, Act.put, List.setIfInBounds_toArray, List.set_cons_zero, List.set_cons_succ]))
          | (with_reducible apply rel_front1)
          | (with_reducible apply rel_front2)
          | (with_reducible apply rel_front3)
          | (with_reducible apply rel_front4)
          | (with_reducible apply rel_front5)
          | (with_reducible apply rel_front6))
        apply rel_nil
        simp only [Exit.then, Exit.inBlock]
        clear hS
        have m0 := HFwh.out.m.cell 2 _ rfl
        have hkl : k < bits.length := by have := HAK.out.2; omega
        have h0 := HCL.out k hkl
        rw [Int.toNat_natCast] at h0
        simp only [World.cell?, HCW.out] at h0
        have hyk := HLK.out k hlt
        obtain ⟨y, hy⟩ : ∃ y, linkAt l2 l3 l4 l5 bits k = y := ⟨_, rfl⟩
        rw [hy] at hyk
        obtain ⟨ad, e, hl0, hl1, hl2⟩ := read_l HM.out.2.2.2.2.2 HFwh.out.b k y hyk
        cases e
        have HY := Lib.hid hy
        have k3 : (k : Int) < (lk.length : Int) := by have := HKL.out; omega
        have k4 : (k : Int) < (bits.length : Int) := by omega
        have hga := fun o => (HFwh.out.a.alloc o).cell k (.bool (rdOf false bits (k : Int))) (by simpa using h0)
        clear hyk hy h0
        have HWJ := Lib.hid (show wrap64 ((k : Int) + 1) = ((k + 1 : Nat) : Int) by have := H8.out; unfold wrap64; omega)
        by_cases hb : rdOf false bits (k : Int) = true
        · have e0 : y.f0 = (k : Int) := by rw [← HY.out]; unfold linkAt; rw [if_pos hb]
          rw [hb] at hga
          obtain ⟨f0, f1, f2⟩ := y
          simp only at e0
          subst e0
          simp only at hl0 hl1 hl2
          clear hb
          go_wp2_with fail
          refine ⟨⟨k + 1, by omega, by simp, by first | rw [HWJ.out] | rfl, HFwh.out.below ((Below.refl wh.heap.size wh).alloc (Nat.le_refl _) _) (Nat.le_refl _)⟩, ?_⟩
          try rw [HWJ.out]
          simp only [intOf, Int.toNat_natCast]
          omega
        · have e0 : y.f1 = (k : Int) := by rw [← HY.out]; unfold linkAt; rw [if_neg hb]
          rw [show rdOf false bits (k : Int) = false from by simpa using hb] at hga
          obtain ⟨f0, f1, f2⟩ := y
          simp only at e0
          subst e0
          simp only at hl0 hl1 hl2
          clear hb
          go_wp2_with fail
          refine ⟨⟨k + 1, by omega, by simp, by first | rw [HWJ.out] | rfl, HFwh.out.below ((Below.refl wh.heap.size wh).alloc (Nat.le_refl _) _) (Nat.le_refl _)⟩, ?_⟩
          try rw [HWJ.out]
          simp only [intOf, Int.toNat_natCast]
          omega
      · obtain rfl : k = l1.length := by omega
        go_wp2_with fail
        go_ret
        exact ⟨rfl, (HW.out _ hfr.out.b).1⟩
  · have hv : shufV (pubN x : Int) l1 l2 l3 l4 l5 = ([], [], [], 1) := by unfold shufV; rw [if_neg hok]
    rw [hv] at o0 o1 o2 ⊢
    simp only at o0 o1 o2
    clear hv hok
    obtain ⟨M0, n0, rfl, -, -⟩ := Kd.R_reads o0
    obtain ⟨M1, n1, rfl, -, -⟩ := Kd.R_reads o1
    obtain ⟨M2, n2, rfl, -, -⟩ := Kd.R_reads o2
    clear o0 o1 o2
    go_wp2_with fail
    go_ret
    exact ⟨rfl, HB6.out.alloc HB6.out.size _⟩
end Go.Proofs.YtkaebblbmoolaaaDoor.P
