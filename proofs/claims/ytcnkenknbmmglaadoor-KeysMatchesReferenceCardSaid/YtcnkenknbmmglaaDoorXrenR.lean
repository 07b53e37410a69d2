/- The reference's Renew, walked. -/
import Derived.Test.YtcnkenknbmmglaaDoorPkF
import Derived.Test.YtcnkenknbmmglaaDoorPx12
import Derived.Deep.RegionHeld3
set_option linter.unusedSimpArgs false
set_option linter.unusedVariables false
namespace Go.Proofs.YtcnkenknbmmglaaDoor.P
open Go Go.RowKit Go.Proofs.YtcnkenknbmmglaaDoorW.PrintWords Go.Proofs.YtcnkenknbmmglaaDoorW.PrintLast Go.Proofs.YtcnkenknbmmglaaDoorW.PrintMore Go.Proofs.YtcnkenknbmmglaaDoor.Ord

/-- What stands still in the reference's Renew. -/
structure Rr (w W : World) (bx : Nat) (x : S49) : Prop where
  b : Below w.heap.size w W
  x : Blk W bx 49 (cK x)
theorem Rr.below {w W W' : World} {bx : Nat} {x : S49} (h : Rr w W bx x) (hb : Below W.heap.size W W') : Rr w W' bx x := ⟨h.b.trans (Below.mono hb h.b.size), h.x.below hb h.x.lt⟩
theorem rAll_ne (l : List S49) (ns : List Int) (x : S49) {y : S28} (v : List S28) (ks : List Int) (h : ¬ rTry l ns x y = 0) : rAll l ns x (y :: v) ks = (ks, rTry l ns x y) := by rw [rAll, if_neg h]
theorem info_I8 : (Tryd.prog.info? 3).map (fun i => (i.zero, i.size, i.bytes)) = some (some (.int .i64 0), 1, 8) := by kernel_rfl
set_option maxHeartbeats 8000000 in
set_option maxRecDepth 100000 in
theorem renR_calls (A0 : Option Addr) (c0 : Nat) (l : List S49) (A1 : Option Addr) (c1 : Nat) (ns : List Int) (need : Int) (A2 : Option Addr) (c2 : Nat) (v : List S28) (w : World) (hr0 : Kd.C k49 w A0 l.length l) (hc0 : l.length ≤ c0) (hr1 : Kd.C (Kd.int .i64) w A1 ns.length ns) (hc1 : ns.length ≤ c1) (hr2 : Kd.C k28 w A2 v.length v) (hc2 : v.length ≤ c2) :
    Calls Tryd.prog 17 #[.slice A0 l.length c0, .slice A1 ns.length c1, .int .i64 need, .slice A2 v.length c2] w fun e w' =>
      ∃ u, e = .returned (.tuple #[u, .int .i64 (rRenewV l ns need v).2]) ∧ Kd.R k49 49 w' w.heap.size (fun _ => True) u (rRenewV l ns need v).1 ∧ Below w.heap.size w w' := by
  have HR := Lib.hid (And.intro hr0 (And.intro hr1 hr2))
  have HC := Lib.hid (And.intro hc0 (And.intro hc1 hc2))
  clear hr0 hr1 hr2 hc0 hc1 hc2
  obtain ⟨RES, hRES⟩ : ∃ r, rRenewV l ns need v = r := ⟨_, rfl⟩
  rw [hRES]
  have HRES := Lib.hid hRES
  clear hRES
  go_enter Tryd.func17, Tryd.ntmps17
  go_wp2_with fail
  refine (cohousingref20_formed.calls 2100 A0 c0 l A1 c1 ns need A2 c2 v (validB l && formedV ns need v) w HR.out.1 HC.out.1 HR.out.2.1 HC.out.2.1 HR.out.2.2 HC.out.2.2 (rFormed_f l ns need v _ (Nat.le_refl _))).mono ?_
  rintro e w1 ⟨rfl, hd⟩
  have H1 := Lib.hid (show Below w.heap.size w w1 from by first | exact hd | exact hd.below)
  clear hd
  cases hf : (validB l && formedV ns need v) with
  | false =>
    have HE := Lib.hid (show RES = ([], 1) by rw [← HRES.out]; simp only [rRenewV, hf]; rfl)
    clear HRES hf
    go_wp2_with fail
    go_ret2
    exact ⟨_, by rw [HE.out]; rfl, by rw [HE.out]; exact Kd.R_nil _ _ _ _ _, H1.out⟩
  | true =>
  have hvf := hf
  rw [Bool.and_eq_true] at hvf
  obtain ⟨n1, n2, n3, n4, n5⟩ := formed_len hvf.2
  have hlen : l.length ≤ 1000 := ((valid_iff l).1 hvf.1).1
  obtain ⟨ad, rfl, d0, d1, d2, d3, d4, d5⟩ := at_T28 (Kd.C_below HR.out.2.2 H1.out) 0 (by omega) (by omega)
  have ea : ad.add 0 = ad := rfl
  simp only [Int.toNat_zero, Nat.zero_mul, ea] at d0 d1 d2 d3 d4 d5
  obtain ⟨x, hx⟩ : ∃ x, newK v = x := ⟨_, rfl⟩
  obtain ⟨hx0, hx1, hx2⟩ := says_new (formed_says hvf.2).2
  rw [hx] at hx0 hx1 hx2
  have HX := Lib.hid (And.intro (ok_new hx0 hx1 hx2) hx)
  have e0 : (rd_T28 v 0).f0 = x.f0 := by rw [← hx]; rfl
  have e1 : (rd_T28 v 0).f1 = x.f1 := by rw [← hx]; rfl
  have e2 : (rd_T28 v 0).f2 = x.f2 := by rw [← hx]; rfl
  rw [e0] at d0
  rw [e1] at d1
  rw [e2] at d2
  have HVF := Lib.hid hf
  have q : ∀ o p u, w1.cell? p = some u → (w1.alloc o).cell? p = some u := fun o p u h => (((Below.refl w1.heap.size w1).alloc (Nat.le_refl _) o).cell (World.block_lt_of_cell? w1 _ h)).trans h
  have q0 := fun o => q o _ _ d0
  have q1 := fun o => q o _ _ d1
  have q2 := fun o => q o _ _ d2
  clear q ea d3 d4 d5 hx0 hx1 hx2 hx e0 e1 e2 hf hvf
  go_wp2_with fail
  go_region
  clear q0 q1 q2 d0 d1 d2
  have H3 := Lib.hid (show Rr w ((w1.alloc (.cells #[.int .i64 x.f0, .int .i64 x.f1, .int .i64 x.f2] 49)).drew) w1.heap.size x from ⟨H1.out.trans (Below.mono (below_drew1 ((Below.refl w1.heap.size w1).alloc (Nat.le_refl _) _)) H1.out.size), (Blk.box w1 49 (cK x)).1.drew⟩)
  have HBX := Lib.hid H1.out.size
  generalize (w1.alloc (.cells #[.int .i64 x.f0, .int .i64 x.f1, .int .i64 x.f2] 49)).drew = w3 at *
  generalize w1.heap.size = bx at *
  clear H1
  go_wp2_with fail
  go_loopw [12] (fun i wr => ∃ k : Nat, k ≤ l.length ∧ i = .int .i64 k ∧ Hid (Rr w wr bx x) ∧ Hid (∀ y ∈ l.take k, (y.f0 == x.f0 && decide (x.f2 ≤ y.f2)) = false)) (fun i _ => l.length - (intOf i).toNat)
  case atStart => exact ⟨0, Nat.zero_le _, rfl, H3, Lib.hid (by simp)⟩
  case round =>
    obtain ⟨k, hk, rfl, hB, hno⟩ := hrel
    by_cases hlt : k < l.length
    · obtain ⟨y, hy⟩ : ∃ y, rd_T49 l (k : Int) = y := ⟨_, rfl⟩
      obtain ⟨ad', e', d0, d1, d2⟩ := at_T49 (Kd.C_below HR.out.1 hB.out.b) (k : Int) (by omega) (by omega)
      cases e'
      rw [hy] at d0 d1 d2
      simp only [Int.toNat_natCast] at d0 d1 d2
      have hg : l[k] = y := (rd_getK hlt).symm.trans hy
      have HY := Lib.hid hg
      have k0 := hB.out.x.cell 0 _ rfl
      have k2 := hB.out.x.cell 2 _ rfl
      have hw : IntKind.i64.wrap ((k : Int) + 1) = (k : Int) + 1 := by rw [IntKind.wrap_i64]; omega
      clear d1 hg hy
      obtain ⟨f0, hf0⟩ : ∃ f, y.f0 = f := ⟨_, rfl⟩
      obtain ⟨f2, hf2⟩ : ∃ f, y.f2 = f := ⟨_, rfl⟩
      rw [hf0] at d0
      rw [hf2] at d2
      have HF := Lib.hid (And.intro hf0 hf2)
      clear hf0 hf2
      by_cases g1 : f0 = x.f0
      · subst g1
        by_cases g2 : x.f2 ≤ f2
        · have HE := Lib.hid (show RES = ([], 6) by
            have ha : rLate l x = true := List.any_eq_true.2 ⟨y, by rw [← HY.out]; exact List.getElem_mem hlt, by rw [HF.out.1, HF.out.2, decide_eq_true g2]; simp⟩
            rw [← HRES.out, rRenewV, HVF.out, HX.out.2, if_pos rfl, ha, if_pos rfl])
          clear HRES
          go_wp2_with fail
          go_region
          go_wp2_with fail
          go_ret2
          exact ⟨_, by rw [HE.out]; rfl, by rw [HE.out]; exact Kd.R_nil _ _ _ _ _, below_drew1 hB.out.b⟩
        · go_wp2_with fail
          go_region
          have HB2 := Lib.hid (show Rr w wr.drew bx x from hB.out.below (below_drew1 (Below.refl _ _)))
          have HNO := Lib.hid (show ∀ y ∈ l.take (k + 1), (y.f0 == x.f0 && decide (x.f2 ≤ y.f2)) = false by
            intro z hz
            rw [List.take_succ_eq_append_getElem hlt] at hz
            rcases List.mem_append.1 hz with hz | hz
            · exact hno.out z hz
            · obtain rfl : z = y := by rw [← HY.out]; simpa using hz
              rw [HF.out.1, HF.out.2, decide_eq_false (by omega), Bool.and_false])
          clear hB hno
          go_wp2_with fail
          go_roundw
          case rel => exact ⟨k + 1, by omega, by go_num, HB2, HNO⟩
          case measure => simp [intOf]; omega
      · have g7 : (f0 == x.f0) = false := beq_eq_false_iff_ne.2 g1
        go_wp2_with fail
        go_region
        have HB2 := Lib.hid (show Rr w wr.drew bx x from hB.out.below (below_drew1 (Below.refl _ _)))
        have HNO := Lib.hid (show ∀ y ∈ l.take (k + 1), (y.f0 == x.f0 && decide (x.f2 ≤ y.f2)) = false by
          intro z hz
          rw [List.take_succ_eq_append_getElem hlt] at hz
          rcases List.mem_append.1 hz with hz | hz
          · exact hno.out z hz
          · obtain rfl : z = y := by rw [← HY.out]; simpa using hz
            rw [HF.out.1, g7, Bool.false_and])
        clear hB hno
        go_wp2_with fail
        go_roundw
        case rel => exact ⟨k + 1, by omega, by go_num, HB2, HNO⟩
        case measure => simp [intOf]; omega
    · obtain rfl : k = l.length := by omega
      have HLT := Lib.hid (show rLate l x = false by
        unfold rLate
        rw [List.any_eq_false]
        intro y hy
        have h := hno.out y (by rw [List.take_length]; exact hy)
        rw [h]
        decide)
      clear hno
      go_wp2_with fail
      go_loopw [13, 14] (fun u i wr => ∃ (k : Nat) (ks : List Int), k ≤ v.length ∧ ks.length ≤ k ∧ i = .int .i64 k ∧ Hid (Rr w wr bx x) ∧ Hid (Kd.R (Kd.int .i64) 3 wr w.heap.size (fun k => k ≠ bx) u ks) ∧ Hid (rAll l ns x (v.drop k) ks = rAll l ns x v [])) (fun _ i _ => v.length - (intOf i).toNat)
      case atStart => exact ⟨0, [], Nat.zero_le _, Nat.le_refl _, rfl, hB, Kd.R_nil _ _ _ _ _, rfl⟩
      case round =>
        clear hB
        obtain ⟨k, ks, hk, hks, rfl, hB, hO, hno⟩ := hrel
        obtain ⟨AU, cU, rfl, pU, qU⟩ := Kd.R_reads hO.out
        have HU := Lib.hid (And.intro pU qU)
        clear pU qU
        by_cases hlt : k < v.length
        · obtain ⟨y, hy⟩ : ∃ y, rd_T28 v (k : Int) = y := ⟨_, rfl⟩
          obtain ⟨ad', e', d0, d1, d2, d3, d4, d5⟩ := at_T28 (Kd.C_below HR.out.2.2 hB.out.b) (k : Int) (by omega) (by omega)
          cases e'
          rw [hy] at d3 d4 d5
          simp only [Int.toNat_natCast] at d3 d4 d5
          have hg : v[k] = y := (rd_getV hlt).symm.trans hy
          have hd : v.drop k = y :: v.drop (k + 1) := by rw [List.drop_eq_getElem_cons hlt, hg]
          have hs := hno.out
          rw [hd] at hs
          have HSS := Lib.hid hs
          have HD := Lib.hid (And.intro d3 (And.intro d4 d5))
          have k2 := hB.out.x.cell 2 _ rfl
          clear hs hno hg hd hy d0 d1 d2 d4 d5
          obtain ⟨pub, hpub⟩ : ∃ p, rfV l y.f3 x.f2 = p := ⟨_, rfl⟩
          have HP := Lib.hid hpub
          clear hpub
          have hS : ∀ V, Held (Below wr.heap.size wr) V → V.cell? ⟨(ad.add (k * 6)).block, (ad.add (k * 6)).off + 3, none⟩ = some (.int .i64 y.f3) ∧ V.cell? ⟨bx, 2, none⟩ = some (.int .i64 x.f2) := fun V hV => ⟨pw_cell_below hV HD.out.1, pw_cell_below hV (hB.out.x.cell 2 _ rfl)⟩
          have hki : (k : Int) < (v.length : Int) := by omega
          have hw : IntKind.i64.wrap ((k : Int) + 1) = (k : Int) + 1 := by rw [IntKind.wrap_i64]; omega
          clear d3 k2
          go_wp2_with fail
          refine wp_region_auto (Below wr.heap.size wr) ((0, none, none) :: (0, none, none) :: (0, none, none) :: (0, none, none) :: (0, none, none) :: (0, none, none) :: (0, none, none) :: (0, none, none) :: (0, none, some true) :: (0, none, none) :: []) (by kernel_rfl) (by kernel_rfl) (fun _ _ d _ _ h => by cases d <;> exact h) (Below.refl _ _).drew ?_
          repeat' (first
            | (with_reducible apply rel_pass
               focus (intro W hW; first | (go_simp; exact rfl) | go_simp)
               simp only [Act.put, List.setIfInBounds_toArray, List.set_cons_zero, List.set_cons_succ])
            | (with_reducible apply rel_yes
               focus (exact rfl))
            | (with_reducible apply rel_no
               focus (exact rfl)
               simp only [Act.put, List.setIfInBounds_toArray, List.set_cons_zero, List.set_cons_succ])
            | (with_reducible apply rel_askF
               focus (exact rfl)
               all_goals (intro hb; simp only [hb, Act.put, List.setIfInBounds_toArray, List.set_cons_zero, List.set_cons_succ]))
            | (with_reducible apply rel_askT
               focus (exact rfl)
               all_goals (intro hb; simp only [hb, Act.put, List.setIfInBounds_toArray, List.set_cons_zero, List.set_cons_succ]))
            | (with_reducible apply rel_front1)
            | (with_reducible apply rel_front2)
            | (with_reducible apply rel_front3)
            | (with_reducible apply rel_front4)
            | (with_reducible apply rel_front5)
            | (with_reducible apply rel_front6))
          with_reducible apply rel_act
          intro K hK
          go_simp
          refine (cohousingref20_find.calls 1001 A0 c0 l y.f3 x.f2 pub _ (Kd.C_below HR.out.1 hB.out.b.drew) HC.out.1 (by rw [rFind_f l hlen _ _ _ (Nat.le_refl _), HP.out])).mono ?_
          rintro e wA ⟨rfl, hdA⟩
          have HA := Lib.hid (show Below wr.heap.size wr wA from (Below.refl _ _).drew.trans hdA.below)
          clear hdA
          refine hK _ _ ⟨fun _ => HA.out, ?_⟩
          clear hK K
          try simp only [Act.put, List.setIfInBounds_toArray, List.set_cons_zero, List.set_cons_succ]
          repeat' (first
            | (with_reducible apply rel_pass
               focus (intro W hW; first | (go_simp; exact rfl) | go_simp)
               simp only [Act.put, List.setIfInBounds_toArray, List.set_cons_zero, List.set_cons_succ])
            | (with_reducible apply rel_yes
               focus (exact rfl))
            | (with_reducible apply rel_no
               focus (exact rfl)
               simp only [Act.put, List.setIfInBounds_toArray, List.set_cons_zero, List.set_cons_succ])
            | (with_reducible apply rel_askF
               focus (exact rfl)
               all_goals (intro hb; simp only [hb, Act.put, List.setIfInBounds_toArray, List.set_cons_zero, List.set_cons_succ]))
            | (with_reducible apply rel_askT
               focus (exact rfl)
               all_goals (intro hb; simp only [hb, Act.put, List.setIfInBounds_toArray, List.set_cons_zero, List.set_cons_succ]))
            | (with_reducible apply rel_front1)
            | (with_reducible apply rel_front2)
            | (with_reducible apply rel_front3)
            | (with_reducible apply rel_front4)
            | (with_reducible apply rel_front5)
            | (with_reducible apply rel_front6))
          apply rel_nil
          simp only [Exit.then, Exit.inBlock]
          clear hS
          have HBA := Lib.hid (hB.out.below HA.out)
          have d3 := pw_cell_below HA.out HD.out.1
          go_wp2_with fail
          refine (cohousingref20_in.calls 1000 A1 c1 ns y.f3 (ns.contains y.f3) wA (Kd.C_below HR.out.2.1 HBA.out.b) HC.out.2.1 (rIn_f ns y.f3 (by omega) _ (by omega))).mono ?_
          rintro e wB ⟨rfl, hdB⟩
          have HB := Lib.hid (show Below wr.heap.size wr wB from HA.out.trans (Below.mono (by first | exact hdB | exact hdB.below) HA.out.size))
          have HBB := Lib.hid (hB.out.below HB.out)
          clear hdB d3 HA HBA
          obtain ⟨T, hT⟩ : ∃ t, rTry l ns x y = t := ⟨_, rfl⟩
          have hT0 := hT
          unfold rTry at hT0
          rw [HP.out] at hT0
          have hfin : T ≠ 0 → RES = ([], T) := fun h => by
            have hne : rTry l ns x y ≠ 0 := by rw [hT]; exact h
            rw [← HRES.out, rRenewV, HVF.out, HX.out.2, if_pos rfl, HLT.out, if_neg (by decide), ← HSS.out, rAll_ne l ns x _ ks hne, if_neg hne, hT]
          have HFIN := Lib.hid hfin
          have HT := Lib.hid hT
          clear hfin hT
          cases hkn : ns.contains y.f3 with
          | false =>
            rw [hkn, Bool.false_and, if_neg (by decide)] at hT0
            have HE := Lib.hid (show RES = ([], 4) by rw [HFIN.out (by omega), ← hT0])
            clear HRES hT0 HSS HFIN HT
            go_wp2_with fail
            go_ret2
            exact ⟨_, by rw [HE.out]; rfl, by rw [HE.out]; exact Kd.R_nil _ _ _ _ _, HBB.out.b⟩
          | true =>
          rw [hkn, Bool.true_and] at hT0
          cases hp0 : (pub == 0) with
          | true =>
            rw [hp0, if_neg (by decide)] at hT0
            have HE := Lib.hid (show RES = ([], 4) by rw [HFIN.out (by omega), ← hT0])
            clear HRES hT0 HSS HFIN HT
            go_wp2_with fail
            go_ret2
            exact ⟨_, by rw [HE.out]; rfl, by rw [HE.out]; exact Kd.R_nil _ _ _ _ _, HBB.out.b⟩
          | false =>
          rw [hp0, if_pos (show (!false) = true from rfl)] at hT0
          obtain ⟨vv, hvv⟩ : ∃ q, verV pub y.f4.f0 y.f4.f1 [x.f0, x.f1, x.f2] = q := ⟨_, rfl⟩
          obtain ⟨right, er⟩ := vv
          rw [hvv] at hT0
          have HVE := Lib.hid (show cohousingref08_Verify.f 30000 pub y.f4.f0 y.f4.f1 [x.f0, x.f1, x.f2] = some (right, er) by rw [refVerify_f _ _ _ _ ⟨by simp, HX.out.1⟩ _ (Nat.le_refl _), hvv])
          have HT0 := Lib.hid hT0
          have HS7 := Lib.hid (show (wB.cell? ⟨(ad.add (k * 6)).block, (ad.add (k * 6)).off + 4, none⟩ = some (.int .i64 y.f4.f0) ∧ wB.cell? ⟨(ad.add (k * 6)).block, (ad.add (k * 6)).off + 5, none⟩ = some (.int .i64 y.f4.f1)) ∧ wB.cell? ⟨bx, 0, none⟩ = some (.int .i64 x.f0) ∧ wB.cell? ⟨bx, 1, none⟩ = some (.int .i64 x.f1) ∧ wB.cell? ⟨bx, 2, none⟩ = some (.int .i64 x.f2) from
            ⟨⟨pw_cell_below HB.out HD.out.2.1, pw_cell_below HB.out HD.out.2.2⟩, HBB.out.x.cell 0 _ rfl, HBB.out.x.cell 1 _ rfl, HBB.out.x.cell 2 _ rfl⟩)
          clear hT0 hvv
          have m4 := HS7.out.1.1
          have m5 := HS7.out.1.2
          have m0 := HS7.out.2.1
          have m1 := HS7.out.2.2.1
          have m2 := HS7.out.2.2.2
          go_wp2_with fail
          go_region_held3 (fun W => W.cell? ⟨(ad.add (k * 6)).block, (ad.add (k * 6)).off + 4, none⟩ = some (.int .i64 y.f4.f0) ∧ W.cell? ⟨(ad.add (k * 6)).block, (ad.add (k * 6)).off + 5, none⟩ = some (.int .i64 y.f4.f1) ∧ W.cell? ⟨bx, 0, none⟩ = some (.int .i64 x.f0) ∧ W.cell? ⟨bx, 1, none⟩ = some (.int .i64 x.f1) ∧ W.cell? ⟨bx, 2, none⟩ = some (.int .i64 x.f2))
            (first | go_keep | exact ⟨pw_cell_below hw8 HS7.out.1.1, pw_cell_below hw8 HS7.out.1.2, pw_cell_below hw8 HS7.out.2.1, pw_cell_below hw8 HS7.out.2.2.1, pw_cell_below hw8 HS7.out.2.2.2⟩)
            (first | (go_at_call 22; refine (cohousingref08_Verify.calls 30000 pub y.f4.f0 y.f4.f1 _ 3 [x.f0, x.f1, x.f2] right er _ (by first | exact C_blk3 (Blk.box wB 3 [.int .i64 x.f0, .int .i64 x.f1, .int .i64 x.f2]).1 | exact C_blk3 (Blk.box wB 3 [.int .i64 x.f0, .int .i64 x.f1, .int .i64 x.f2]).1.drew | exact C_blk3 (Blk.box wB.drew 3 [.int .i64 x.f0, .int .i64 x.f1, .int .i64 x.f2]).1) (Nat.le_refl _) HVE.out).mono ?_; rintro e w8 ⟨rfl, hd8⟩; have hw8 : Below wB.heap.size wB w8 := Below.trans (by repeat (first | exact Below.refl _ _ | refine Below.alloc ?_ (Nat.le_refl _) _ | refine Below.drew ?_)) (Below.mono hd8 (by first | exact Nat.le_refl _ | simp))))
          all_goals
            have HW8 := Lib.hid (show Below wr.heap.size wr w8 from HB.out.trans (Below.mono hw8 HB.out.size))
            have HB8 := Lib.hid (hB.out.below HW8.out)
            clear hd8 hw8 m0 m1 m2 m4 m5 HS7 HVE
            cases he : (er == 0) with
            | false =>
              have he2 : (er != 0) = true := by simpa using he
              have he3 : ¬ er = 0 := by simpa using he
              have HE := Lib.hid (show RES = ([], 31) by
                have h := HT0.out
                simp only [he, Bool.and_false] at h
                rw [HFIN.out (by rw [← h]; decide), ← h]
                rfl)
              clear HRES HT0 HSS HFIN HT
              go_wp2_with fail
              go_ret2
              exact ⟨_, by rw [HE.out]; rfl, by rw [HE.out]; exact Kd.R_nil _ _ _ _ _, HB8.out.b⟩
            | true =>
              obtain rfl : er = 0 := by simpa using he
              cases right with
              | false =>
                have HE := Lib.hid (show RES = ([], 31) by
                  have h : (31 : Int) = T := HT0.out
                  rw [HFIN.out (by omega), ← h])
                clear HRES HT0 HSS HFIN HT
                go_wp2_with fail
                go_ret2
                exact ⟨_, by rw [HE.out]; rfl, by rw [HE.out]; exact Kd.R_nil _ _ _ _ _, HB8.out.b⟩
              | true =>
                have ht : (0 : Int) = T := HT0.out
                subst ht
                clear HT0 HFIN he
                have hs2 := HSS.out
                rw [rAll, if_pos HT.out] at hs2
                have HS2 := Lib.hid hs2
                have HU8 := Lib.hid (And.intro HU.out.1 (Kd.C_below HU.out.2 HW8.out))
                have HO8 := Lib.hid (Kd.R_below hO.out HW8.out)
                have d3 := pw_cell_below HW8.out HD.out.1
                clear hs2 HSS hB HB HBB HT
                go_wp2_with fail
                refine (cohousingref20_in.calls 1000 AU cU ks y.f3 (ks.contains y.f3) w8 HU8.out.2 HU8.out.1 (rIn_f ks y.f3 (by omega) _ (by omega))).mono ?_
                rintro e w9 ⟨rfl, hd9⟩
                have HW9 := Lib.hid (show Below wr.heap.size wr w9 from HW8.out.trans (Below.mono (by first | exact hd9 | exact hd9.below) HW8.out.size))
                have HB9 := Lib.hid (HB8.out.below (by first | exact hd9 | exact hd9.below))
                have HO9 := Lib.hid (Kd.R_below HO8.out (by first | exact hd9 | exact hd9.below))
                have d3 := pw_cell_below HW9.out HD.out.1
                clear hd9 HB8 HO8 HU8
                cases hag : ks.contains y.f3 with
                | true =>
                  have ha : addS ks y.f3 = ks := by unfold addS; rw [hag, if_pos rfl]
                  rw [ha] at HS2
                  clear ha
                  go_wp2_with fail
                  go_roundw
                  case rel => exact ⟨k + 1, ks, by omega, by omega, by go_num, HB9, HO9, HS2⟩
                  case measure => simp [intOf]; omega
                | false =>
                  have ha : addS ks y.f3 = ks ++ [y.f3] := by unfold addS; rw [hag, if_neg (by decide)]
                  rw [ha] at HS2
                  obtain ⟨yb, hyb⟩ : ∃ b, y.f3 = b := ⟨_, rfl⟩
                  rw [hyb] at HS2 d3
                  have HN := Lib.hid (And.intro n5 hks)
                  clear ha hag hyb
                  go_wp2_with ((with_reducible refine gate_builtin (b := .append) (xs := #[.tmp 126, .tmp 132]) rfl ?_); at_builtin; refine Kd.R_append (Kd.int .i64) (w0 := w) w.heap.size rfl (.tmp 126) (.tmp 132) 23 3 (.int .i64 0) 8 rfl Tryd.underlying23 info_I8 rfl (by decide) (by omega) _ ks yb [.int .i64 yb] (fun k => k ≠ bx) (fun _ => False) rfl rfl ?aP (fun _ hk => hk.elim) ?aF HO9.out HB9.out.b HB9.out.b.size ?aL ?_; (case aP => exact rfl); (case aF => exact (fun k_ hk => by have := HB9.out.x.lt; omega)); (case aL => have := HN.out; omega); intro v4 w4 ho4 hb4 hg hat; have HO4 := Lib.hid ho4; have HB4 := Lib.hid (show Rr w w4 bx x from ⟨hb4, HB9.out.x.grown hg (Kd.R_away HO9.out (fun _ hk => hk))⟩); clear ho4 hb4 hg hat)
                  go_wp2_with fail
                  go_roundw
                  case rel => exact ⟨k + 1, ks ++ [yb], by omega, by simp; omega, by go_num, HB4, HO4, HS2⟩
                  case measure => simp [intOf]; omega
        · obtain rfl : k = v.length := by omega
          have hs := hno.out
          rw [List.drop_length, rAll] at hs
          have HSS := Lib.hid (show rAll l ns x v [] = (ks, 0) from hs.symm)
          clear hs hno
          by_cases hn : (ks.length : Int) < need
          · have HE := Lib.hid (show RES = ([], 33) by
              rw [← HRES.out, rRenewV, HVF.out, HX.out.2, if_pos rfl, HLT.out, if_neg (by decide), HSS.out, if_pos rfl, if_pos hn])
            clear HRES HSS
            go_wp2_with fail
            go_ret2
            exact ⟨_, by rw [HE.out]; rfl, by rw [HE.out]; exact Kd.R_nil _ _ _ _ _, hB.out.b⟩
          by_cases h1000 : l.length = 1000
          · have HE := Lib.hid (show RES = ([], 2) by
              rw [← HRES.out, rRenewV, HVF.out, HX.out.2, if_pos rfl, HLT.out, if_neg (by decide), HSS.out, if_pos rfl, if_neg hn, if_pos h1000])
            have h10 : ((l.length : Int) == 1000) = true := beq_iff_eq.2 (by omega)
            clear HRES HSS h1000
            go_wp2_with fail
            go_ret2
            exact ⟨_, by rw [HE.out]; rfl, by rw [HE.out]; exact Kd.R_nil _ _ _ _ _, hB.out.b⟩
          have HE := Lib.hid (show RES = (l.take (rAt l x) ++ x :: l.drop (rAt l x), 0) by
            rw [← HRES.out, rRenewV, HVF.out, HX.out.2, if_pos rfl, HLT.out, if_neg (by decide), HSS.out, if_pos rfl, if_neg hn, if_neg h1000])
          have h10 : ((l.length : Int) == 1000) = false := beq_eq_false_iff_ne.2 (by omega)
          clear HRES HSS
          go_wp2_with fail
          go_loopw [20] (fun i wr => ∃ k : Nat, k ≤ l.length ∧ i = .int .i64 k ∧ Hid (Rr w wr bx x) ∧ Hid (∀ y ∈ l.take k, decide (y.f0 ≤ x.f0) = true)) (fun i _ => l.length - (intOf i).toNat)
          case atStart => exact ⟨0, Nat.zero_le _, rfl, hB, Lib.hid (by simp)⟩
          case round =>
            clear hB hO HU
            obtain ⟨k, hk, rfl, hB, hno⟩ := hrel
            go_upto_region 29 with (fail)
            go_cut [154] (fun b wx => ∃ q : Bool, b = .bool q ∧ Hid (if q = true then k < l.length ∧ ∀ y ∈ l.take (k + 1), decide (y.f0 ≤ x.f0) = true else rAt l x = k) ∧ wx = wr.drew)
            case first =>
              by_cases hlt : k < l.length
              · obtain ⟨y, hy⟩ : ∃ y, rd_T49 l (k : Int) = y := ⟨_, rfl⟩
                obtain ⟨ad', rfl, d0, d1, d2⟩ := at_T49 (Kd.C_below HR.out.1 hB.out.b) (k : Int) (by omega) (by omega)
                rw [hy] at d0
                simp only [Int.toNat_natCast] at d0
                have HY := Lib.hid (show l[k] = y from (rd_getK hlt).symm.trans hy)
                have k0 := hB.out.x.cell 0 _ rfl
                obtain ⟨f0, hf0⟩ : ∃ f, y.f0 = f := ⟨_, rfl⟩
                rw [hf0] at d0
                have HF := Lib.hid hf0
                have hlti : (k : Int) < (l.length : Int) := by omega
                clear d1 d2 hy hf0
                by_cases g : f0 ≤ x.f0
                · have HQ := Lib.hid (show if true = true then k < l.length ∧ ∀ y ∈ l.take (k + 1), decide (y.f0 ≤ x.f0) = true else rAt l x = k from by
                    rw [if_pos rfl]
                    refine ⟨hlt, fun z hz => ?_⟩
                    rw [List.take_succ_eq_append_getElem hlt] at hz
                    rcases List.mem_append.1 hz with hz | hz
                    · exact hno.out z hz
                    · obtain rfl : z = y := by rw [← HY.out]; simpa using hz
                      rw [HF.out]; exact decide_eq_true g)
                  go_region
                  go_wp2_with fail
                  go_meet
                  exact ⟨true, rfl, HQ, rfl⟩
                · have HQ := Lib.hid (show if false = true then k < l.length ∧ ∀ y ∈ l.take (k + 1), decide (y.f0 ≤ x.f0) = true else rAt l x = k from by
                    rw [if_neg (by decide)]
                    refine tw_at _ l k hk hno.out (fun z hz => ?_)
                    rw [List.getElem?_eq_getElem hlt, HY.out] at hz
                    obtain rfl := Option.some.inj hz
                    rw [HF.out]; exact decide_eq_false g)
                  go_region
                  go_wp2_with fail
                  go_meet
                  exact ⟨false, rfl, HQ, rfl⟩
              · have hlti : ¬ (k : Int) < (l.length : Int) := by omega
                have HQ := Lib.hid (show if false = true then k < l.length ∧ ∀ y ∈ l.take (k + 1), decide (y.f0 ≤ x.f0) = true else rAt l x = k from by
                  rw [if_neg (by decide)]
                  refine tw_at _ l k hk hno.out (fun z hz => ?_)
                  rw [List.getElem?_eq_none (by omega)] at hz
                  cases hz)
                go_region
                go_wp2_with fail
                go_meet
                exact ⟨false, rfl, HQ, rfl⟩
            case rest =>
              obtain ⟨q, rfl, hq, rfl⟩ := hcut
              have HB2 := Lib.hid (show Rr w wr.drew bx x from hB.out.below (below_drew1 (Below.refl _ _)))
              clear hB hno
              cases q with
              | true =>
                have hlt := hq.out.1
                have HNO := Lib.hid hq.out.2
                have hw : IntKind.i64.wrap ((k : Int) + 1) = (k : Int) + 1 := by rw [IntKind.wrap_i64]; omega
                clear hq
                go_wp2_with fail
                go_roundw
                case rel => exact ⟨k + 1, by omega, by go_num, HB2, HNO⟩
                case measure => simp [intOf]; omega
              | false =>
                have hrk : rAt l x = k := hq.out
                rw [hrk] at HE
                clear hq hrk
                generalize wr.drew = wd at *
                have x0 := HB2.out.x.cell 0 _ rfl
                have HLN := Lib.hid (show l.length ≤ 1000 ∧ (l.take k).length = k ∧ (l.drop k).length = l.length - k ∧ k ≤ l.length from ⟨hlen, by rw [List.length_take]; omega, List.length_drop, hk⟩)
                have hkc : k ≤ c0 := by have := HC.out.1; omega
                have HCD1 := Lib.hid (show ∀ W : World, Below w.heap.size w W → Kd.C k49 W (if c0 = k then A0 else A0.map (·.add (k * 3))) (l.length - k) (l.drop k) from fun W hb => by have h := Kd.C_drop (Kd.C_below HR.out.1 hb) hk HC.out.1; rw [HLN.out.2.2.1] at h; exact h)
                have HCT := Lib.hid (show Kd.C k49 wd A0 k (l.take k) from by have h := Kd.C_take (Kd.C_below HR.out.1 HB2.out.b) hk; rw [HLN.out.2.1] at h; exact h)
                go_wp2_with (first | ((with_reducible refine gate_builtin (b := .append) (xs := #[.tmp 157, .tmp 160]) rfl ?_); at_builtin; refine Kd.R_append_rows k49 (w0 := w) w.heap.size rfl (.tmp 157) (.tmp 160) 22 49 (.agg #[(.int .i64 0), (.int .i64 0), (.int .i64 0)]) 24 rfl Tryd.underlying22 info_K rfl (by decide) (by omega) (.slice none 0 0) [] (l.take k) _ _ _ (fun k => k ≠ bx) (fun _ => False) rfl rfl ?aO ?aR (fun _ _ h => h) (fun _ h => h.elim) ?aF HB2.out.b HB2.out.b.size ?aL ?_; (case aO => exact Kd.R_nil _ _ _ _ _); (case aR => exact HCT.out); (case aF => exact (fun k_ hk => by have := HB2.out.x.lt; omega)); (case aL => have := HLN.out; simp; omega); intro v3 w3 ho4 hb4 hg hat; have HO3 := Lib.hid ho4; have HB3 := Lib.hid (show Rr w w3 bx x from ⟨hb4, HB2.out.x.grown hg (by simp [Value.ownBlock])⟩); clear ho4 hb4 hg hat; clear x0; have e0 := HB3.out.x.cell 0 _ rfl; have e1 := HB3.out.x.cell 1 _ rfl; have e2 := HB3.out.x.cell 2 _ rfl) | ((with_reducible refine gate_builtin (b := .append) (xs := #[.tmp 162, .tmp 164]) rfl ?_); at_builtin; refine Kd.R_append k49 (w0 := w) w.heap.size rfl (.tmp 162) (.tmp 164) 22 49 (.agg #[(.int .i64 0), (.int .i64 0), (.int .i64 0)]) 24 rfl Tryd.underlying22 info_K rfl (by decide) (by omega) _ ([] ++ l.take k) x [.int .i64 x.f0, .int .i64 x.f1, .int .i64 x.f2] (fun k => k ≠ bx) (fun _ => False) rfl rfl ?aP (fun _ hk => hk.elim) ?aF HO3.out HB3.out.b HB3.out.b.size ?aL ?_; (case aP => exact k49_mkM _ _ _ x); (case aF => exact (fun k_ hk => by have := HB3.out.x.lt; omega)); (case aL => have := HLN.out; simp; omega); intro v4 w4 ho4 hb4 hg hat; have HO4 := Lib.hid ho4; have HB4 := Lib.hid (show Rr w w4 bx x from ⟨hb4, HB3.out.x.grown hg (Kd.R_away HO3.out (fun _ hk => hk))⟩); clear ho4 hb4 hg hat e0 e1 e2) | ((with_reducible refine gate_builtin (b := .append) (xs := #[.tmp 166, .tmp 169]) rfl ?_); at_builtin; refine Kd.R_append_rows k49 (w0 := w) w.heap.size rfl (.tmp 166) (.tmp 169) 22 49 (.agg #[(.int .i64 0), (.int .i64 0), (.int .i64 0)]) 24 rfl Tryd.underlying22 info_K rfl (by decide) (by omega) v4 ([] ++ l.take k ++ [x]) (l.drop k) _ _ _ (fun k => k ≠ bx) (fun _ => False) rfl rfl ?aO ?aR (fun _ _ h => h) (fun _ h => h.elim) ?aF HB4.out.b HB4.out.b.size ?aL ?_; (case aO => exact HO4.out); (case aR => first | exact HCD1.out _ HB4.out.b | (trace_state; exact test)); (case aF => exact (fun k_ hk => by have := HB4.out.x.lt; omega)); (case aL => have := HLN.out; simp; omega); intro v5 w5 ho4 hb4 hg hat; have HO5 := Lib.hid ho4; have HB5 := Lib.hid (show Rr w w5 bx x from ⟨hb4, HB4.out.x.grown hg (Kd.R_away HO4.out (fun _ hk => hk))⟩); clear ho4 hb4 hg hat))
                all_goals
                  go_ret2
                  exact ⟨_, by rw [HE.out]; rfl, by rw [HE.out]; have h := HO5.out; simp only [List.nil_append, List.append_assoc, List.singleton_append] at h; exact Kd.R_mono h (fun _ _ => trivial), HB5.out.b⟩
def cohousingref20_Renew.f (l0 : List S49) (l1 : List Int) (a2 : Int) (l3 : List S28) : Option (List S49 × Int) := some (rRenewV l0 l1 a2 l3)
end Go.Proofs.YtcnkenknbmmglaaDoor.P
