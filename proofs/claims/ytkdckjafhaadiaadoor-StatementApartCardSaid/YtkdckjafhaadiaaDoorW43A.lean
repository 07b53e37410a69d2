/- Chapter 43: StatementApart, the law walked. -/
import Derived.Test.YtkdckjafhaadiaaDoorPaA
set_option linter.unusedSimpArgs false
set_option linter.unusedVariables false
namespace Go.Proofs.YtkdckjafhaadiaaDoor.P
open Go Go.RowKit Go.Proofs.YtkdckjafhaadiaaDoorW.PrintWords Go.Proofs.YtkdckjafhaadiaaDoorW.PrintLast Go.Proofs.YtkdckjafhaadiaaDoorW.PrintMore Go.Proofs.YtkdckjafhaadiaaDoor.Ord

/-- A halt in a walk, to go on by hand. -/
structure Stop (p : Prop) : Prop where
  out : p
theorem seal_cases {h who : Int} {l : List S50} {r1 r2 : Int} {r3 : List Int} {r4 : Int} (e : sealV h who l = (r1, r2, r3, r4)) :
    (r4 = 0 ∧ keyB h = true ∧ homeB who = true ∧ linesB l = true ∧ who = r1 ∧ h = r2 ∧ cmL h l = r3) ∨ r4 = 1 := by
  unfold sealV at e
  by_cases hc : (keyB h && (homeB who && linesB l)) = true
  · rw [if_pos hc] at e
    simp only [Bool.and_eq_true] at hc
    simp only [Prod.mk.injEq] at e
    exact Or.inl ⟨e.2.2.2.symm, hc.1, hc.2.1, hc.2.2, e.1, e.2.1, e.2.2.1⟩
  · rw [if_neg hc] at e
    simp only [Prod.mk.injEq] at e
    exact Or.inr e.2.2.2.symm
set_option maxHeartbeats 8000000 in
set_option maxRecDepth 100000 in
theorem apart_walk (a0 a1 : Int) (A2 : Option Addr) (c2 : Nat) (l2 : List (S50)) (a3 a4 a5 : Int) (w : World) (hr2 : Kd.C k50 w A2 l2.length l2) (hc2 : l2.length ≤ c2) (hT : TabOk w) (hlen : l2.length ≤ 5864062014800) :
    Calls Tryd.prog 4 #[.int .i64 a0, .int .i64 a1, .slice A2 l2.length c2, .int .i64 a3, .int .i64 a4, .int .i64 a5] w fun e w' => e = .returned (.bool true) ∧ Below w.heap.size w w' := by
  have HT := Lib.hid hT
  have HR := Lib.hid hr2
  have HC := Lib.hid hc2
  have HN := Lib.hid hlen
  clear hT hr2 hc2 hlen
  go_enter Tryd.func4, Tryd.ntmps4
  go_wp2_with fail
  refine (cohousinglaw43_head.calls true w HT.out rfl).mono ?_
  rintro e w1 ⟨rfl, hb1⟩
  have HB1 := Lib.hid hb1
  clear hb1
  go_upto_region 2 with (fail)
  go_cut [52] (fun b wx => ∃ q : Bool, b = .bool q ∧ Hid (q = false → 0 ≤ a3 ∧ a3 < (l2.length : Int) ∧ -1000000000 ≤ a4 ∧ a4 ≤ 1000000000 ∧ ¬ (a4 = 0 ∧ Int.tmod a5 1073741789 = 0)) ∧ wx = w1)
  case first =>
    cases hb4 : (a4 == 0) with
    | false =>
      have h4 := Lib.hid (beq_eq_false_iff_ne.1 hb4)
      go_wp2_with fail
      all_goals go_meet
      all_goals refine ⟨_, rfl, Lib.hid (fun hq => ?_), rfl⟩
      all_goals have h5 := h4.out
      all_goals clear h4
      all_goals first | (exact absurd hq (by decide)) | omega | (simp at hq; omega)
    | true =>
      have h4 := Lib.hid (beq_iff_eq.1 hb4)
      cases hb5 : (Int.tmod a5 1073741789 == 0) with
      | false =>
        have h6 := Lib.hid (beq_eq_false_iff_ne.1 hb5)
        go_wp2_with fail
        all_goals go_meet
        all_goals refine ⟨_, rfl, Lib.hid (fun hq => ?_), rfl⟩
        all_goals have h5 := h4.out
        all_goals have h7 := h6.out
        all_goals clear h4 h6
        all_goals first | (exact absurd hq (by decide)) | omega | (simp at hq; omega)
      | true =>
        go_wp2_with fail
        all_goals go_meet
        all_goals refine ⟨_, rfl, Lib.hid (fun hq => ?_), rfl⟩
        all_goals exact absurd hq (by decide)
  case rest =>
    obtain ⟨q, rfl, hq, rfl⟩ := hcut
    rename World => w2
    cases q with
    | true =>
      go_wp2_with fail
      go_ret
      exact ⟨rfl, HB1.out⟩
    | false =>
      have HQ := Lib.hid (hq.out rfl)
      clear hq
      obtain ⟨i, rfl⟩ : ∃ i : Nat, a3 = i := ⟨a3.toNat, by have := HQ.out; omega⟩
      have hi : i < l2.length := by have := HQ.out; omega
      obtain ⟨y, hy⟩ : ∃ y, chgL l2[i] a4 a5 = y := ⟨_, rfl⟩
      have HCH := Lib.hid (show cohousinglaw43_changed.f l2 (i : Int) a4 a5 = some (l2.set i y) by rw [changed_f l2 HN.out hi, hy])
      have HML := Lib.hid (show (l2.set i y).length = l2.length from List.length_set ..)
      have HY := Lib.hid (show ∃ h : i < l2.length, chgL (l2[i]'h) a4 a5 = y from ⟨hi, hy⟩)
      obtain ⟨m, hm⟩ : ∃ m, l2.set i y = m := ⟨_, rfl⟩
      have HM := Lib.hid hm
      rw [hm] at HCH HML
      clear hi hy hm
      go_wp2_with fail
      refine (cohousinglaw43_changed.calls A2 c2 l2 (i : Int) a4 a5 m w2 (Kd.C_below HR.out HB1.out) HC.out HCH.out).mono ?_
      rintro e w3 ⟨v, rfl, ho, hb⟩
      obtain ⟨M, nm, rfl, p3, q3⟩ := Kd.R_reads ho
      have HB3 := Lib.hid (HB1.out.trans (Below.mono hb HB1.out.size))
      have HM3 := Lib.hid (And.intro p3 q3)
      clear hb ho p3 q3 HB1 HCH
      go_wp2_with fail
      obtain ⟨⟨r1, r2, r3, r4⟩, hs⟩ : ∃ z, sealV a0 a1 l2 = z := ⟨_, rfl⟩
      have HS := Lib.hid hs
      clear hs
      refine (statement_Seal.calls a0 a1 A2 c2 l2 r1 r2 r3 r4 w3 (Kd.C_below HR.out HB3.out) HC.out (by rw [seal_f, HS.out])).mono ?_
      rintro e w4 ⟨v, rfl, ho, hb⟩
      obtain ⟨S, ns, rfl, p4, q4⟩ := Kd.R_reads ho
      have HB4 := Lib.hid (HB3.out.trans (Below.mono hb HB3.out.size))
      have HM4 := Lib.hid (And.intro HM3.out.1 (And.intro (Kd.C_below HM3.out.2 hb) (And.intro p4 q4)))
      clear hb ho p4 q4 HB3 HM3
      go_wp2_with fail
      obtain ⟨hx5, hs5, hb5⟩ := Blk.box w4 45 [Value.int IntKind.i64 r1, Value.int IntKind.i64 r2, Value.slice S r3.length ns]
      rw [show (List.toArray [Value.int IntKind.i64 r1, Value.int IntKind.i64 r2, Value.slice S r3.length ns]) = #[Value.int IntKind.i64 r1, Value.int IntKind.i64 r2, Value.slice S r3.length ns] from rfl] at hx5 hs5 hb5
      generalize w4.alloc (Obj.cells #[Value.int IntKind.i64 r1, Value.int IntKind.i64 r2, Value.slice S r3.length ns] 45) = w5 at hx5 hs5 hb5 ⊢
      have hB5 := HB4.out.trans (Below.mono hb5 HB4.out.size)
      obtain ⟨⟨t1, t2, t3, t4⟩, ht⟩ : ∃ z, sealV a0 a1 m = z := ⟨_, rfl⟩
      have HS2 := Lib.hid ht
      clear ht
      refine (statement_Seal.calls a0 a1 M nm m t1 t2 t3 t4 w5 (Kd.C_below HM4.out.2.1 hb5) HM4.out.1 (by rw [seal_f, HS2.out])).mono ?_
      rintro e w6 ⟨v, rfl, ho, hb⟩
      obtain ⟨T, nt, rfl, p6, q6⟩ := Kd.R_reads ho
      have HB6 := Lib.hid (hB5.trans (Below.mono hb hB5.size))
      have hb46 := hb5.trans (Below.mono hb hb5.size)
      have HX6 := Lib.hid (And.intro (hx5.below hb hx5.lt) (show w4.heap.size < w6.heap.size by have := hb.size; omega))
      have HM6 := Lib.hid (And.intro HM4.out.1 (And.intro (Kd.C_below HM4.out.2.1 hb46) (And.intro HM4.out.2.2.1 (And.intro (Kd.C_below HM4.out.2.2.2 hb46) (And.intro p6 q6)))))
      clear hb ho p6 q6 HB4 HM4 hx5 hs5 hb5 hB5 hb46
      rcases seal_cases HS.out with ⟨rfl, k0, k1, k2, rfl, rfl, rfl⟩ | rfl
      case inr =>
        go_wp2_with fail
        go_ret
        exact ⟨rfl, HB6.out.alloc HB6.out.size _⟩
      rcases seal_cases HS2.out with ⟨rfl, -, -, k3, rfl, rfl, rfl⟩ | rfl
      case inr =>
        have HZ := Lib.hid (And.intro k0 (And.intro k1 k2))
        clear k0 k1 k2
        go_wp2_with fail
        go_ret
        exact ⟨rfl, HB6.out.alloc HB6.out.size _⟩
      have HZ := Lib.hid (And.intro k0 (And.intro k1 (And.intro k2 k3)))
      have hlm := HML.out
      clear k0 k1 k2 k3 HS HS2
      rw [cmL_len] at HM6 HX6
      rw [cmL_len, hlm] at HM6
      rw [cmL_len, cmL_len, hlm]
      clear hlm
      go_wp2_with ((with_reducible refine gate_dst (N := 81) rfl ?_); refine Stop.out ?_)
      obtain ⟨hx7, hs7, hb7⟩ := Blk.box w6 45 [Value.int IntKind.i64 a1, Value.int IntKind.i64 a0, Value.slice T l2.length nt]
      rw [show (List.toArray [Value.int IntKind.i64 a1, Value.int IntKind.i64 a0, Value.slice T l2.length nt]) = #[Value.int IntKind.i64 a1, Value.int IntKind.i64 a0, Value.slice T l2.length nt] from rfl] at hx7 hs7 hb7
      generalize w6.alloc (Obj.cells #[Value.int IntKind.i64 a1, Value.int IntKind.i64 a0, Value.slice T l2.length nt] 45) = w7 at hx7 hs7 hb7 ⊢
      have hx7a := HX6.out.1.below hb7 HX6.out.2
      have HB7 := Lib.hid (HB6.out.trans (Below.mono hb7 HB6.out.size))
      have HX7 := Lib.hid (And.intro hx7a hx7)
      have HM7 := Lib.hid (And.intro HM6.out.1 (And.intro (Kd.C_below HM6.out.2.1 hb7) (And.intro HM6.out.2.2.1 (And.intro (Kd.C_below HM6.out.2.2.2.1 hb7) (And.intro HM6.out.2.2.2.2.1 (Kd.C_below HM6.out.2.2.2.2.2 hb7))))))
      clear hx7 hs7 hb7 HB6 HM6 HX6
      have e2 := hx7a.cell 2 _ rfl
      have g2 := HX7.out.2.cell 2 _ rfl
      clear hx7a
      refine ⟨?_⟩
      go_wp2_with fail
      have hn63 : l2.length ≤ 9223372036854775807 := by have := HN.out; omega
      clear e2 g2
      go_loopw [13, 96, 19] (fun u j q wr => ∃ k : Nat, k ≤ l2.length ∧ u = .bool true ∧ j = .int .i64 k ∧ Hid (Below w7.heap.size w7 wr)) (fun _ j _ _ => l2.length - (intOf j).toNat)
      case atStart => exact ⟨0, Nat.zero_le _, rfl, rfl, Below.refl _ _⟩
      case round =>
        obtain ⟨k, hk, rfl, rfl, hB⟩ := hrel
        by_cases hlt : k < l2.length
        · obtain ⟨ad, rfl, p0⟩ := Kd.at_int HM7.out.2.2.2.1 (k : Int) (by omega) (by omega)
          obtain ⟨ad', rfl, p1⟩ := Kd.at_int HM7.out.2.2.2.2.2 (k : Int) (by omega) (by omega)
          simp only [Int.toNat_natCast] at p0 p1
          have hlm : k < m.length := by rw [HML.out]; exact hlt
          have v0 : rd (cmL a0 l2) (k : Int) = cmI a0 l2[k] := by rw [rd_getI (by rw [cmL_len]; exact hlt)]; simp [cmL]
          have v1 : rd (cmL a0 m) (k : Int) = cmI a0 m[k] := by rw [rd_getI (by rw [cmL_len]; exact hlm)]; simp [cmL]
          have hcmp : (rd (cmL a0 l2) (k : Int) == rd (cmL a0 m) (k : Int)) = ((k : Int) != (i : Int)) := by
            obtain ⟨hi, hy⟩ := HY.out
            have hmk : m[k] = (l2.set i y)[k]'(by rw [List.length_set]; exact hlt) := by simp only [← HM.out]
            rw [v0, v1, hmk, List.getElem_set]
            by_cases hik : i = k
            · subst hik
              rw [if_pos rfl, show ((i : Int) != (i : Int)) = false by simp, beq_eq_false_iff_ne, ← hy]
              refine chg_ne HZ.out.1 (List.all_eq_true.1 (lines_parts HZ.out.2.2.1).2.1 _ (List.getElem_mem hi)) ?_ HQ.out.2.2.1 HQ.out.2.2.2.1 HQ.out.2.2.2.2
              have hmem : chgL l2[i] a4 a5 ∈ m := by
                rw [← HM.out, hy]
                exact List.mem_set hi _
              exact List.all_eq_true.1 (lines_parts HZ.out.2.2.2).2.1 _ hmem
            · rw [if_neg hik, show ((k : Int) != (i : Int)) = true by simp; omega, beq_self_eq_true]
          obtain ⟨x0, hx0⟩ : ∃ x, rd (cmL a0 l2) (k : Int) = x := ⟨_, rfl⟩
          obtain ⟨x1, hx1⟩ : ∃ x, rd (cmL a0 m) (k : Int) = x := ⟨_, rfl⟩
          rw [hx0] at p0 hcmp
          rw [hx1] at p1 hcmp
          have hS : ∀ W, Held (Below w7.heap.size w7) W → W.cell? ⟨w4.heap.size, 2, none⟩ = some (.slice (some ad) l2.length ns) ∧ W.cell? ⟨w6.heap.size, 2, none⟩ = some (.slice (some ad') l2.length nt) ∧ W.cell? (ad.add k) = some (.int .i64 x0) ∧ W.cell? (ad'.add k) = some (.int .i64 x1) := fun W hW => by
            have hW' : Below w7.heap.size w7 W := hW
            exact ⟨(HX7.out.1.below hW' HX7.out.1.lt).cell 2 _ rfl, (HX7.out.2.below hW' HX7.out.2.lt).cell 2 _ rfl, (hW'.cell (World.block_lt_of_cell? w7 _ p0)).trans p0, (hW'.cell (World.block_lt_of_cell? w7 _ p1)).trans p1⟩
          have HCMP := Lib.hid hcmp
          have hk1 : (k : Int) < (l2.length : Int) := by omega
          clear p0 p1 v0 v1 hcmp hx0 hx1 hlm
          go_wp2_with fail
          refine wp_region_auto (Below w7.heap.size w7) ((0, none, none) :: (0, none, none) :: (0, some (100, true), none) :: (0, some (100, true), none) :: (0, some (100, true), none) :: (0, some (100, true), none) :: (0, some (100, true), none) :: (0, some (100, true), none) :: (0, some (100, true), none) :: (0, some (100, true), none) :: (0, some (100, true), none) :: (0, some (100, true), none) :: (0, some (100, true), none) :: (0, some (100, true), none) :: (0, some (100, true), none) :: (0, some (100, true), none) :: (0, some (100, true), none) :: (0, none, none) :: (0, none, none) :: []) (by kernel_rfl) (by kernel_rfl) (fun _ _ d _ _ h => by cases d <;> exact h) hB.out.drew ?_
          repeat' (first
            | (with_reducible apply rel_pass
               focus (intro W hW; first | (go_simp; exact rfl) | go_simp)
               simp only [Act.put, List.setIfInBounds_toArray, List.set_cons_zero, List.set_cons_succ])
            | (with_reducible apply rel_yes
               focus (exact rfl))
            | (with_reducible apply rel_no
               focus (exact rfl)
               simp only [Act.put, List.setIfInBounds_toArray, List.set_cons_zero, List.set_cons_succ])
            | (with_reducible apply rel_askF
               focus (exact rfl)
               all_goals (intro hb; simp only [hb, Act.put, List.setIfInBounds_toArray, List.set_cons_zero, List.set_cons_succ]))
            | (with_reducible apply rel_askT
               focus (exact rfl)
               all_goals (intro hb; simp only [hb, Act.put, List.setIfInBounds_toArray, List.set_cons_zero, List.set_cons_succ]))
            | (with_reducible apply rel_front1)
            | (with_reducible apply rel_front2)
            | (with_reducible apply rel_front3)
            | (with_reducible apply rel_front4)
            | (with_reducible apply rel_front5)
            | (with_reducible apply rel_front6))
          apply rel_nil
          simp only [Exit.then, Exit.inBlock]
          clear hS
          rw [show ((x0 == x1) == ((k : Int) != (i : Int))) = true from by rw [HCMP.out]; simp]
          have HWK := Lib.hid (show wrap64 ((k : Int) + 1) = ((k + 1 : Nat) : Int) by have := HN.out; unfold wrap64; omega)
          go_wp2_with fail
          refine ⟨⟨k + 1, by omega, rfl, by first | rw [HWK.out] | rfl, hB.out.drew⟩, ?_⟩
          try rw [HWK.out]
          simp only [intOf, Int.toNat_natCast]
          omega
        · obtain rfl : k = l2.length := by omega
          have HB8 := Lib.hid (HB7.out.trans (Below.mono hB.out HB7.out.size))
          have HX8 := Lib.hid (HX7.out.1.below hB.out HX7.out.1.lt)
          have HM8 := Lib.hid (And.intro HM7.out.1 (And.intro (Kd.C_below HM7.out.2.1 hB.out) (And.intro HM7.out.2.2.1 (Kd.C_below HM7.out.2.2.2.1 hB.out))))
          have s0 := HX8.out.cell 0 _ rfl
          have s1 := HX8.out.cell 1 _ rfl
          have s2 := HX8.out.cell 2 _ rfl
          clear hB HB7 HX7 HM7
          rename World => w8
          go_wp2_with fail
          have hne : cmL a0 l2 ≠ cmL a0 m := fun e => by
            obtain ⟨hi, hy⟩ := HY.out
            have hlm : i < m.length := by rw [HML.out]; exact hi
            have e2 : cmI a0 l2[i] = cmI a0 m[i] := by
              have h1 : (cmL a0 l2)[i]? = (cmL a0 m)[i]? := by rw [e]
              simpa [cmL, hi, hlm] using h1
            have hmi : m[i] = y := by simp only [← HM.out, List.getElem_set_self]
            rw [hmi, ← hy] at e2
            have hmem : chgL l2[i] a4 a5 ∈ m := by
              rw [← HM.out, hy]
              exact List.mem_set hi _
            exact chg_ne HZ.out.1 (List.all_eq_true.1 (lines_parts HZ.out.2.2.1).2.1 _ (List.getElem_mem hi)) (List.all_eq_true.1 (lines_parts HZ.out.2.2.2).2.1 _ hmem) HQ.out.2.2.1 HQ.out.2.2.2.1 HQ.out.2.2.2.2 e2
          have hn1 : 1 ≤ l2.length := by obtain ⟨hi, -⟩ := HY.out; omega
          have hne2 : cmL a0 l2 ≠ cmL a0 (l2.take (l2.length - 1)) := fun e => by
            have h1 : (cmL a0 l2).length = (cmL a0 (l2.take (l2.length - 1))).length := by rw [← e]
            rw [cmL_len, cmL_len, List.length_take] at h1
            omega
          have HNE := Lib.hid (And.intro hne (And.intro hne2 hn1))
          clear hne hn1 hne2
          have hlS := lit_S w8 (⟨a1, a0, cmL a0 l2⟩ : S45) (A2 := S) (c2 := ns) (by simp only [cmL_len]; exact HM8.out.2.2.1) (by simp only [cmL_len]; exact HM8.out.2.2.2)
          have hb9 := (Below.refl w8.heap.size w8).alloc (Nat.le_refl _) (Obj.cells #[Value.int IntKind.i64 a1, Value.int IntKind.i64 a0, Value.slice S (cmL a0 l2).length ns] 45)
          simp only at hlS
          rw [cmL_len] at hlS hb9
          generalize w8.alloc (Obj.cells #[Value.int IntKind.i64 a1, Value.int IntKind.i64 a0, Value.slice S l2.length ns] 45) = w9 at hlS hb9 ⊢
          have hB9 := HB8.out.trans (Below.mono hb9 HB8.out.size)
          refine (statement_Make.calls 0 _ 1 [(⟨a1, a0, cmL a0 l2⟩ : S45)] a1 A2 c2 l2 a1 0 0 a0 l2 [] 0 w9 hlS (Nat.le_refl _) (Kd.C_below HR.out hB9) HC.out (TabOk.below HT.out hB9) (by unfold statement_Make.f; rw [make_one HZ.out.1 HZ.out.2.1 HZ.out.2.2.1 HZ.out.2.2.1, if_pos rfl])).mono ?_
          rintro e w10 ⟨v4, v5, rfl, o4, o5, hb10⟩
          obtain ⟨M4, n4, rfl, -, -⟩ := Kd.R_reads o4
          obtain ⟨P4, m4, rfl, -, -⟩ := Kd.R_reads o5
          have HB10 := Lib.hid (hB9.trans (Below.mono hb10 hB9.size))
          have HL10 := Lib.hid (Kd.C_below hlS hb10)
          have HM10 := Lib.hid (And.intro HM8.out.1 (Kd.C_below HM8.out.2.1 (hb9.trans (Below.mono hb10 hb9.size))))
          clear o4 o5 hlS hb9 hb10 hB9 HB8 HM8 HX8 s0 s1 s2
          simp only [List.length_nil]
          go_wp2_with fail
          generalize hw11 : w10.alloc (Obj.cells #[Value.int .i64 a1, .int .i64 0, .int .i64 0, .int .i64 a0, .slice M4 l2.length n4, .slice P4 0 m4] 35) = w11
          have hb11 : Below w10.heap.size w10 w11 := by rw [← hw11]; exact (Below.refl _ _).alloc (Nat.le_refl _) _
          have hB11 := HB10.out.trans (Below.mono hb11 HB10.out.size)
          have hml : Kd.C k50 w11 M m.length m := by rw [HML.out]; exact Kd.C_below HM10.out.2 hb11
          rw [show Value.slice M l2.length nm = Value.slice M m.length nm from by rw [HML.out]]
          refine (statement_Make.calls 0 _ 1 [(⟨a1, a0, cmL a0 l2⟩ : S45)] a1 M nm m 0 0 0 0 [] [] 31 w11 (Kd.C_below HL10.out hb11) (Nat.le_refl _) hml (by rw [HML.out]; exact HM10.out.1) (TabOk.below HT.out hB11) (by unfold statement_Make.f; rw [make_one HZ.out.1 HZ.out.2.1 HZ.out.2.2.1 HZ.out.2.2.2, if_neg HNE.out.1])).mono ?_
          rintro e w12 ⟨v4, v5, rfl, o4, o5, hb12⟩
          obtain ⟨M5, n5, rfl, -, -⟩ := Kd.R_reads o4
          obtain ⟨P5, m5, rfl, -, -⟩ := Kd.R_reads o5
          have HB12 := Lib.hid (hB11.trans (Below.mono hb12 hB11.size))
          have HL12 := Lib.hid (Kd.C_below (Kd.C_below HL10.out hb11) hb12)
          clear hw11 hb11 hB11 hml o4 o5 hb12 HB10 HL10 HM10
          simp only [List.length_nil]
          have hw1 : IntKind.i64.wrap ((l2.length : Int) - 1) = ((l2.length - 1 : Nat) : Int) := by have := HNE.out.2.2; have := HN.out; rw [IntKind.wrap_i64]; omega
          have hcap : l2.length ≤ c2 + 1 := by have := HC.out; omega
          go_wp2_with fail
          generalize hw13 : w12.alloc (Obj.cells #[Value.int .i64 0, .int .i64 0, .int .i64 0, .int .i64 0, .slice M5 0 n5, .slice P5 0 m5] 35) = w13
          have hb13 : Below w12.heap.size w12 w13 := by rw [← hw13]; exact (Below.refl _ _).alloc (Nat.le_refl _) _
          have hB13 := HB12.out.trans (Below.mono hb13 HB12.out.size)
          have htk : (l2.take (l2.length - 1)).length = l2.length - 1 := by rw [List.length_take, Nat.min_eq_left (Nat.sub_le _ _)]
          rw [show Value.slice A2 (l2.length - 1) c2 = Value.slice A2 (l2.take (l2.length - 1)).length c2 from by rw [htk]]
          refine (statement_Make.calls 0 _ 1 [(⟨a1, a0, cmL a0 l2⟩ : S45)] a1 A2 c2 (l2.take (l2.length - 1)) 0 0 0 0 [] [] 31 w13 (Kd.C_below HL12.out hb13) (Nat.le_refl _) (Kd.C_take (Kd.C_below HR.out hB13) (Nat.sub_le _ _)) (by rw [htk]; omega) (TabOk.below HT.out hB13) (by unfold statement_Make.f; rw [make_one HZ.out.1 HZ.out.2.1 HZ.out.2.2.1 (take_lines HZ.out.2.2.1 _), if_neg HNE.out.2.1])).mono ?_
          rintro e w14 ⟨v4, v5, rfl, o4, o5, hb14⟩
          obtain ⟨M6, n6, rfl, -, -⟩ := Kd.R_reads o4
          obtain ⟨P6, m6, rfl, -, -⟩ := Kd.R_reads o5
          have HB14 := Lib.hid (hB13.trans (Below.mono hb14 hB13.size))
          clear hw13 hb13 hB13 htk o4 o5 hb14 HB12 HL12 hw1 hcap
          simp only [List.length_nil]
          go_wp2_with fail
          go_ret
          exact ⟨rfl, HB14.out.alloc HB14.out.size _⟩
end Go.Proofs.YtkdckjafhaadiaaDoor.P
