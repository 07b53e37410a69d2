/- Chapter 40: BallotLinks. -/
import Derived.Test.YtkaebblbmoolaaaDoorPbE
import Derived.Test.YtkaebblbmoolaaaDoorXhead40
import Derived.Test.YtkaebblbmoolaaaDoorPx7
set_option linter.unusedSimpArgs false
set_option linter.unusedVariables false
namespace Go.Proofs.YtkaebblbmoolaaaDoor.P
open Go Go.RowKit Go.Proofs.YtkaebblbmoolaaaDoorW.PrintWords Go.Proofs.YtkaebblbmoolaaaDoorW.PrintLast Go.Proofs.YtkaebblbmoolaaaDoorW.PrintMore Go.Proofs.YtkaebblbmoolaaaDoor.Ord
attribute [local go_sem ↓] Go.wp_at_zero Go.wp_at_succ

set_option maxHeartbeats 4000000 in
set_option maxRecDepth 100000 in
theorem links_walk (a0 : Int) (Ai : Option Addr) (ci : Nat) (inn : List S23) (A0 : Option Addr) (c0 : Nat) (mid : List S23) (A1 : Option Addr) (c1 : Nat) (out : List S23) (A2 : Option Addr) (c2 : Nat) (links : List S53) (w : World)
    (hri : Kd.C k23 w Ai inn.length inn) (hci : inn.length ≤ ci) (hr0 : Kd.C k23 w A0 mid.length mid) (hc0 : mid.length ≤ c0) (hr1 : Kd.C k23 w A1 out.length out) (hc1 : out.length ≤ c1) (hr2 : Kd.C k53 w A2 links.length links) (hc2 : links.length ≤ c2) (hT : TabOk w) (h0 : (Lit.int .u64 a0).wf = true) :
    Calls Tryd.prog 7 #[.int .u64 a0, .slice Ai inn.length ci, .agg #[.slice A0 mid.length c0, .slice A1 out.length c1, .slice A2 links.length c2]] w fun e w' => e = .returned (.bool true) ∧ Below w.heap.size w w' := by
  obtain ⟨x0, x1⟩ := secN_lt a0
  have hsec := secret_f h0
  generalize secN a0 = x at x0 x1 hsec
  have HX := Lib.hid (And.intro x0 x1)
  have HP := Lib.hid (public_f x0 x1)
  have HS := Lib.hid hsec
  have HT := Lib.hid hT
  have HR := Lib.hid (And.intro hri (And.intro hr0 (And.intro hr1 hr2)))
  have HC := Lib.hid (And.intro hci (And.intro hc0 (And.intro hc1 hc2)))
  clear x0 x1 hsec h0 hT hri hr0 hr1 hr2 hci hc0 hc1 hc2
  go_enter Tryd.func7, Tryd.ntmps7
  go_wp2_with fail
  obtain ⟨hx1, hs1, hb1⟩ := Blk.box w 28 [Value.slice A0 mid.length c0, Value.slice A1 out.length c1, Value.slice A2 links.length c2]
  rw [show (List.toArray [Value.slice A0 mid.length c0, Value.slice A1 out.length c1, Value.slice A2 links.length c2]) = #[Value.slice A0 mid.length c0, Value.slice A1 out.length c1, Value.slice A2 links.length c2] from rfl] at hx1 hs1 hb1
  generalize w.alloc (Obj.cells #[Value.slice A0 mid.length c0, Value.slice A1 out.length c1, Value.slice A2 links.length c2] 28) = w1 at hx1 hs1 hb1 ⊢
  refine (cohousinglaw40_head.calls true w1 (TabOk.below HT.out hb1) rfl).mono ?_
  rintro e w2 ⟨rfl, hb2⟩
  have HX2 := Lib.hid (hx1.below hb2 hx1.lt)
  have HB2 := Lib.hid (show Below w.heap.size w w2 from hb1.trans (Below.mono hb2 (by omega)))
  clear hx1 hs1 hb1 hb2
  go_wp2_with fail
  refine (cohousingref08_Secret.calls a0 (x : Int) w2 HS.out).mono ?_
  rintro e w3 ⟨rfl, hd⟩
  have HB3 := Lib.hid (below_step HB2.out hd.below)
  have HX3 := Lib.hid (HX2.out.below hd.below HX2.out.lt)
  clear hd HB2 HX2
  go_wp2_with fail
  refine (cohousinglaw40_public.calls (x : Int) (pubN x : Int) w3 HP.out).mono ?_
  rintro e w4 ⟨rfl, hb4⟩
  have HB4 := Lib.hid (HB3.out.trans (Below.mono hb4 HB3.out.size))
  have HX4 := Lib.hid (HX3.out.below hb4 HX3.out.lt)
  clear hb4 HB3 HX3
  by_cases h8 : (8 : Int) < (inn.length : Int)
  · have d8 : decide ((8 : Int) < (inn.length : Int)) = true := decide_eq_true h8
    clear h8
    go_wp2_with fail
    go_ret
    exact ⟨rfl, HB4.out⟩
  have d8 : decide ((8 : Int) < (inn.length : Int)) = false := decide_eq_false h8
  have H8 := Lib.hid (show inn.length ≤ 8 by omega)
  have m0 := HX4.out.cell 0 _ rfl
  have m1 := HX4.out.cell 1 _ rfl
  have m2 := HX4.out.cell 2 _ rfl
  clear h8
  go_wp2_with fail
  obtain ⟨⟨is, er⟩, hv⟩ : ∃ v, chkV (pubN x : Int) inn mid out links = v := ⟨_, rfl⟩
  refine (ballot_Check.calls (pubN x : Int) Ai ci inn A0 c0 mid A1 c1 out A2 c2 links is er w4 (Kd.C_below HR.out.1 HB4.out) HC.out.1 (Kd.C_below HR.out.2.1 HB4.out) HC.out.2.1 (Kd.C_below HR.out.2.2.1 HB4.out) HC.out.2.2.1 (Kd.C_below HR.out.2.2.2 HB4.out) HC.out.2.2.2 (TabOk.below HT.out HB4.out) (by unfold ballot_Check.f; rw [hv])).mono ?_
  rintro e w5 ⟨rfl, hb5⟩
  have HB5 := Lib.hid (HB4.out.trans (Below.mono hb5 HB4.out.size))
  have hx5 := HX4.out.below hb5 HX4.out.lt
  have he := chkV_err (pubN x : Int) inn mid out links
  rw [hv] at he
  simp only at he
  have m0' := hx5.cell 0 _ rfl
  have m1' := hx5.cell 1 _ rfl
  have HX5 := Lib.hid hx5
  clear hb5 HB4 HX4 m0 m1 m2 hx5
  cases is with
  | false =>
    rcases he with rfl | he
    · clear hv
      go_wp2_with fail
      go_ret
      exact ⟨rfl, HB5.out⟩
    · simp only [Prod.mk.injEq] at he
      obtain ⟨_, rfl⟩ := he
      clear hv
      go_wp2_with fail
      go_ret
      exact ⟨rfl, HB5.out⟩
  | true =>
    obtain ⟨rfl, q0, q1, q2, q3, q4⟩ := chkV_yes hv
    rcases askV_cases inn mid out with ⟨_, r0, r1, r2, r3⟩ | ⟨hbad, _⟩
    case inr => rw [hbad] at q2; exact absurd q2 (by decide)
    obtain ⟨d1, d2⟩ := okL_parts r1
    obtain ⟨d3, d4⟩ := okL_parts r2
    obtain ⟨bits, hbits⟩ : ∃ b, (askV inn mid out).1 = b := ⟨_, rfl⟩
    have hask : askV inn mid out = (bits, 0) := by rw [← hbits, ← q2]
    rw [hbits] at q4 r3
    have n1 := (okL_len r0).2.1
    have HQ := Lib.hid (And.intro q1 (And.intro d1 (And.intro d3 q4)))
    have HL := Lib.hid (And.intro q3 (And.intro d2 (And.intro d4 (And.intro r3 n1))))
    clear he hv q0 q1 q2 q3 q4 r0 r1 r2 r3 d1 d2 d3 d4 hbits n1
    go_wp2_with fail
    refine (ballot_Asked.calls Ai ci inn A0 c0 mid A1 c1 out bits 0 w5 (Kd.C_below HR.out.1 HB5.out) HC.out.1 (Kd.C_below HR.out.2.1 HB5.out) HC.out.2.1 (Kd.C_below HR.out.2.2.1 HB5.out) HC.out.2.2.1 (TabOk.below HT.out HB5.out) (by unfold ballot_Asked.f; rw [hask])).mono ?_
    rintro e w6 ⟨vb, rfl, ho6, hb6⟩
    obtain ⟨g, cap, rfl, hg1, hg2, cells, hg3⟩ := Kd.R_form ho6 (by have := HL.out; omega)
    have hfr6 : Fr w w.heap.size g [Value.slice A0 mid.length c0, Value.slice A1 out.length c1, Value.slice A2 links.length c2] cells.toList w6 := ⟨HB5.out.trans (Below.mono hb6 HB5.out.size), HX5.out.below hb6 HX5.out.lt, by unfold Blk; exact hg3⟩
    have HCL := Lib.hid (fun (j : Nat) (hj : j < bits.length) => (Kd.R_celln false ho6 (j : Int) (by omega) (by omega)).1)
    have HCW := Lib.hid hg3
    have H6 := Lib.hid hfr6
    have n0 := hfr6.m.cell 0 _ rfl
    have n1 := hfr6.m.cell 1 _ rfl
    have n2 := hfr6.m.cell 2 _ rfl
    have b0 : ((bits.length : Int) != (inn.length : Int)) = false := by have := HL.out; simp; omega
    have b1 : ((links.length : Int) != (inn.length : Int)) = false := by have := HL.out; simp; omega
    have b2 : ((mid.length : Int) != (inn.length : Int)) = false := by have := HL.out; simp; omega
    have b3 : ((out.length : Int) != (inn.length : Int)) = false := by have := HL.out; simp; omega
    obtain ⟨ai, rfl, -, -⟩ := read_ci HR.out.1 (Below.refl _ _) 0 (by omega) (by have := HL.out; omega)
    obtain ⟨am, rfl, -, -⟩ := read_ci HR.out.2.1 (Below.refl _ _) 0 (by omega) (by have := HL.out; omega)
    obtain ⟨ao, rfl, -, -⟩ := read_ci HR.out.2.2.1 (Below.refl _ _) 0 (by omega) (by have := HL.out; omega)
    obtain ⟨al, rfl, -, -, -⟩ := read_l HR.out.2.2.2 (Below.refl _ _) 0 (links[0]'(by have := HL.out; omega)) (List.getElem?_eq_getElem (by have := HL.out; omega))
    clear hfr6 ho6 hb6 hg1 hg2 hg3 hask m0' m1' HB5 HX5
    go_wp2_with fail
    go_loopw [7, 92] (fun u i wr => ∃ k : Nat, k ≤ links.length ∧ u = .bool true ∧ i = .int .i64 k ∧ Hid (∃ L R, chkF (pubN x : Int) inn mid out bits k L R (links.drop k) = true) ∧ Hid (Fr w w.heap.size g [Value.slice (some am) mid.length c0, Value.slice (some ao) out.length c1, Value.slice (some al) links.length c2] cells.toList wr)) (fun _ i _ => links.length - (intOf i).toNat)
    case atStart => exact ⟨0, Nat.zero_le _, rfl, rfl, ⟨_, _, HQ.out.2.2.2⟩, H6.out⟩
    case round =>
      obtain ⟨k, hk, rfl, rfl, hc, hfr⟩ := hrel
      by_cases hlt : k < links.length
      · obtain ⟨y, hyk⟩ : ∃ y, links[k]? = some y := ⟨links[k], List.getElem?_eq_getElem hlt⟩
        obtain ⟨L, R, hcc⟩ := hc.out
        obtain ⟨hcon, hnext⟩ := chk_step HX.out.1 HX.out.2 rfl HQ.out.1 HQ.out.2.1 HL.out.2.1 HL.out.1 hyk hcc
        have hrl := HR.out.2.2.2
        obtain ⟨ad, e, hl0, hl1, hl2⟩ := read_l hrl hfr.out.b k y hyk
        cases e
        have HN := Lib.hid hnext
        have HCON := Lib.hid hcon
        obtain ⟨f0, f1, f2⟩ := y
        simp only at hl0 hl1 hl2
        have hkn : (k : Int) < (inn.length : Int) ∧ inn.length ≤ 8 ∧ links.length ≤ 8 := by have := HL.out; have := H8.out; omega
        have r0 : 0 ≤ f0 ∧ f0 < (inn.length : Int) ∧ 0 ≤ f1 ∧ f1 < (inn.length : Int) := by
          rcases hcon with ⟨_, e0, e1, e2, _⟩ | ⟨_, e0, e1, e2, _⟩
          · simp only at e0 e1 e2; omega
          · simp only at e0 e1 e2; omega
        have d0 : decide (f0 < 0) = false := decide_eq_false (by omega)
        have d1 : decide ((inn.length : Int) ≤ f0) = false := decide_eq_false (by omega)
        have d2 : decide (f1 < 0) = false := decide_eq_false (by omega)
        have d3 : decide ((inn.length : Int) ≤ f1) = false := decide_eq_false (by omega)
        have R0 := Lib.hid r0
        have hkl : k < bits.length := by have := HL.out; omega
        have hkb : (k : Int) < (bits.length : Int) := by omega
        have h0 := HCL.out k hkl
        rw [Int.toNat_natCast] at h0
        simp only [World.cell?, HCW.out] at h0
        have hga := fun o => (hfr.out.a.alloc o).cell k (.bool (rdOf false bits (k : Int))) (by simpa using h0)
        clear hc hnext hcon hcc hrl hyk r0 h0
        rcases HCON.out with ⟨hb, e0, e1, e2, o, g1, g2⟩ | ⟨hb, e0, e1, e2, o, g1, g2⟩
        · simp only at e0 e1 e2 g2
          subst e0
          rw [hb] at hga
          have HG := Lib.hid (And.intro g1 g2)
          clear hb g1 g2
          go_wp2_with fail
          obtain ⟨hx7, hs7, hb7⟩ := Blk.box wr 53 [Value.int IntKind.i64 (k : Int), Value.int IntKind.i64 f1, Value.int IntKind.i64 f2]
          rw [show (List.toArray [Value.int IntKind.i64 (k : Int), Value.int IntKind.i64 f1, Value.int IntKind.i64 f2]) = #[Value.int IntKind.i64 (k : Int), Value.int IntKind.i64 f1, Value.int IntKind.i64 f2] from rfl] at hx7 hs7 hb7
          generalize wr.alloc (Obj.cells #[Value.int IntKind.i64 (k : Int), Value.int IntKind.i64 f1, Value.int IntKind.i64 f2] 53) = w7 at hx7 hs7 hb7 ⊢
          have hf7 := hfr.out.below hb7 (Nat.le_refl _)
          have H7 := Lib.hid (And.intro hf7 hx7)
          clear hx7 hs7 hb7 hf7 hl0 hl1 hl2 hga
          have hS : ∀ W, Held (fun W => Fr w w.heap.size g [Value.slice (some am) mid.length c0, Value.slice (some ao) out.length c1, Value.slice (some al) links.length c2] cells.toList W ∧ Blk W wr.heap.size 53 [Value.int IntKind.i64 (k : Int), Value.int IntKind.i64 f1, Value.int IntKind.i64 f2]) W → W.cell? ⟨wr.heap.size, 0, none⟩ = some (.int .i64 (k : Int)) ∧ W.cell? ⟨wr.heap.size, 1, none⟩ = some (.int .i64 f1) ∧ W.cell? ⟨w.heap.size, 0, none⟩ = some (.slice (some am) mid.length c0) ∧ W.cell? ⟨w.heap.size, 1, none⟩ = some (.slice (some ao) out.length c1) := fun W hW =>
            ⟨hW.2.cell 0 _ rfl, hW.2.cell 1 _ rfl, hW.1.m.cell 0 _ rfl, hW.1.m.cell 1 _ rfl⟩
          have hm : ∀ W, Held (fun W => Fr w w.heap.size g [Value.slice (some am) mid.length c0, Value.slice (some ao) out.length c1, Value.slice (some al) links.length c2] cells.toList W ∧ Blk W wr.heap.size 53 [Value.int IntKind.i64 (k : Int), Value.int IntKind.i64 f1, Value.int IntKind.i64 f2]) W → W.cell? (am.add (k * 2)) = some (.int .i64 (rd_T23 mid (k : Int)).f0) ∧ W.cell? ⟨(am.add (k * 2)).block, (am.add (k * 2)).off + 1, none⟩ = some (.int .i64 (rd_T23 mid (k : Int)).f1) := fun W hW => by
            obtain ⟨ad, e, h2, h3⟩ := read_ci HR.out.2.1 hW.1.b (k : Int) (by omega) (by have := HL.out; omega)
            cases e
            simp only [Int.toNat_natCast] at h2 h3
            exact ⟨h2, h3⟩
          have ho : ∀ W, Held (fun W => Fr w w.heap.size g [Value.slice (some am) mid.length c0, Value.slice (some ao) out.length c1, Value.slice (some al) links.length c2] cells.toList W ∧ Blk W wr.heap.size 53 [Value.int IntKind.i64 (k : Int), Value.int IntKind.i64 f1, Value.int IntKind.i64 f2]) W → W.cell? (ao.add (f1.toNat * 2)) = some (.int .i64 (rd_T23 out f1).f0) ∧ W.cell? ⟨(ao.add (f1.toNat * 2)).block, (ao.add (f1.toNat * 2)).off + 1, none⟩ = some (.int .i64 (rd_T23 out f1).f1) := fun W hW => by
            obtain ⟨ad, e, h2, h3⟩ := read_ci HR.out.2.2.1 hW.1.b f1 e1 (by have := HL.out; omega)
            cases e
            exact ⟨h2, h3⟩
          have k1 : (k : Int) < (mid.length : Int) := by have := HL.out; omega
          have k2 : f1 < (out.length : Int) := by have := HL.out; omega
          refine wp_region_auto (fun W => Fr w w.heap.size g [Value.slice (some am) mid.length c0, Value.slice (some ao) out.length c1, Value.slice (some al) links.length c2] cells.toList W ∧ Blk W wr.heap.size 53 [Value.int IntKind.i64 (k : Int), Value.int IntKind.i64 f1, Value.int IntKind.i64 f2]) ((0, none, none) :: (0, none, none) :: (0, some (124, true), none) :: (0, some (124, true), none) :: (0, some (124, true), none) :: (0, some (124, true), none) :: (0, none, none) :: (0, none, none) :: (0, some (130, true), none) :: (0, some (130, true), none) :: (0, some (130, true), none) :: (0, some (130, true), none) :: (0, some (130, true), none) :: (0, some (130, true), none) :: (1, some (130, true), none) :: (1, some (130, true), none) :: (1, some (130, true), none) :: (1, some (130, true), none) :: (1, some (130, true), none) :: (1, some (130, true), none) :: (1, some (130, true), none) :: (0, some (130, true), some true) :: (0, some (130, true), some true) :: (0, some (130, true), none) :: (0, none, none) :: (0, none, none) :: []) (by kernel_rfl) (by kernel_rfl) (fun _ _ d _ _ h => by cases d <;> exact h) ⟨H7.out.1.below (below_drew (Below.refl w7.heap.size w7)) (Nat.le_refl _), H7.out.2.drew⟩ ?_
          repeat' (first
            | (with_reducible apply rel_pass
               focus (intro W hW; first | (go_simp; exact rfl) | go_simp)
               simp only [Act.put, List.setIfInBounds_toArray, List.set_cons_zero, List.set_cons_succ])
            | (with_reducible apply rel_yes
               focus (exact rfl))
            | (with_reducible apply rel_no
               focus (exact rfl)
               simp only [Act.put, List.setIfInBounds_toArray, List.set_cons_zero, List.set_cons_succ])
            | (with_reducible apply rel_askF
               focus (exact rfl)
               all_goals (intro hb; simp only [hb, Act.put, List.setIfInBounds_toArray, List.set_cons_zero, List.set_cons_succ]))
            | (with_reducible apply rel_askT
               focus (exact rfl)
               all_goals (intro hb; simp only [hb, Act.put, List.setIfInBounds_toArray, List.set_cons_zero, List.set_cons_succ]))
            | (with_reducible apply rel_front1)
            | (with_reducible apply rel_front2)
            | (with_reducible apply rel_front3)
            | (with_reducible apply rel_front4)
            | (with_reducible apply rel_front5)
            | (with_reducible apply rel_front6))
          with_reducible apply rel_act
          intro K hK
          go_simp
          refine (cohousinglaw40_open.calls (rd_T23 mid (k : Int)).f0 (rd_T23 mid (k : Int)).f1 (x : Int) o w7.drew HG.out.1).mono ?_
          rintro e w8 ⟨rfl, hb8⟩
          have H8' := Lib.hid (And.intro ((H7.out.1.below (below_drew (Below.refl w7.heap.size w7)) (Nat.le_refl _)).below hb8 (Nat.le_refl _)) (H7.out.2.drew.below hb8 H7.out.2.drew.lt))
          clear hb8
          refine hK _ _ ⟨fun _ => H8'.out, ?_⟩
          clear hK K
          try simp only [Act.put, List.setIfInBounds_toArray, List.set_cons_zero, List.set_cons_succ]
          repeat' (first
            | (with_reducible apply rel_pass
               focus (intro W hW; first | (go_simp; exact rfl) | go_simp)
               simp only [Act.put, List.setIfInBounds_toArray, List.set_cons_zero, List.set_cons_succ])
            | (with_reducible apply rel_yes
               focus (exact rfl))
            | (with_reducible apply rel_no
               focus (exact rfl)
               simp only [Act.put, List.setIfInBounds_toArray, List.set_cons_zero, List.set_cons_succ])
            | (with_reducible apply rel_askF
               focus (exact rfl)
               all_goals (intro hb; simp only [hb, Act.put, List.setIfInBounds_toArray, List.set_cons_zero, List.set_cons_succ]))
            | (with_reducible apply rel_askT
               focus (exact rfl)
               all_goals (intro hb; simp only [hb, Act.put, List.setIfInBounds_toArray, List.set_cons_zero, List.set_cons_succ]))
            | (with_reducible apply rel_front1)
            | (with_reducible apply rel_front2)
            | (with_reducible apply rel_front3)
            | (with_reducible apply rel_front4)
            | (with_reducible apply rel_front5)
            | (with_reducible apply rel_front6))
          with_reducible apply rel_act
          intro K hK
          go_simp
          refine (cohousinglaw40_open.calls (rd_T23 out f1).f0 (rd_T23 out f1).f1 (x : Int) o w8 HG.out.2).mono ?_
          rintro e w9 ⟨rfl, hb9⟩
          have H9 := Lib.hid (And.intro (H8'.out.1.below hb9 (Nat.le_refl _)) (H8'.out.2.below hb9 H8'.out.2.lt))
          clear hb9
          refine hK _ _ ⟨fun _ => H9.out, ?_⟩
          clear hK K
          try simp only [Act.put, List.setIfInBounds_toArray, List.set_cons_zero, List.set_cons_succ]
          repeat' (first
            | (with_reducible apply rel_pass
               focus (intro W hW; first | (go_simp; exact rfl) | go_simp)
               simp only [Act.put, List.setIfInBounds_toArray, List.set_cons_zero, List.set_cons_succ])
            | (with_reducible apply rel_yes
               focus (exact rfl))
            | (with_reducible apply rel_no
               focus (exact rfl)
               simp only [Act.put, List.setIfInBounds_toArray, List.set_cons_zero, List.set_cons_succ])
            | (with_reducible apply rel_askF
               focus (exact rfl)
               all_goals (intro hb; simp only [hb, Act.put, List.setIfInBounds_toArray, List.set_cons_zero, List.set_cons_succ]))
            | (with_reducible apply rel_askT
               focus (exact rfl)
               all_goals (intro hb; simp only [hb, Act.put, List.setIfInBounds_toArray, List.set_cons_zero, List.set_cons_succ]))
            | (with_reducible apply rel_front1)
            | (with_reducible apply rel_front2)
            | (with_reducible apply rel_front3)
            | (with_reducible apply rel_front4)
            | (with_reducible apply rel_front5)
            | (with_reducible apply rel_front6))
          apply rel_nil
          simp only [Exit.then, Exit.inBlock]
          go_wp2_with fail
          have HWJ := Lib.hid (show wrap64 ((k : Int) + 1) = ((k + 1 : Nat) : Int) by unfold wrap64; omega)
          refine ⟨⟨k + 1, by omega, by simp, by first | rw [HWJ.out] | rfl, HN.out, H9.out.1⟩, ?_⟩
          try rw [HWJ.out]
          simp only [intOf, Int.toNat_natCast]
          omega
        · simp only at e0 e1 e2 g2
          subst e0
          rw [hb] at hga
          have HG := Lib.hid (And.intro g1 g2)
          clear hb g1 g2
          go_wp2_with fail
          obtain ⟨hx7, hs7, hb7⟩ := Blk.box wr 53 [Value.int IntKind.i64 f0, Value.int IntKind.i64 (k : Int), Value.int IntKind.i64 f2]
          rw [show (List.toArray [Value.int IntKind.i64 f0, Value.int IntKind.i64 (k : Int), Value.int IntKind.i64 f2]) = #[Value.int IntKind.i64 f0, Value.int IntKind.i64 (k : Int), Value.int IntKind.i64 f2] from rfl] at hx7 hs7 hb7
          generalize wr.alloc (Obj.cells #[Value.int IntKind.i64 f0, Value.int IntKind.i64 (k : Int), Value.int IntKind.i64 f2] 53) = w7 at hx7 hs7 hb7 ⊢
          have hf7 := hfr.out.below hb7 (Nat.le_refl _)
          have H7 := Lib.hid (And.intro hf7 hx7)
          clear hx7 hs7 hb7 hf7 hl0 hl1 hl2 hga
          have hS : ∀ W, Held (fun W => Fr w w.heap.size g [Value.slice (some am) mid.length c0, Value.slice (some ao) out.length c1, Value.slice (some al) links.length c2] cells.toList W ∧ Blk W wr.heap.size 53 [Value.int IntKind.i64 f0, Value.int IntKind.i64 (k : Int), Value.int IntKind.i64 f2]) W → W.cell? ⟨wr.heap.size, 0, none⟩ = some (.int .i64 f0) ∧ W.cell? ⟨wr.heap.size, 1, none⟩ = some (.int .i64 (k : Int)) ∧ W.cell? ⟨w.heap.size, 0, none⟩ = some (.slice (some am) mid.length c0) ∧ W.cell? ⟨w.heap.size, 1, none⟩ = some (.slice (some ao) out.length c1) := fun W hW =>
            ⟨hW.2.cell 0 _ rfl, hW.2.cell 1 _ rfl, hW.1.m.cell 0 _ rfl, hW.1.m.cell 1 _ rfl⟩
          have hm : ∀ W, Held (fun W => Fr w w.heap.size g [Value.slice (some am) mid.length c0, Value.slice (some ao) out.length c1, Value.slice (some al) links.length c2] cells.toList W ∧ Blk W wr.heap.size 53 [Value.int IntKind.i64 f0, Value.int IntKind.i64 (k : Int), Value.int IntKind.i64 f2]) W → W.cell? (am.add (k * 2)) = some (.int .i64 (rd_T23 mid (k : Int)).f0) ∧ W.cell? ⟨(am.add (k * 2)).block, (am.add (k * 2)).off + 1, none⟩ = some (.int .i64 (rd_T23 mid (k : Int)).f1) := fun W hW => by
            obtain ⟨ad, e, h2, h3⟩ := read_ci HR.out.2.1 hW.1.b (k : Int) (by omega) (by have := HL.out; omega)
            cases e
            simp only [Int.toNat_natCast] at h2 h3
            exact ⟨h2, h3⟩
          have ho : ∀ W, Held (fun W => Fr w w.heap.size g [Value.slice (some am) mid.length c0, Value.slice (some ao) out.length c1, Value.slice (some al) links.length c2] cells.toList W ∧ Blk W wr.heap.size 53 [Value.int IntKind.i64 f0, Value.int IntKind.i64 (k : Int), Value.int IntKind.i64 f2]) W → W.cell? (ai.add (f0.toNat * 2)) = some (.int .i64 (rd_T23 inn f0).f0) ∧ W.cell? ⟨(ai.add (f0.toNat * 2)).block, (ai.add (f0.toNat * 2)).off + 1, none⟩ = some (.int .i64 (rd_T23 inn f0).f1) := fun W hW => by
            obtain ⟨ad, e, h2, h3⟩ := read_ci HR.out.1 hW.1.b f0 e1 (by have := HL.out; omega)
            cases e
            exact ⟨h2, h3⟩
          have k1 : (k : Int) < (mid.length : Int) := by have := HL.out; omega
          have k2 : f0 < (inn.length : Int) := by have := HL.out; omega
          refine wp_region_auto (fun W => Fr w w.heap.size g [Value.slice (some am) mid.length c0, Value.slice (some ao) out.length c1, Value.slice (some al) links.length c2] cells.toList W ∧ Blk W wr.heap.size 53 [Value.int IntKind.i64 f0, Value.int IntKind.i64 (k : Int), Value.int IntKind.i64 f2]) ((0, none, none) :: (0, none, none) :: (0, some (149, true), none) :: (0, some (149, true), none) :: (0, some (149, true), none) :: (0, some (149, true), none) :: (0, none, none) :: (0, none, none) :: (0, some (155, true), none) :: (0, some (155, true), none) :: (0, some (155, true), none) :: (0, some (155, true), none) :: (0, some (155, true), none) :: (0, some (155, true), none) :: (1, some (155, true), none) :: (1, some (155, true), none) :: (1, some (155, true), none) :: (1, some (155, true), none) :: (1, some (155, true), none) :: (1, some (155, true), none) :: (0, some (155, true), some true) :: (0, some (155, true), some true) :: (0, some (155, true), none) :: (0, none, none) :: (0, none, none) :: []) (by kernel_rfl) (by kernel_rfl) (fun _ _ d _ _ h => by cases d <;> exact h) ⟨H7.out.1.below (below_drew (Below.refl w7.heap.size w7)) (Nat.le_refl _), H7.out.2.drew⟩ ?_
          repeat' (first
            | (with_reducible apply rel_pass
               focus (intro W hW; first | (go_simp; exact rfl) | go_simp)
               simp only [Act.put, List.setIfInBounds_toArray, List.set_cons_zero, List.set_cons_succ])
            | (with_reducible apply rel_yes
               focus (exact rfl))
            | (with_reducible apply rel_no
               focus (exact rfl)
               simp only [Act.put, List.setIfInBounds_toArray, List.set_cons_zero, List.set_cons_succ])
            | (with_reducible apply rel_askF
               focus (exact rfl)
               all_goals (intro hb; simp only [hb, Act.put, List.setIfInBounds_toArray, List.set_cons_zero, List.set_cons_succ]))
            | (with_reducible apply rel_askT
               focus (exact rfl)
               all_goals (intro hb; simp only [hb, Act.put, List.setIfInBounds_toArray, List.set_cons_zero, List.set_cons_succ]))
            | (with_reducible apply rel_front1)
            | (with_reducible apply rel_front2)
            | (with_reducible apply rel_front3)
            | (with_reducible apply rel_front4)
            | (with_reducible apply rel_front5)
            | (with_reducible apply rel_front6))
          with_reducible apply rel_act
          intro K hK
          go_simp
          refine (cohousinglaw40_open.calls (rd_T23 mid (k : Int)).f0 (rd_T23 mid (k : Int)).f1 (x : Int) o w7.drew HG.out.1).mono ?_
          rintro e w8 ⟨rfl, hb8⟩
          have H8' := Lib.hid (And.intro ((H7.out.1.below (below_drew (Below.refl w7.heap.size w7)) (Nat.le_refl _)).below hb8 (Nat.le_refl _)) (H7.out.2.drew.below hb8 H7.out.2.drew.lt))
          clear hb8
          refine hK _ _ ⟨fun _ => H8'.out, ?_⟩
          clear hK K
          try simp only [Act.put, List.setIfInBounds_toArray, List.set_cons_zero, List.set_cons_succ]
          repeat' (first
            | (with_reducible apply rel_pass
               focus (intro W hW; first | (go_simp; exact rfl) | go_simp)
               simp only [Act.put, List.setIfInBounds_toArray, List.set_cons_zero, List.set_cons_succ])
            | (with_reducible apply rel_yes
               focus (exact rfl))
            | (with_reducible apply rel_no
               focus (exact rfl)
               simp only [Act.put, List.setIfInBounds_toArray, List.set_cons_zero, List.set_cons_succ])
            | (with_reducible apply rel_askF
               focus (exact rfl)
               all_goals (intro hb; simp only [hb, Act.put, List.setIfInBounds_toArray, List.set_cons_zero, List.set_cons_succ]))
            | (with_reducible apply rel_askT
               focus (exact rfl)
               all_goals (intro hb; simp only [hb, Act.put, List.setIfInBounds_toArray, List.set_cons_zero, List.set_cons_succ]))
            | (with_reducible apply rel_front1)
            | (with_reducible apply rel_front2)
            | (with_reducible apply rel_front3)
            | (with_reducible apply rel_front4)
            | (with_reducible apply rel_front5)
            | (with_reducible apply rel_front6))
          with_reducible apply rel_act
          intro K hK
          go_simp
          refine (cohousinglaw40_open.calls (rd_T23 inn f0).f0 (rd_T23 inn f0).f1 (x : Int) o w8 HG.out.2).mono ?_
          rintro e w9 ⟨rfl, hb9⟩
          have H9 := Lib.hid (And.intro (H8'.out.1.below hb9 (Nat.le_refl _)) (H8'.out.2.below hb9 H8'.out.2.lt))
          clear hb9
          refine hK _ _ ⟨fun _ => H9.out, ?_⟩
          clear hK K
          try simp only [Act.put, List.setIfInBounds_toArray, List.set_cons_zero, List.set_cons_succ]
          repeat' (first
            | (with_reducible apply rel_pass
               focus (intro W hW; first | (go_simp; exact rfl) | go_simp)
               simp only [Act.put, List.setIfInBounds_toArray, List.set_cons_zero, List.set_cons_succ])
            | (with_reducible apply rel_yes
               focus (exact rfl))
            | (with_reducible apply rel_no
               focus (exact rfl)
               simp only [Act.put, List.setIfInBounds_toArray, List.set_cons_zero, List.set_cons_succ])
            | (with_reducible apply rel_askF
               focus (exact rfl)
               all_goals (intro hb; simp only [hb, Act.put, List.setIfInBounds_toArray, List.set_cons_zero, List.set_cons_succ]))
            | (with_reducible apply rel_askT
               focus (exact rfl)
               all_goals (intro hb; simp only [hb, Act.put, List.setIfInBounds_toArray, List.set_cons_zero, List.set_cons_succ]))
            | (with_reducible apply rel_front1)
            | (with_reducible apply rel_front2)
            | (with_reducible apply rel_front3)
            | (with_reducible apply rel_front4)
            | (with_reducible apply rel_front5)
            | (with_reducible apply rel_front6))
          apply rel_nil
          simp only [Exit.then, Exit.inBlock]
          go_wp2_with fail
          have HWJ := Lib.hid (show wrap64 ((k : Int) + 1) = ((k + 1 : Nat) : Int) by unfold wrap64; omega)
          refine ⟨⟨k + 1, by omega, by simp, by first | rw [HWJ.out] | rfl, HN.out, H9.out.1⟩, ?_⟩
          try rw [HWJ.out]
          simp only [intOf, Int.toNat_natCast]
          omega
      · obtain rfl : k = links.length := by omega
        go_wp2_with fail
        go_ret
        exact ⟨rfl, hfr.out.b⟩
end Go.Proofs.YtkaebblbmoolaaaDoor.P
