/- Chapter 20: KeysMatchesReference, walked. -/
import Derived.Test.YtcnkenknbmmglaaDoorXrenR
import Derived.Test.YtcnkenknbmmglaaDoorXvouR
import Derived.Test.YtcnkenknbmmglaaDoorXhead20
import Derived.Test.YtcnkenknbmmglaaDoorPx17
import Derived.Test.YtcnkenknbmmglaaDoorPx17
set_option linter.unusedSimpArgs false
set_option linter.unusedVariables false
namespace Go.Proofs.YtcnkenknbmmglaaDoor.P
open Go Go.RowKit Go.Proofs.YtcnkenknbmmglaaDoorW.PrintWords Go.Proofs.YtcnkenknbmmglaaDoorW.PrintLast Go.Proofs.YtcnkenknbmmglaaDoorW.PrintMore Go.Proofs.YtcnkenknbmmglaaDoor.Ord

theorem same_l0 (l : List S49) (hl : l.length ≤ 2000) : ∀ (d i k : Nat), l.length - i = d → i ≤ l.length → d + 1 ≤ k → cohousingref20_Same.l0 k l l (i : Int) = some true
  | 0, i, k, h1, h2, h3 => by
    obtain ⟨k, rfl⟩ : ∃ m, k = m + 1 := ⟨k - 1, by omega⟩
    obtain rfl : i = l.length := by omega
    rw [cohousingref20_Same.l0, if_neg (by omega)]
  | d + 1, i, k, h1, h2, h3 => by
    obtain ⟨k, rfl⟩ : ∃ m, k = m + 1 := ⟨k - 1, by omega⟩
    have ih := same_l0 l hl d (i + 1) k (by omega) (by omega) (by omega)
    have hw : wrap64 ((i : Int) + 1) = ((i + 1 : Nat) : Int) := by unfold wrap64; omega
    rw [cohousingref20_Same.l0, if_pos (by omega), if_pos (by omega), if_pos (by omega), hw, ih]
    simp
theorem same_self (l : List S49) (hl : l.length ≤ 2000) : cohousingref20_Same.f 2100 l l = some true := by
  unfold cohousingref20_Same.f
  rw [if_pos rfl]
  exact same_l0 l hl l.length 0 2100 rfl (Nat.zero_le _) (by omega)
theorem fewM_f (l : List S49) (ns : List Int) (v : List S28) : cohousinglaw20_few.f l ns v = some (decide (l.length ≤ 40) && (decide (ns.length ≤ 20) && decide (v.length ≤ 20))) := by
  unfold cohousinglaw20_few.f
  by_cases h1 : l.length ≤ 40
  · rw [if_pos (by omega), decide_eq_true h1]
    by_cases h2 : ns.length ≤ 20
    · rw [if_pos (by omega), decide_eq_true h2]
      by_cases h3 : v.length ≤ 20
      · rw [decide_eq_true (by omega : (v.length : Int) ≤ 20), decide_eq_true h3]; rfl
      · rw [decide_eq_false (by omega : ¬ (v.length : Int) ≤ 20), decide_eq_false h3]; rfl
    · rw [if_neg (by omega), decide_eq_false h2]; rfl
  · rw [if_neg (by omega), decide_eq_false h1]; rfl
theorem renew_len (l : List S49) (ns : List Int) (need : Int) (v : List S28) : (renewV l ns need v).1.length ≤ l.length + 1 := by
  by_cases h : (renewV l ns need v).2 = 0
  · obtain ⟨m, hm⟩ : ∃ m, renewV l ns need v = (m, 0) := ⟨_, Prod.ext rfl h⟩
    have h2 := (renew_ok hm (fun _ _ => trivial)).2.2.2.2.1
    rw [hm, h2, insK_len]
    exact Nat.le_refl _
  · rw [renew_err h]
    exact Nat.zero_le _
/-- What stands while the law runs. -/
structure Fm (w W : World) (A0 : Option Addr) (l : List S49) (A1 : Option Addr) (ns : List Int) (A3 : Option Addr) (v : List S28) (x0 x1 x2 x3 x4 x5 : Int) : Prop where
  b : Below w.heap.size w W
  r0 : Kd.C k49 W A0 l.length l
  r1 : Kd.C (Kd.int .i64) W A1 ns.length ns
  r3 : Kd.C k28 W A3 v.length v
  x : Blk W w.heap.size 28 [.int .i64 x0, .int .i64 x1, .int .i64 x2, .int .i64 x3, .int .i64 x4, .int .i64 x5]
  t : TabOk W
theorem Fm.below {w W W' : World} {A0 : Option Addr} {l : List S49} {A1 : Option Addr} {ns : List Int} {A3 : Option Addr} {v : List S28} {x0 x1 x2 x3 x4 x5 : Int} (h : Fm w W A0 l A1 ns A3 v x0 x1 x2 x3 x4 x5) (hb : Below W.heap.size W W') : Fm w W' A0 l A1 ns A3 v x0 x1 x2 x3 x4 x5 :=
  ⟨h.b.trans (Below.mono hb h.b.size), Kd.C_below h.r0 hb, Kd.C_below h.r1 hb, Kd.C_below h.r3 hb, h.x.below hb h.x.lt, h.t.below hb⟩
theorem okW {a : Int} (h : (Lit.int .i64 a).wf = true) : okInt a = true := okInt_of (wf_i64 h).1 (wf_i64 h).2
set_option maxHeartbeats 8000000 in
set_option maxRecDepth 100000 in
theorem match_walk (A0 : Option Addr) (c0 : Nat) (l : List S49) (A1 : Option Addr) (c1 : Nat) (ns : List Int) (need : Int) (A3 : Option Addr) (c3 : Nat) (v : List S28) (x0 x1 x2 x3 x4 x5 key once : Int) (w : World) (hr0 : Kd.C k49 w A0 l.length l) (hc0 : l.length ≤ c0) (hr1 : Kd.C (Kd.int .i64) w A1 ns.length ns) (hc1 : ns.length ≤ c1) (hr3 : Kd.C k28 w A3 v.length v) (hc3 : v.length ≤ c3) (hT : TabOk w) (r0 : okInt x0 = true) (r1 : okInt x1 = true) (r2 : okInt x2 = true) :
    Calls Tryd.prog 3 #[.slice A0 l.length c0, .slice A1 ns.length c1, .int .i64 need, .slice A3 v.length c3, .agg #[.int .i64 x0, .int .i64 x1, .int .i64 x2, .int .i64 x3, .int .i64 x4, .int .i64 x5], .int .i64 key, .int .i64 once] w fun e w' => e = .returned (.bool true) ∧ Below w.heap.size w w' := by
  have HC := Lib.hid (And.intro hc0 (And.intro hc1 hc3))
  have HR := Lib.hid (And.intro r0 (And.intro r1 r2))
  have HA := Lib.hid (And.intro hr0 (And.intro hr1 (And.intro hr3 hT)))
  clear hr0 hc0 hr1 hc1 hr3 hc3 hT r0 r1 r2
  go_enter Tryd.func3, Tryd.ntmps3
  go_wp2_with fail
  obtain ⟨hx, -, hb⟩ := Blk.box w 28 [.int .i64 x0, .int .i64 x1, .int .i64 x2, .int .i64 x3, .int .i64 x4, .int .i64 x5]
  rw [show (List.toArray [Value.int .i64 x0, .int .i64 x1, .int .i64 x2, .int .i64 x3, .int .i64 x4, .int .i64 x5]) = #[.int .i64 x0, .int .i64 x1, .int .i64 x2, .int .i64 x3, .int .i64 x4, .int .i64 x5] from rfl] at hx hb
  generalize w.alloc (Obj.cells #[.int .i64 x0, .int .i64 x1, .int .i64 x2, .int .i64 x3, .int .i64 x4, .int .i64 x5] 28) = w1 at *
  have H1 := Lib.hid (show Fm w w1 A0 l A1 ns A3 v x0 x1 x2 x3 x4 x5 from ⟨hb, Kd.C_below HA.out.1 hb, Kd.C_below HA.out.2.1 hb, Kd.C_below HA.out.2.2.1 hb, hx, HA.out.2.2.2.below hb⟩)
  clear hx hb HA
  refine (cohousinglaw20_head.calls true w1 H1.out.t rfl).mono ?_
  rintro e w2 ⟨rfl, hd⟩
  have H2 := Lib.hid (H1.out.below hd)
  clear hd H1
  go_wp2_with fail
  refine (cohousinglaw20_few.calls A0 c0 l A1 c1 ns A3 c3 v _ w2 H2.out.r0 HC.out.1 H2.out.r1 HC.out.2.1 H2.out.r3 HC.out.2.2 (fewM_f l ns v)).mono ?_
  rintro e w3 ⟨rfl, hd⟩
  have H3 := Lib.hid (H2.out.below hd.below)
  clear hd H2
  cases hfew : (decide (l.length ≤ 40) && (decide (ns.length ≤ 20) && decide (v.length ≤ 20))) with
  | false =>
    go_wp2_with fail
    go_ret
    exact ⟨by first | rfl | simp, H3.out.b⟩
  | true =>
  simp only [Bool.and_eq_true, decide_eq_true_eq] at hfew
  obtain ⟨q1, q2, q3⟩ := hfew
  have m0 := H3.out.x.cell 0 _ rfl
  have m2 := H3.out.x.cell 2 _ rfl
  go_wp2_with fail
  clear m0 m2
  obtain ⟨o, ho⟩ : ∃ o, ofV l x0 x2 = o := ⟨_, rfl⟩
  obtain ⟨o1, o2, o3⟩ := o
  have HO := Lib.hid ho
  clear ho
  refine (keys_Of.calls 1006 A0 c0 l x0 x2 o1 o2 o3 w3 H3.out.r0 HC.out.1 (by rw [of_f l x0 x2 1006 (Nat.le_refl _), HO.out])).mono ?_
  rintro e w4 ⟨rfl, hd⟩
  have H4 := Lib.hid (H3.out.below hd)
  clear hd H3
  have m0 := H4.out.x.cell 0 _ rfl
  have m2 := H4.out.x.cell 2 _ rfl
  go_wp2_with fail
  clear m0 m2
  refine (cohousingref20_Of.calls 2100 A0 c0 l x0 x2 o1 o2 o3 w4 H4.out.r0 HC.out.1 (by rw [rOf_f l x0 x2 2100 (Nat.le_refl _), HO.out])).mono ?_
  rintro e w5 ⟨rfl, hd⟩
  have H5 := Lib.hid (H4.out.below hd.below)
  clear hd H4
  go_wp2_with fail
  obtain ⟨vb, hvb⟩ : ∃ b, validB l = b := ⟨_, rfl⟩
  have HVB := Lib.hid hvb
  clear hvb
  refine (keys_Valid.calls 1006 A0 c0 l vb w5 H5.out.r0 HC.out.1 (by rw [valid_f l 1006 (Nat.le_refl _), HVB.out])).mono ?_
  rintro e w6 ⟨rfl, hd⟩
  have H6 := Lib.hid (H5.out.below hd)
  clear hd H5
  go_wp2_with fail
  refine (cohousingref20_Valid.calls 2100 A0 c0 l vb w6 H6.out.r0 HC.out.1 (by rw [rValid_f l 2100 (Nat.le_refl _), HVB.out])).mono ?_
  rintro e w7 ⟨rfl, hd⟩
  have H7 := Lib.hid (H6.out.below hd.below)
  clear hd H6
  have m0 := H7.out.x.cell 0 _ rfl
  have m1 := H7.out.x.cell 1 _ rfl
  have m2 := H7.out.x.cell 2 _ rfl
  have m3 := H7.out.x.cell 3 _ rfl
  go_wp2_with fail
  clear m0 m1 m2 m3
  obtain ⟨q, hq⟩ : ∃ q, vouchV x0 x1 x2 x3 key once = q := ⟨_, rfl⟩
  obtain ⟨a0, a1, a2, a3, a4, a5, a6⟩ := q
  have HQ := Lib.hid hq
  clear hq
  refine (keys_Vouch.calls 12 x0 x1 x2 x3 key once a0 a1 a2 a3 a4 a5 a6 w7 H7.out.t (by rw [vouch_f _ _ _ _ _ _ 12 (Nat.le_refl _), HQ.out])).mono ?_
  rintro e w8 ⟨rfl, hd⟩
  have H8 := Lib.hid (H7.out.below hd)
  clear hd H7
  have m0 : ∀ o, (w8.alloc o).cell? ⟨w.heap.size, 0, none⟩ = _ := fun o => (H8.out.x.alloc o).cell 0 _ rfl
  have m1 : ∀ o, (w8.alloc o).cell? ⟨w.heap.size, 1, none⟩ = _ := fun o => (H8.out.x.alloc o).cell 1 _ rfl
  have m2 : ∀ o, (w8.alloc o).cell? ⟨w.heap.size, 2, none⟩ = _ := fun o => (H8.out.x.alloc o).cell 2 _ rfl
  have m3 : ∀ o, (w8.alloc o).cell? ⟨w.heap.size, 3, none⟩ = _ := fun o => (H8.out.x.alloc o).cell 3 _ rfl
  go_wp2_with fail
  clear m0 m1 m2 m3
  obtain ⟨hx, hs, hb⟩ := Blk.box w8 28 [.int .i64 a0, .int .i64 a1, .int .i64 a2, .int .i64 a3, .int .i64 a4, .int .i64 a5]
  rw [show (List.toArray [Value.int .i64 a0, .int .i64 a1, .int .i64 a2, .int .i64 a3, .int .i64 a4, .int .i64 a5]) = #[.int .i64 a0, .int .i64 a1, .int .i64 a2, .int .i64 a3, .int .i64 a4, .int .i64 a5] from rfl] at hx hs hb
  generalize w8.alloc (Obj.cells #[.int .i64 a0, .int .i64 a1, .int .i64 a2, .int .i64 a3, .int .i64 a4, .int .i64 a5] 28) = w9 at *
  have H9 := Lib.hid (H8.out.below hb)
  have HY9 := Lib.hid hx
  clear hx hs hb H8
  generalize w8.heap.size = bc at *
  refine (vouR_calls x0 x1 x2 x3 key once w9 HR.out.1 HR.out.2.1 HR.out.2.2 (a0, a1, a2, a3, a4, a5, a6) HQ.out).mono ?_
  rintro e w10 ⟨rfl, hd⟩
  have H10 := Lib.hid (H9.out.below hd)
  have HY10 := Lib.hid (HY9.out.below hd HY9.out.lt)
  clear hd H9 HY9
  have m0 : ∀ o, (w10.alloc o).cell? ⟨bc, 0, none⟩ = _ := fun o => (HY10.out.alloc o).cell 0 _ rfl
  have m1 : ∀ o, (w10.alloc o).cell? ⟨bc, 1, none⟩ = _ := fun o => (HY10.out.alloc o).cell 1 _ rfl
  have m2 : ∀ o, (w10.alloc o).cell? ⟨bc, 2, none⟩ = _ := fun o => (HY10.out.alloc o).cell 2 _ rfl
  have m3 : ∀ o, (w10.alloc o).cell? ⟨bc, 3, none⟩ = _ := fun o => (HY10.out.alloc o).cell 3 _ rfl
  have m4 : ∀ o, (w10.alloc o).cell? ⟨bc, 4, none⟩ = _ := fun o => (HY10.out.alloc o).cell 4 _ rfl
  have m5 : ∀ o, (w10.alloc o).cell? ⟨bc, 5, none⟩ = _ := fun o => (HY10.out.alloc o).cell 5 _ rfl
  go_wp2_with fail
  clear m0 m1 m2 m3 m4 m5
  obtain ⟨hx, hs, hb⟩ := Blk.box w10 28 [.int .i64 a0, .int .i64 a1, .int .i64 a2, .int .i64 a3, .int .i64 a4, .int .i64 a5]
  rw [show (List.toArray [Value.int .i64 a0, .int .i64 a1, .int .i64 a2, .int .i64 a3, .int .i64 a4, .int .i64 a5]) = #[.int .i64 a0, .int .i64 a1, .int .i64 a2, .int .i64 a3, .int .i64 a4, .int .i64 a5] from rfl] at hx hs hb
  generalize w10.alloc (Obj.cells #[.int .i64 a0, .int .i64 a1, .int .i64 a2, .int .i64 a3, .int .i64 a4, .int .i64 a5] 28) = w11 at *
  have H11 := Lib.hid (H10.out.below hb)
  clear hx hs hb H10 HY10
  obtain ⟨rn, hrn⟩ : ∃ r, renewV l ns need v = r := ⟨_, rfl⟩
  obtain ⟨m, er⟩ := rn
  have hml := renew_len l ns need v
  rw [hrn] at hml
  have HN := Lib.hid hrn
  have HML := Lib.hid (show m.length ≤ 2000 by have : m.length ≤ l.length + 1 := hml; omega)
  clear hrn hml
  refine (keys_Renew.calls A0 c0 l A1 c1 ns need A3 c3 v m er w11 H11.out.r0 HC.out.1 H11.out.r1 HC.out.2.1 H11.out.r3 HC.out.2.2 H11.out.t (congrArg some HN.out)).mono ?_
  rintro e w12 ⟨u, rfl, hR, hd⟩
  have H12 := Lib.hid (H11.out.below hd)
  obtain ⟨A7, n7, rfl, p7, q7⟩ := Kd.R_reads hR
  have HV := Lib.hid (And.intro p7 q7)
  clear hR hd H11 p7 q7
  go_wp2_with fail
  have hc := renR_calls A0 c0 l A1 c1 ns need A3 c3 v w12 H12.out.r0 HC.out.1 H12.out.r1 HC.out.2.1 H12.out.r3 HC.out.2.2
  rw [rRenew_eq, HN.out] at hc
  refine hc.mono ?_
  rintro e w13 ⟨u, rfl, hR, hd⟩
  have H13 := Lib.hid (H12.out.below hd)
  obtain ⟨A8, n8, rfl, p8, q8⟩ := Kd.R_reads hR
  have HV2 := Lib.hid (And.intro HV.out.1 (And.intro (Kd.C_below HV.out.2 hd) (And.intro p8 q8)))
  clear hc hR hd H12 HV p8 q8
  go_wp2_with fail
  refine (cohousingref20_Same.calls 2100 A7 n7 m A8 n8 m true w13 HV2.out.2.1 HV2.out.1 HV2.out.2.2.2 HV2.out.2.2.1 (same_self m HML.out)).mono ?_
  rintro e w14 ⟨rfl, hd⟩
  have H14 := Lib.hid (H13.out.b.trans (Below.mono hd.below H13.out.b.size))
  clear hd H13 HV2
  go_wp2_with fail
  go_ret
  exact ⟨by first | rfl | simp, H14.out⟩
end Go.Proofs.YtcnkenknbmmglaaDoor.P
