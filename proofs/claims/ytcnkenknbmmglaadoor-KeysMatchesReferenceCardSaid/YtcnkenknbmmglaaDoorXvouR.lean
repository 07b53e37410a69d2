/- The reference's Vouch, walked. Its leaves were written by wip/mkvour.py. -/
import Derived.Test.YtcnkenknbmmglaaDoorPkR
set_option linter.unusedSimpArgs false
set_option linter.unusedVariables false
namespace Go.Proofs.YtcnkenknbmmglaaDoor.P
open Go Go.RowKit Go.Proofs.YtcnkenknbmmglaaDoorW.PrintWords Go.Proofs.YtcnkenknbmmglaaDoorW.PrintLast Go.Proofs.YtcnkenknbmmglaaDoorW.PrintMore Go.Proofs.YtcnkenknbmmglaaDoor.Ord

set_option maxHeartbeats 8000000 in
set_option maxRecDepth 100000 in
theorem vouR_calls (h p on b key once : Int) (w : World) (r0 : okInt h = true) (r1 : okInt p = true) (r2 : okInt on = true) (R : Int × Int × Int × Int × Int × Int × Int) (hR : vouchV h p on b key once = R) :
    Calls Tryd.prog 15 #[.int .i64 h, .int .i64 p, .int .i64 on, .int .i64 b, .int .i64 key, .int .i64 once] w fun e w' => e = .returned (.tuple #[.agg #[.int .i64 R.1, .int .i64 R.2.1, .int .i64 R.2.2.1, .int .i64 R.2.2.2.1, .int .i64 R.2.2.2.2.1, .int .i64 R.2.2.2.2.2.1], .int .i64 R.2.2.2.2.2.2]) ∧ Below w.heap.size w w' := by
  have HM := Lib.hid (show Msg [h, p, on] from ⟨by simp, by
    intro z hz
    simp only [List.mem_cons, List.not_mem_nil, or_false] at hz
    rcases hz with rfl | rfl | rfl <;> assumption⟩)
  obtain ⟨a0, a1, a2, a3, a4, a5, a6⟩ := R
  have HR := Lib.hid hR
  clear r0 r1 r2 hR
  go_enter Tryd.func15, Tryd.ntmps15
  go_wp2_with fail
  obtain ⟨hx, -, hb⟩ := Blk.box w 28 [.int .i64 0, .int .i64 0, .int .i64 0, .int .i64 0, .int .i64 0, .int .i64 0]
  rw [show (List.toArray [Value.int .i64 0, .int .i64 0, .int .i64 0, .int .i64 0, .int .i64 0, .int .i64 0]) = #[.int .i64 0, .int .i64 0, .int .i64 0, .int .i64 0, .int .i64 0, .int .i64 0] from rfl] at hx hb
  generalize w.alloc (Obj.cells #[.int .i64 0, .int .i64 0, .int .i64 0, .int .i64 0, .int .i64 0, .int .i64 0] 28) = w1 at *
  have HX1 := Lib.hid (And.intro hb hx)
  clear hx hb
  refine (cohousingref20_home.calls h (homeV h) w1 (rHome_f h)).mono ?_
  rintro e w2 ⟨rfl, hd⟩
  have HX2 := Lib.hid (And.intro (HX1.out.1.trans (Below.mono (by first | exact hd | exact hd.below) HX1.out.1.size)) (HX1.out.2.below (by first | exact hd | exact hd.below) HX1.out.2.lt))
  clear hd HX1
  go_wp2_with fail
  refine (cohousingref20_home.calls b (homeV b) w2 (rHome_f b)).mono ?_
  rintro e w3 ⟨rfl, hd⟩
  have HX3 := Lib.hid (And.intro (HX2.out.1.trans (Below.mono (by first | exact hd | exact hd.below) HX2.out.1.size)) (HX2.out.2.below (by first | exact hd | exact hd.below) HX2.out.2.lt))
  clear hd HX2
  go_wp2_with fail
  refine (cohousingref20_Public.calls 40 p (keyV p) w3 (rPublic_f p 40 (Nat.le_refl _))).mono ?_
  rintro e w4 ⟨rfl, hd⟩
  have HX4 := Lib.hid (And.intro (HX3.out.1.trans (Below.mono (by first | exact hd | exact hd.below) HX3.out.1.size)) (HX3.out.2.below (by first | exact hd | exact hd.below) HX3.out.2.lt))
  clear hd HX3
  go_wp2_with fail
  refine (cohousingref20_day.calls on (dayV on) w4 (rDay_f on)).mono ?_
  rintro e w5 ⟨rfl, hd⟩
  have HX5 := Lib.hid (And.intro (HX4.out.1.trans (Below.mono (by first | exact hd | exact hd.below) HX4.out.1.size)) (HX4.out.2.below (by first | exact hd | exact hd.below) HX4.out.2.lt))
  clear hd HX4
  go_wp2_with fail
  obtain ⟨sg, hsg⟩ : ∃ s, signV key once [h, p, on] = s := ⟨_, rfl⟩
  obtain ⟨s0, s1, e2⟩ := sg
  obtain ⟨hy, -, hby⟩ := Blk.box w5 3 [.int .i64 h, .int .i64 p, .int .i64 on]
  rw [show (List.toArray [Value.int .i64 h, .int .i64 p, .int .i64 on]) = #[.int .i64 h, .int .i64 p, .int .i64 on] from rfl] at hy hby
  generalize w5.alloc (Obj.cells #[.int .i64 h, .int .i64 p, .int .i64 on] 3) = w6 at *
  have HX6 := Lib.hid (And.intro (HX5.out.1.trans (Below.mono hby HX5.out.1.size)) (HX5.out.2.below hby HX5.out.2.lt))
  clear HX5 hby
  have HSG := Lib.hid hsg
  clear hsg
  refine (cohousingref08_Sign.calls 30000 key once (some ⟨w5.heap.size, 0, none⟩) 3 [h, p, on] s0 s1 e2 w6 (C_blk3 hy) (Nat.le_refl _) (by rw [refSign_f key once _ HM.out 30000 (Nat.le_refl _), HSG.out])).mono ?_
  rintro e w7 ⟨rfl, hd⟩
  have HX7 := Lib.hid (And.intro (HX6.out.1.trans (Below.mono hd HX6.out.1.size)) (HX6.out.2.below hd HX6.out.2.lt))
  clear hd HX6 hy
  have c0 : ∀ o, (w7.alloc o).cell? ⟨w.heap.size, 0, none⟩ = _ := fun o => (HX7.out.2.alloc o).cell 0 _ rfl
  have c1 : ∀ o, (w7.alloc o).cell? ⟨w.heap.size, 1, none⟩ = _ := fun o => (HX7.out.2.alloc o).cell 1 _ rfl
  have c2 : ∀ o, (w7.alloc o).cell? ⟨w.heap.size, 2, none⟩ = _ := fun o => (HX7.out.2.alloc o).cell 2 _ rfl
  have c3 : ∀ o, (w7.alloc o).cell? ⟨w.heap.size, 3, none⟩ = _ := fun o => (HX7.out.2.alloc o).cell 3 _ rfl
  have c4 : ∀ o, (w7.alloc o).cell? ⟨w.heap.size, 4, none⟩ = _ := fun o => (HX7.out.2.alloc o).cell 4 _ rfl
  have c5 : ∀ o, (w7.alloc o).cell? ⟨w.heap.size, 5, none⟩ = _ := fun o => (HX7.out.2.alloc o).cell 5 _ rfl
  have f0 : ∀ o, (w7.alloc o).frozen? ⟨w.heap.size, 0, none⟩ = false := fun o => (HX7.out.2.alloc o).frozen 0
  have f1 : ∀ o, (w7.alloc o).frozen? ⟨w.heap.size, 1, none⟩ = false := fun o => (HX7.out.2.alloc o).frozen 1
  have f2 : ∀ o, (w7.alloc o).frozen? ⟨w.heap.size, 2, none⟩ = false := fun o => (HX7.out.2.alloc o).frozen 2
  have f3 : ∀ o, (w7.alloc o).frozen? ⟨w.heap.size, 3, none⟩ = false := fun o => (HX7.out.2.alloc o).frozen 3
  have f4 : ∀ o, (w7.alloc o).frozen? ⟨w.heap.size, 4, none⟩ = false := fun o => (HX7.out.2.alloc o).frozen 4
  have f5 : ∀ o, (w7.alloc o).frozen? ⟨w.heap.size, 5, none⟩ = false := fun o => (HX7.out.2.alloc o).frozen 5
  cases h0 : homeV h with
  | false =>
    have hv := HR.out
    unfold vouchV vouchB at hv
    rw [h0, Bool.false_and, if_neg (by decide)] at hv
    cases hv
    go_wp2_with fail
    refine bodyPost_ret (results_ct rfl _ _ w.heap.size 28 #[.int .i64 0, .int .i64 0, .int .i64 0, .int .i64 0, .int .i64 0, .int .i64 0] (0, 0) _ rfl ?blk Tryd.underlying28 rfl (by kernel_rfl)) rfl ?_
    case blk => exact (((((((HX7.out.2.alloc _).set 0 _).set 1 _).set 2 _).set 3 _).set 4 _).set 5 _)
    refine ⟨rfl, ?_⟩
    have hq := HX7.out.1.alloc HX7.out.1.size (Obj.cells #[.int .i64 s0, .int .i64 s1] 26)
    exact (((((hq.setCell (Nat.le_refl _) _).setCell (Nat.le_refl _) _).setCell (Nat.le_refl _) _).setCell (Nat.le_refl _) _).setCell (Nat.le_refl _) _).setCell (Nat.le_refl _) _
  | true =>
  cases h1 : homeV b with
  | false =>
    have hv := HR.out
    unfold vouchV vouchB at hv
    rw [h0, h1, Bool.false_and, Bool.and_false, if_neg (by decide)] at hv
    cases hv
    go_wp2_with fail
    refine bodyPost_ret (results_ct rfl _ _ w.heap.size 28 #[.int .i64 0, .int .i64 0, .int .i64 0, .int .i64 0, .int .i64 0, .int .i64 0] (0, 0) _ rfl ?blk Tryd.underlying28 rfl (by kernel_rfl)) rfl ?_
    case blk => exact (((((((HX7.out.2.alloc _).set 0 _).set 1 _).set 2 _).set 3 _).set 4 _).set 5 _)
    refine ⟨rfl, ?_⟩
    have hq := HX7.out.1.alloc HX7.out.1.size (Obj.cells #[.int .i64 s0, .int .i64 s1] 26)
    exact (((((hq.setCell (Nat.le_refl _) _).setCell (Nat.le_refl _) _).setCell (Nat.le_refl _) _).setCell (Nat.le_refl _) _).setCell (Nat.le_refl _) _).setCell (Nat.le_refl _) _
  | true =>
  cases hne : (h == b) with
  | true =>
    have hv := HR.out
    unfold vouchV vouchB at hv
    rw [h0, h1, hne, Bool.not_true, Bool.false_and, Bool.and_false, Bool.and_false, if_neg (by decide)] at hv
    cases hv
    go_wp2_with fail
    refine bodyPost_ret (results_ct rfl _ _ w.heap.size 28 #[.int .i64 0, .int .i64 0, .int .i64 0, .int .i64 0, .int .i64 0, .int .i64 0] (0, 0) _ rfl ?blk Tryd.underlying28 rfl (by kernel_rfl)) rfl ?_
    case blk => exact (((((((HX7.out.2.alloc _).set 0 _).set 1 _).set 2 _).set 3 _).set 4 _).set 5 _)
    refine ⟨rfl, ?_⟩
    have hq := HX7.out.1.alloc HX7.out.1.size (Obj.cells #[.int .i64 s0, .int .i64 s1] 26)
    exact (((((hq.setCell (Nat.le_refl _) _).setCell (Nat.le_refl _) _).setCell (Nat.le_refl _) _).setCell (Nat.le_refl _) _).setCell (Nat.le_refl _) _).setCell (Nat.le_refl _) _
  | false =>
  cases h3 : keyV p with
  | false =>
    have hv := HR.out
    unfold vouchV vouchB at hv
    rw [h0, h1, hne, h3, if_neg (by simp)] at hv
    cases hv
    go_wp2_with fail
    refine bodyPost_ret (results_ct rfl _ _ w.heap.size 28 #[.int .i64 0, .int .i64 0, .int .i64 0, .int .i64 0, .int .i64 0, .int .i64 0] (0, 0) _ rfl ?blk Tryd.underlying28 rfl (by kernel_rfl)) rfl ?_
    case blk => exact (((((((HX7.out.2.alloc _).set 0 _).set 1 _).set 2 _).set 3 _).set 4 _).set 5 _)
    refine ⟨rfl, ?_⟩
    have hq := HX7.out.1.alloc HX7.out.1.size (Obj.cells #[.int .i64 s0, .int .i64 s1] 26)
    exact (((((hq.setCell (Nat.le_refl _) _).setCell (Nat.le_refl _) _).setCell (Nat.le_refl _) _).setCell (Nat.le_refl _) _).setCell (Nat.le_refl _) _).setCell (Nat.le_refl _) _
  | true =>
  cases h4 : dayV on with
  | false =>
    have hv := HR.out
    unfold vouchV vouchB at hv
    rw [h0, h1, hne, h3, h4, if_neg (by simp)] at hv
    cases hv
    go_wp2_with fail
    refine bodyPost_ret (results_ct rfl _ _ w.heap.size 28 #[.int .i64 0, .int .i64 0, .int .i64 0, .int .i64 0, .int .i64 0, .int .i64 0] (0, 0) _ rfl ?blk Tryd.underlying28 rfl (by kernel_rfl)) rfl ?_
    case blk => exact (((((((HX7.out.2.alloc _).set 0 _).set 1 _).set 2 _).set 3 _).set 4 _).set 5 _)
    refine ⟨rfl, ?_⟩
    have hq := HX7.out.1.alloc HX7.out.1.size (Obj.cells #[.int .i64 s0, .int .i64 s1] 26)
    exact (((((hq.setCell (Nat.le_refl _) _).setCell (Nat.le_refl _) _).setCell (Nat.le_refl _) _).setCell (Nat.le_refl _) _).setCell (Nat.le_refl _) _).setCell (Nat.le_refl _) _
  | true =>
  cases h5 : (secB key && secB once) with
  | false =>
    have he : (s0, s1, e2) = (0, 0, 1) := by rw [← HSG.out]; unfold signV; rw [if_neg (by rw [h5]; decide)]
    cases he
    have hv := HR.out
    unfold vouchV vouchB at hv
    rw [h0, h1, hne, h3, h4, h5, if_neg (by decide)] at hv
    cases hv
    go_wp2_with fail
    refine bodyPost_ret (results_ct rfl _ _ w.heap.size 28 #[.int .i64 0, .int .i64 0, .int .i64 0, .int .i64 0, .int .i64 0, .int .i64 0] (0, 0) _ rfl ?blk Tryd.underlying28 rfl (by kernel_rfl)) rfl ?_
    case blk => exact (((((((HX7.out.2.alloc _).set 0 _).set 1 _).set 2 _).set 3 _).set 4 _).set 5 _)
    refine ⟨rfl, ?_⟩
    have hq := HX7.out.1.alloc HX7.out.1.size (Obj.cells #[.int .i64 0, .int .i64 0] 26)
    exact (((((hq.setCell (Nat.le_refl _) _).setCell (Nat.le_refl _) _).setCell (Nat.le_refl _) _).setCell (Nat.le_refl _) _).setCell (Nat.le_refl _) _).setCell (Nat.le_refl _) _
  | true =>
    have he : e2 = 0 := by have h := HSG.out; unfold signV at h; rw [if_pos h5] at h; cases h; rfl
    subst he
    have hv := HR.out
    unfold vouchV vouchB at hv
    rw [h0, h1, hne, h3, h4, h5, if_pos (by decide), HSG.out] at hv
    cases hv
    go_wp2_with fail
    refine bodyPost_ret (results_ct rfl _ _ w.heap.size 28 #[.int .i64 h, .int .i64 p, .int .i64 on, .int .i64 b, .int .i64 s0, .int .i64 s1] (0, 0) _ rfl ?blk Tryd.underlying28 rfl (by kernel_rfl)) rfl ?_
    case blk => exact (((((((HX7.out.2.alloc _).set 0 _).set 1 _).set 2 _).set 3 _).set 4 _).set 5 _)
    refine ⟨rfl, ?_⟩
    have hq := HX7.out.1.alloc HX7.out.1.size (Obj.cells #[.int .i64 s0, .int .i64 s1] 26)
    exact (((((hq.setCell (Nat.le_refl _) _).setCell (Nat.le_refl _) _).setCell (Nat.le_refl _) _).setCell (Nat.le_refl _) _).setCell (Nat.le_refl _) _).setCell (Nat.le_refl _) _
end Go.Proofs.YtcnkenknbmmglaaDoor.P
