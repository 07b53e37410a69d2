-- Written by a program of this session out of the translation (wip/pp: the kit's print, turned). Not trusted: Lean checks it.
import Derived.Test.YtjdhnhfglpogmaaPx0
import Derived.Test.YtjdhnhfglpogmaaPx1
import Derived.Test.YtjdhnhfglpogmaaPx2
namespace Go.Proofs.Ytjdhnhfglpogmaa.P
open Go.RowKit Go.Proofs.YtjdhnhfglpogmaaW.PrintWords Go.Proofs.YtjdhnhfglpogmaaW.PrintLast Go.Proofs.YtjdhnhfglpogmaaW.PrintMore
attribute [local go_sem] max2_int min2_int max_two min_two max_three min_three max_four min_four   -- for this text's walks alone
set_option linter.unusedVariables false
set_option linter.unusedSimpArgs false

/-! ### cohousingref36_run: function 34 -/
mutual
def cohousingref36_run.l0 : Nat → List (S44) → List Bool → List Bool → Int → Int → Option (List Bool)
 | 0, _, _, _, _, _ => none
 | k + 1, x0, x1, x5, x6, x7 => if x7 < (x0.length : Int) then (if 0 ≤ x7 then (if (((rd_T44 x0 x7).f1).length : Int) = 0 then (if 0 ≤ x6 then (if x6 < (x1.length : Int) then (if x5.length < 140737488355328 then (cohousingref36_run.l0 k x0 x1 (x5 ++ [rdOf false x1 x6]) (wrap64 (x6 + 1)) (wrap64 (x7 + 1))) else (none)) else (none)) else (none)) else (cohousingref36_run.l1 k x0 x1 x5 x6 x7 0 0)) else (none)) else (some x5)
def cohousingref36_run.l1 : Nat → List (S44) → List Bool → List Bool → Int → Int → Int → Int → Option (List Bool)
 | 0, _, _, _, _, _, _, _ => none
 | k + 1, x0, x1, x5, x6, x7, x8, x9 => if 0 ≤ x7 then (if x7 < (x0.length : Int) then (if x9 < (((rd_T44 x0 x7).f1).length : Int) then (if 0 ≤ x9 then (if 0 ≤ (rd ((rd_T44 x0 x7).f1) x9) then (if (rd ((rd_T44 x0 x7).f1) x9) < (x5.length : Int) then (if rdOf false x5 (rd ((rd_T44 x0 x7).f1) x9) = true then (cohousingref36_run.l1 k x0 x1 x5 x6 x7 (wrap64 (x8 + (shl .i64 1 x9))) (wrap64 (x9 + 1))) else (cohousingref36_run.l1 k x0 x1 x5 x6 x7 x8 (wrap64 (x9 + 1)))) else (none)) else (none)) else (none)) else (if 0 ≤ x8 then (if x8 < (((rd_T44 x0 x7).f2).length : Int) then (if x5.length < 140737488355328 then (cohousingref36_run.l0 k x0 x1 (x5 ++ [rdOf false ((rd_T44 x0 x7).f2) x8]) x6 (wrap64 (x7 + 1))) else (none)) else (none)) else (none))) else (none)) else (none)
end
def cohousingref36_run.f (k : Nat) (l0 : List (S44)) (l1 : List Bool) : Option (List Bool) := cohousingref36_run.l0 k l0 l1 ([] : List Bool) 0 0
theorem cohousingref36_run.mono_l : ∀ k, (∀ y0 y1 y2 y3 y4, LeO (cohousingref36_run.l0 k y0 y1 y2 y3 y4) (cohousingref36_run.l0 (k + 1) y0 y1 y2 y3 y4)) ∧ (∀ y0 y1 y2 y3 y4 y5 y6, LeO (cohousingref36_run.l1 k y0 y1 y2 y3 y4 y5 y6) (cohousingref36_run.l1 (k + 1) y0 y1 y2 y3 y4 y5 y6))
 | 0 => ⟨fun _ _ _ _ _ r h => by simp [cohousingref36_run.l0] at h, fun _ _ _ _ _ _ _ r h => by simp [cohousingref36_run.l1] at h⟩
 | k + 1 => by
  obtain ⟨ih0, ih1⟩ := cohousingref36_run.mono_l k
  refine ⟨?_, ?_⟩
  ·intro y0 y1 y2 y3 y4
   unfold cohousingref36_run.l0
   repeat' first
   | (with_reducible exact ih0 _ _ _ _ _)
   | (with_reducible exact ih1 _ _ _ _ _ _ _)
   | (with_reducible exact LeO.refl _)
   | (with_reducible exact LeO.none _)
   | (with_reducible refine LeO.ite ?_ ?_)
   | (with_reducible refine LeO.bind ?_ (fun _ => ?_))
   | exact ih0 _ _ _ _ _
   | exact ih1 _ _ _ _ _ _ _
   | exact LeO.none _
   | refine LeO.ite ?_ ?_
   | refine LeO.bind ?_ (fun _ => ?_)
  ·intro y0 y1 y2 y3 y4 y5 y6
   unfold cohousingref36_run.l1
   repeat' first
   | (with_reducible exact ih0 _ _ _ _ _)
   | (with_reducible exact ih1 _ _ _ _ _ _ _)
   | (with_reducible exact LeO.refl _)
   | (with_reducible exact LeO.none _)
   | (with_reducible refine LeO.ite ?_ ?_)
   | (with_reducible refine LeO.bind ?_ (fun _ => ?_))
   | exact ih0 _ _ _ _ _
   | exact ih1 _ _ _ _ _ _ _
   | exact LeO.none _
   | refine LeO.ite ?_ ?_
   | refine LeO.bind ?_ (fun _ => ?_)
theorem cohousingref36_run.mono : ∀ a0 a1 k, LeO (cohousingref36_run.f k a0 a1) (cohousingref36_run.f (k + 1) a0 a1) := by
 intro a0 a1 k
 obtain ⟨ih0, ih1⟩ := cohousingref36_run.mono_l k
 unfold cohousingref36_run.f
 repeat' first
   | (with_reducible exact ih0 _ _ _ _ _)
   | (with_reducible exact ih1 _ _ _ _ _ _ _)
   | (with_reducible exact LeO.refl _)
   | (with_reducible exact LeO.none _)
   | (with_reducible refine LeO.ite ?_ ?_)
   | (with_reducible refine LeO.bind ?_ (fun _ => ?_))
   | exact ih0 _ _ _ _ _
   | exact ih1 _ _ _ _ _ _ _
   | exact LeO.none _
   | refine LeO.ite ?_ ?_
   | refine LeO.bind ?_ (fun _ => ?_)
set_option maxHeartbeats 8000000 in
set_option maxRecDepth 100000 in
theorem cohousingref36_run.calls (k : Nat) (A0 : Option Addr) (c0 : Nat) (l0 : List (S44)) (A1 : Option Addr) (c1 : Nat) (l1 : List Bool) (r : List Bool) (w : World) (hr0 : Kd.C k44 w A0 l0.length l0) (hc0 : l0.length ≤ c0) (hr1 : Kd.C Kd.bool w A1 l1.length l1) (hc1 : l1.length ≤ c1) (h : cohousingref36_run.f k l0 l1 = some r) :
  Calls Try.prog 34 #[.slice A0 l0.length c0, .slice A1 l1.length c1] w fun e w' => ∃ v0_ : Value, e = .returned (v0_) ∧ Kd.R Kd.bool 4 w' w.heap.size (fun _ => True) v0_ r ∧ Below w.heap.size w w' := by
 have HR0 := Aside0.mk hr0
 have HC0 := Aside0.mk hc0
 clear hr0 hc0
 have HR1 := Aside0.mk hr1
 have HC1 := Aside0.mk hc1
 clear hr1 hc1
 have HB := Aside0.mk (Below.refl w.heap.size w)
 have H : (cohousingref36_run.l0 k l0 l1 ([] : List Bool) 0 0) = some r := h
 clear h
 have H' := Aside0.mk H
 clear H
 go_enter Try.func34, Try.ntmps34
 go_wp2
 go_loopg [5, 6, 7] k (fun kq v5 v6 v7 w' => ∃ (x5_1 : List Bool) (x6_1 : Int) (x7_1 : Int), v6 = .int .i64 x6_1 ∧ v7 = .int .i64 x7_1 ∧ Aside0 (cohousingref36_run.l0 kq l0 l1 x5_1 x6_1 x7_1 = some r) ∧ Aside0 (kq ≤ k) ∧ Aside0 (Kd.R Kd.bool 4 w' w.heap.size (fun _ => True) v5 x5_1) ∧ Aside0 (Below w.heap.size w w'))
 case atStart => exact ⟨(([] : List Bool)), (0), (0), (by first | rfl | (simp; done) | (simp [*]; done)), (by first | rfl | (simp; done) | (simp [*]; done)), H', ⟨Nat.le_refl _⟩, ⟨by first | exact Kd.R_nil _ _ _ _ _ | exact Kd.N_nil _ _ _ _ _ | exact Kd.V_nil _ _ _ _ _ | exact Kd.Q_nil _ _ _ _ _ | exact Kd.S_nil _ _ _ _ _⟩, ⟨by repeat (first | (with_reducible first | exact HB.out | apply below_alloc | apply pw_below_drewN | apply below_drew1) | exact HB.out)⟩⟩
 case round =>
  clear H'
  try clear c1
  try clear p2
  obtain ⟨x5_1, x6_1, x7_1, rfl, rfl, HA, HK1, HO_5, HB⟩ := hrel
  cases gk with
  | zero => exact absurd HA.out (by simp [cohousingref36_run.l0])
  | succ k1 =>
   have H := HA.out
   clear HA
   simp only [cohousingref36_run.l0] at H
   by_cases c3 : x7_1 < (l0.length : Int)
   ·rw [if_pos c3] at H
    have c3b0 : decide (x7_1 < (l0.length : Int)) = true := decide_eq_true c3
    clear c3
    by_cases c4 : 0 ≤ x7_1
    ·rw [if_pos c4] at H
     have c4b0 : decide (0 ≤ x7_1) = true := decide_eq_true c4
     clear c4
     by_cases c5 : (((rd_T44 l0 x7_1).f1).length : Int) = 0
     ·rw [if_pos c5] at H
      have c5b0 : ((((rd_T44 l0 x7_1).f1).length : Int) == 0) = true := beq_iff_eq.mpr c5
      have c5b1 : ((((rd_T44 l0 x7_1).f1).length : Int) != 0) = false := bne_eq_false_iff_eq.mpr c5
      clear c5
      by_cases c6 : 0 ≤ x6_1
      ·rw [if_pos c6] at H
       have c6b0 : decide (0 ≤ x6_1) = true := decide_eq_true c6
       clear c6
       by_cases c7 : x6_1 < (l1.length : Int)
       ·rw [if_pos c7] at H
        have c7b0 : decide (x6_1 < (l1.length : Int)) = true := decide_eq_true c7
        clear c7
        by_cases c8 : x5_1.length < 140737488355328
        ·rw [if_pos c8] at H
         have LMc8 := Aside0.mk c8
         clear c8
         obtain ⟨y128, hy128⟩ : ∃ y_ : List Bool, y_ = (x5_1 ++ [rdOf false l1 x6_1]) := ⟨_, rfl⟩
         replace H : (cohousingref36_run.l0 k1 l0 l1 y128 (wrap64 (x6_1 + 1)) (wrap64 (x7_1 + 1))) = some r := by first | (rw [hy128]; with_reducible exact H) | (have H2_ := (Option.bind_some _ _).symm.trans H; rw [hy128]; with_reducible exact H2_) | (have H2_ := (Option.bind_some _ _).symm.trans H; with_reducible exact H2_) | with_reducible exact H | (rw [hy128]; exact H) | exact H
         have Ny128 := Aside0.mk hy128
         clear hy128
         have H' := Aside0.mk H
         clear H
         have p126 : 0 ≤ (x7_1 : Int) := of_decide_eq_true (by first | (with_reducible assumption) | assumption)
         have q126 : x7_1 < (l0.length : Int) := of_decide_eq_true (by first | (with_reducible assumption) | assumption)
         obtain ⟨ad126, A126_1, c126_1, A126_2, c126_2, e126, hx126_0, hx126_1, hx126_2, hl126_1, hi126_1, hl126_2, hi126_2⟩ := at_T44 HR0.out x7_1 p126 q126
         cases e126
         replace hx126_0 := (HB.out.cell (World.block_lt_of_cell? w _ hx126_0)).trans hx126_0
         replace hx126_1 := (HB.out.cell (World.block_lt_of_cell? w _ hx126_1)).trans hx126_1
         replace hx126_2 := (HB.out.cell (World.block_lt_of_cell? w _ hx126_2)).trans hx126_2
         have HR126_1 := Aside0.mk hi126_1
         have HC126_1 := Aside0.mk hl126_1
         clear hi126_1 hl126_1
         have HR126_2 := Aside0.mk hi126_2
         have HC126_2 := Aside0.mk hl126_2
         clear hi126_2 hl126_2
         replace p126 := eq_true p126
         replace q126 := eq_true q126
         have p127 : 0 ≤ (x6_1 : Int) := of_decide_eq_true (by first | (with_reducible assumption) | assumption)
         have q127 : x6_1 < (l1.length : Int) := of_decide_eq_true (by first | (with_reducible assumption) | assumption)
         obtain ⟨ad127, e127, hx127_0⟩ := Kd.at_bool HR1.out x6_1 p127 q127
         cases e127
         replace hx127_0 := (HB.out.cell (World.block_lt_of_cell? w _ hx127_0)).trans hx127_0
         replace p127 := eq_true p127
         replace q127 := eq_true q127
         go_wp2_with (first | ((with_reducible refine gate_builtin (b := .append) (xs := #[.tmp 23, .tmp 28]) rfl ?_); at_builtin; refine Kd.R_append Kd.bool (w0 := w) w.heap.size rfl (.tmp 23) (.tmp 28) 23 4 (.bool false) 1 rfl Try.underlying23 info4 rfl (by decide) (by omega) u5 x5_1 (rdOf false l1 x6_1) [.bool (rdOf false l1 x6_1)] (fun _ => True) (fun _ => False) rfl rfl ?aP (fun _ hk => hk.elim) ?aF ?aO ?aB ?aS ?aL ?_; (case aP => exact rfl); (case aB => exact (by repeat (first | (with_reducible first | exact HB.out | apply below_alloc | apply pw_below_drewN | apply below_drew1) | exact HB.out))); (case aF => exact (fun _ _ => trivial)); (case aO => exact (by (with_reducible repeat (first | apply Kd.R_alloc | apply Kd.R_drewN | apply Kd.R_drew)); exact HO_5.out)); (case aS => exact (below_size (by repeat (first | (with_reducible first | exact HB.out | apply below_alloc | apply pw_below_drewN | apply below_drew1) | exact HB.out)))); (case aL => have := LMc8.out; omega); intro v129 w9 ho hb hg hat; rw [← Ny128.out] at ho; have n0_ := Aside0.mk (hb); have n1_ := Aside0.mk (ho); clear HB; clear HO_5; have HB := n0_; have HO130 := n1_; clear n0_ n1_; clear ho hb hg hat))
         go_roundg k1
         case measure => have := HK1.out; omega
         case rel => exact ⟨(y128), (wrap64 (x6_1 + 1)), (wrap64 (x7_1 + 1)), (by first | rfl | (simp; done) | (simp [*]; done)), (by first | rfl | (simp; done) | (simp [*]; done)), H', ⟨by have := HK1.out; omega⟩, ⟨by (with_reducible repeat (first | apply Kd.R_alloc | apply Kd.R_drewN | apply Kd.R_drew)); exact HO130.out⟩, ⟨by repeat (first | (with_reducible first | exact HB.out | apply below_alloc | apply pw_below_drewN | apply below_drew1) | exact HB.out)⟩⟩
        ·rw [if_neg c8] at H
         exact absurd H (by simp)
       ·rw [if_neg c7] at H
        exact absurd H (by simp)
      ·rw [if_neg c6] at H
       exact absurd H (by simp)
     ·rw [if_neg c5] at H
      have c5b0 : ((((rd_T44 l0 x7_1).f1).length : Int) == 0) = false := beq_eq_false_iff_ne.mpr c5
      have c5b1 : ((((rd_T44 l0 x7_1).f1).length : Int) != 0) = true := bne_iff_ne.mpr c5
      have c5b2 : ¬ (((rd_T44 l0 x7_1).f1) = []) := fun h_ => c5 (by rw [h_]; rfl)
      have H' := Aside0.mk H
      clear H
      have p126 : 0 ≤ (x7_1 : Int) := of_decide_eq_true (by first | (with_reducible assumption) | assumption)
      have q126 : x7_1 < (l0.length : Int) := of_decide_eq_true (by first | (with_reducible assumption) | assumption)
      obtain ⟨ad126, A126_1, c126_1, A126_2, c126_2, e126, hx126_0, hx126_1, hx126_2, hl126_1, hi126_1, hl126_2, hi126_2⟩ := at_T44 HR0.out x7_1 p126 q126
      cases e126
      replace hx126_0 := (HB.out.cell (World.block_lt_of_cell? w _ hx126_0)).trans hx126_0
      replace hx126_1 := (HB.out.cell (World.block_lt_of_cell? w _ hx126_1)).trans hx126_1
      replace hx126_2 := (HB.out.cell (World.block_lt_of_cell? w _ hx126_2)).trans hx126_2
      have HR126_1 := Aside0.mk hi126_1
      have HC126_1 := Aside0.mk hl126_1
      clear hi126_1 hl126_1
      have HR126_2 := Aside0.mk hi126_2
      have HC126_2 := Aside0.mk hl126_2
      clear hi126_2 hl126_2
      replace p126 := eq_true p126
      replace q126 := eq_true q126
      go_wp2
      go_loopg [8, 9] k1 (fun kq v8 v9 w' => ∃ (x8_2 : Int) (x9_2 : Int), v8 = .int .i64 x8_2 ∧ v9 = .int .i64 x9_2 ∧ Aside0 (cohousingref36_run.l1 kq l0 l1 x5_1 x6_1 x7_1 x8_2 x9_2 = some r) ∧ Aside0 (kq ≤ k1) ∧ Aside0 (Kd.R Kd.bool 4 w' w.heap.size (fun _ => True) u5 x5_1) ∧ Aside0 (Below w.heap.size w w'))
      case atStart => exact ⟨(0), (0), (by first | rfl | (simp; done) | (simp [*]; done)), (by first | rfl | (simp; done) | (simp [*]; done)), H', ⟨Nat.le_refl _⟩, ⟨by (with_reducible repeat (first | apply Kd.R_alloc | apply Kd.R_drewN | apply Kd.R_drew)); exact HO_5.out⟩, ⟨by repeat (first | (with_reducible first | exact HB.out | apply below_alloc | apply pw_below_drewN | apply below_drew1) | exact HB.out)⟩⟩
      case round =>
       clear H'
       try clear c1
       try clear p1
       try clear q1
       try clear hx1
       try clear p2
       try clear c3
       try clear c3b0
       try clear c4
       try clear c4b0
       try clear c5
       try clear c5b0
       try clear c5b1
       try clear c5b2
       try clear c6
       try clear c6b0
       try clear p6
       try clear c7
       try clear c7b0
       try clear c8
       try clear hx126_0
       try clear hx126_1
       try clear hx126_2
       try clear hx127_0
       try clear p126
       try clear p127
       try clear p2
       try clear q126
       try clear q127
       obtain ⟨x8_2, x9_2, rfl, rfl, HA, HK2, HO_5, HB⟩ := hrel
       cases gk with
       | zero => exact absurd HA.out (by simp [cohousingref36_run.l1])
       | succ k2 =>
        have H := HA.out
        clear HA
        simp only [cohousingref36_run.l1] at H
        by_cases c10 : 0 ≤ x7_1
        ·rw [if_pos c10] at H
         have c10b0 : decide (0 ≤ x7_1) = true := decide_eq_true c10
         clear c10
         by_cases c11 : x7_1 < (l0.length : Int)
         ·rw [if_pos c11] at H
          have c11b0 : decide (x7_1 < (l0.length : Int)) = true := decide_eq_true c11
          clear c11
          by_cases c12 : x9_2 < (((rd_T44 l0 x7_1).f1).length : Int)
          ·rw [if_pos c12] at H
           have c12b0 : decide (x9_2 < (((rd_T44 l0 x7_1).f1).length : Int)) = true := decide_eq_true c12
           clear c12
           by_cases c13 : 0 ≤ x9_2
           ·rw [if_pos c13] at H
            have c13b0 : decide (0 ≤ x9_2) = true := decide_eq_true c13
            clear c13
            by_cases c14 : 0 ≤ (rd ((rd_T44 l0 x7_1).f1) x9_2)
            ·rw [if_pos c14] at H
             have c14b0 : decide (0 ≤ (rd ((rd_T44 l0 x7_1).f1) x9_2)) = true := decide_eq_true c14
             clear c14
             by_cases c15 : (rd ((rd_T44 l0 x7_1).f1) x9_2) < (x5_1.length : Int)
             ·rw [if_pos c15] at H
              have c15b0 : decide ((rd ((rd_T44 l0 x7_1).f1) x9_2) < (x5_1.length : Int)) = true := decide_eq_true c15
              clear c15
              obtain ⟨bq16, hbq16⟩ : ∃ b_ : Bool, b_ = (rdOf false x5_1 (rd ((rd_T44 l0 x7_1).f1) x9_2)) := ⟨_, rfl⟩
              replace H : (if bq16 = true then (cohousingref36_run.l1 k2 l0 l1 x5_1 x6_1 x7_1 (wrap64 (x8_2 + (shl .i64 1 x9_2))) (wrap64 (x9_2 + 1))) else (cohousingref36_run.l1 k2 l0 l1 x5_1 x6_1 x7_1 x8_2 (wrap64 (x9_2 + 1)))) = some r := by rw [← hbq16] at H; exact H
              have Nbq16 := Aside0.mk hbq16
              clear hbq16
              by_cases c17 : bq16 = true
              ·subst c17
               have H1 : (cohousingref36_run.l1 k2 l0 l1 x5_1 x6_1 x7_1 (wrap64 (x8_2 + (shl .i64 1 x9_2))) (wrap64 (x9_2 + 1))) = some r := by rw [if_pos rfl] at H; exact H
               clear H
               have H := H1
               clear H1
               have c18b0 := eq_true (of_decide_eq_true (by first | (with_reducible assumption) | assumption) : 0 ≤ x9_2)
               obtain ⟨ji19, hji19⟩ : ∃ j_ : Int, (shl .i64 1 x9_2) = j_ := ⟨_, rfl⟩
               replace H : (cohousingref36_run.l1 k2 l0 l1 x5_1 x6_1 x7_1 (wrap64 (x8_2 + (ji19))) (wrap64 (x9_2 + 1))) = some r := by first | (rw [hji19] at H; exact H) | (simp only [hji19] at H ⊢; exact H)
               have hji19_ : (IntKind.i64.wrap (1 * 2 ^ min x9_2.toNat 64)) = ji19 := hji19
               have hji19z : x9_2 ≤ 64 → (IntKind.i64.wrap (1 * 2 ^ x9_2.toNat)) = ji19 := shl_small hji19
               have hji19u : (IntKind.i64.wrap (2 ^ min x9_2.toNat 64)) = ji19 := by have h_ := hji19_; rw [Int.one_mul] at h_; exact h_
               have hji19v : x9_2 ≤ 64 → (IntKind.i64.wrap (2 ^ x9_2.toNat)) = ji19 := fun hle_ => by have h_ := hji19z hle_; rw [Int.one_mul] at h_; exact h_
               have hji19y : (wrap64 (1 * 2 ^ min x9_2.toNat 64)) = ji19 := (i64_w _).symm.trans hji19_
               have hji19x : x9_2 ≤ 64 → (wrap64 (1 * 2 ^ x9_2.toNat)) = ji19 := fun h_ => (i64_w _).symm.trans (hji19z h_)
               have H' := Aside0.mk H
               clear H
               have p131 : 0 ≤ (x7_1 : Int) := of_decide_eq_true (by first | (with_reducible assumption) | assumption)
               have q131 : x7_1 < (l0.length : Int) := of_decide_eq_true (by first | (with_reducible assumption) | assumption)
               obtain ⟨ad131, A131_1, c131_1, A131_2, c131_2, e131, hx131_0, hx131_1, hx131_2, hl131_1, hi131_1, hl131_2, hi131_2⟩ := at_T44 HR0.out x7_1 p131 q131
               obtain rfl : ad126 = ad131 := (by injection e131)
               replace hx131_0 := (HB.out.cell (World.block_lt_of_cell? w _ hx131_0)).trans hx131_0
               replace hx131_1 := (HB.out.cell (World.block_lt_of_cell? w _ hx131_1)).trans hx131_1
               replace hx131_2 := (HB.out.cell (World.block_lt_of_cell? w _ hx131_2)).trans hx131_2
               have HR131_1 := Aside0.mk hi131_1
               have HC131_1 := Aside0.mk hl131_1
               clear hi131_1 hl131_1
               have HR131_2 := Aside0.mk hi131_2
               have HC131_2 := Aside0.mk hl131_2
               clear hi131_2 hl131_2
               replace p131 := eq_true p131
               replace q131 := eq_true q131
               have p132 : 0 ≤ (x7_1 : Int) := of_decide_eq_true (by first | (with_reducible assumption) | assumption)
               have q132 : x7_1 < (l0.length : Int) := of_decide_eq_true (by first | (with_reducible assumption) | assumption)
               obtain ⟨ad132, A132_1, c132_1, A132_2, c132_2, e132, hx132_0, hx132_1, hx132_2, hl132_1, hi132_1, hl132_2, hi132_2⟩ := at_T44 HR0.out x7_1 p132 q132
               obtain rfl : ad126 = ad132 := (by injection e132)
               replace hx132_0 := (HB.out.cell (World.block_lt_of_cell? w _ hx132_0)).trans hx132_0
               replace hx132_1 := (HB.out.cell (World.block_lt_of_cell? w _ hx132_1)).trans hx132_1
               replace hx132_2 := (HB.out.cell (World.block_lt_of_cell? w _ hx132_2)).trans hx132_2
               have HR132_1 := Aside0.mk hi132_1
               have HC132_1 := Aside0.mk hl132_1
               clear hi132_1 hl132_1
               have HR132_2 := Aside0.mk hi132_2
               have HC132_2 := Aside0.mk hl132_2
               clear hi132_2 hl132_2
               replace p132 := eq_true p132
               replace q132 := eq_true q132
               have ea_ := Option.some.inj (hx131_1.symm.trans hx132_1)
               injection ea_ with ea_ en_ ec_
               subst ea_
               subst ec_
               clear en_
               have ea_ := Option.some.inj (hx131_2.symm.trans hx132_2)
               injection ea_ with ea_ en_ ec_
               subst ea_
               subst ec_
               clear en_
               have p133 : 0 ≤ (x9_2 : Int) := of_decide_eq_true (by first | (with_reducible assumption) | assumption)
               have q133 : x9_2 < (((rd_T44 l0 x7_1).f1).length : Int) := of_decide_eq_true (by first | (with_reducible assumption) | assumption)
               obtain ⟨ad133, e133, hx133_0⟩ := Kd.at_int HR132_1.out x9_2 p133 q133
               cases e133
               replace hx133_0 := (HB.out.cell (World.block_lt_of_cell? w _ hx133_0)).trans hx133_0
               replace p133 := eq_true p133
               replace q133 := eq_true q133
               obtain ⟨Ao20, co20, eo20⟩ := Kd.R_slice HO_5.out
               subst eo20
               have p134 : 0 ≤ ((rd ((rd_T44 l0 x7_1).f1) x9_2) : Int) := of_decide_eq_true (by first | (with_reducible assumption) | assumption)
               have q134 : (rd ((rd_T44 l0 x7_1).f1) x9_2) < (x5_1.length : Int) := of_decide_eq_true (by first | (with_reducible assumption) | assumption)
               obtain ⟨ad134, e134, hx134_0⟩ := Kd.at_bool (Kd.R_reads' HO_5.out).2.2 (rd ((rd_T44 l0 x7_1).f1) x9_2) p134 q134
               (try rw [← Nbq16.out] at hx134_0)
               cases e134
               replace p134 := eq_true p134
               replace q134 := eq_true q134
               go_wp2
               go_roundg k2
               case measure => have := HK1.out; have := HK2.out; omega
               case rel => exact ⟨(wrap64 (x8_2 + (ji19))), (wrap64 (x9_2 + 1)), (by first | rfl | (simp; done) | (simp only [← hji19] <;> (first | rfl | simp)) | (simp [*]; done)), (by first | rfl | (simp; done) | (simp [*]; done)), H', ⟨by have := HK1.out; have := HK2.out; omega⟩, ⟨by (with_reducible repeat (first | apply Kd.R_alloc | apply Kd.R_drewN | apply Kd.R_drew)); exact HO_5.out⟩, ⟨by repeat (first | (with_reducible first | exact HB.out | apply below_alloc | apply pw_below_drewN | apply below_drew1) | exact HB.out)⟩⟩
              ·replace c17 := Bool.eq_false_iff.mpr c17
               subst c17
               have H1 : (cohousingref36_run.l1 k2 l0 l1 x5_1 x6_1 x7_1 x8_2 (wrap64 (x9_2 + 1))) = some r := by rw [if_neg (show ¬ (false = true) by decide)] at H; exact H
               clear H
               have H := H1
               clear H1
               have H' := Aside0.mk H
               clear H
               have p131 : 0 ≤ (x7_1 : Int) := of_decide_eq_true (by first | (with_reducible assumption) | assumption)
               have q131 : x7_1 < (l0.length : Int) := of_decide_eq_true (by first | (with_reducible assumption) | assumption)
               obtain ⟨ad131, A131_1, c131_1, A131_2, c131_2, e131, hx131_0, hx131_1, hx131_2, hl131_1, hi131_1, hl131_2, hi131_2⟩ := at_T44 HR0.out x7_1 p131 q131
               obtain rfl : ad126 = ad131 := (by injection e131)
               replace hx131_0 := (HB.out.cell (World.block_lt_of_cell? w _ hx131_0)).trans hx131_0
               replace hx131_1 := (HB.out.cell (World.block_lt_of_cell? w _ hx131_1)).trans hx131_1
               replace hx131_2 := (HB.out.cell (World.block_lt_of_cell? w _ hx131_2)).trans hx131_2
               have HR131_1 := Aside0.mk hi131_1
               have HC131_1 := Aside0.mk hl131_1
               clear hi131_1 hl131_1
               have HR131_2 := Aside0.mk hi131_2
               have HC131_2 := Aside0.mk hl131_2
               clear hi131_2 hl131_2
               replace p131 := eq_true p131
               replace q131 := eq_true q131
               have p132 : 0 ≤ (x7_1 : Int) := of_decide_eq_true (by first | (with_reducible assumption) | assumption)
               have q132 : x7_1 < (l0.length : Int) := of_decide_eq_true (by first | (with_reducible assumption) | assumption)
               obtain ⟨ad132, A132_1, c132_1, A132_2, c132_2, e132, hx132_0, hx132_1, hx132_2, hl132_1, hi132_1, hl132_2, hi132_2⟩ := at_T44 HR0.out x7_1 p132 q132
               obtain rfl : ad126 = ad132 := (by injection e132)
               replace hx132_0 := (HB.out.cell (World.block_lt_of_cell? w _ hx132_0)).trans hx132_0
               replace hx132_1 := (HB.out.cell (World.block_lt_of_cell? w _ hx132_1)).trans hx132_1
               replace hx132_2 := (HB.out.cell (World.block_lt_of_cell? w _ hx132_2)).trans hx132_2
               have HR132_1 := Aside0.mk hi132_1
               have HC132_1 := Aside0.mk hl132_1
               clear hi132_1 hl132_1
               have HR132_2 := Aside0.mk hi132_2
               have HC132_2 := Aside0.mk hl132_2
               clear hi132_2 hl132_2
               replace p132 := eq_true p132
               replace q132 := eq_true q132
               have ea_ := Option.some.inj (hx131_1.symm.trans hx132_1)
               injection ea_ with ea_ en_ ec_
               subst ea_
               subst ec_
               clear en_
               have ea_ := Option.some.inj (hx131_2.symm.trans hx132_2)
               injection ea_ with ea_ en_ ec_
               subst ea_
               subst ec_
               clear en_
               have p133 : 0 ≤ (x9_2 : Int) := of_decide_eq_true (by first | (with_reducible assumption) | assumption)
               have q133 : x9_2 < (((rd_T44 l0 x7_1).f1).length : Int) := of_decide_eq_true (by first | (with_reducible assumption) | assumption)
               obtain ⟨ad133, e133, hx133_0⟩ := Kd.at_int HR132_1.out x9_2 p133 q133
               cases e133
               replace hx133_0 := (HB.out.cell (World.block_lt_of_cell? w _ hx133_0)).trans hx133_0
               replace p133 := eq_true p133
               replace q133 := eq_true q133
               obtain ⟨Ao21, co21, eo21⟩ := Kd.R_slice HO_5.out
               subst eo21
               have p134 : 0 ≤ ((rd ((rd_T44 l0 x7_1).f1) x9_2) : Int) := of_decide_eq_true (by first | (with_reducible assumption) | assumption)
               have q134 : (rd ((rd_T44 l0 x7_1).f1) x9_2) < (x5_1.length : Int) := of_decide_eq_true (by first | (with_reducible assumption) | assumption)
               obtain ⟨ad134, e134, hx134_0⟩ := Kd.at_bool (Kd.R_reads' HO_5.out).2.2 (rd ((rd_T44 l0 x7_1).f1) x9_2) p134 q134
               (try rw [← Nbq16.out] at hx134_0)
               cases e134
               replace p134 := eq_true p134
               replace q134 := eq_true q134
               go_wp2
               go_roundg k2
               case measure => have := HK1.out; have := HK2.out; omega
               case rel => exact ⟨(x8_2), (wrap64 (x9_2 + 1)), (by first | rfl | (simp; done) | (simp [*]; done)), (by first | rfl | (simp; done) | (simp [*]; done)), H', ⟨by have := HK1.out; have := HK2.out; omega⟩, ⟨by (with_reducible repeat (first | apply Kd.R_alloc | apply Kd.R_drewN | apply Kd.R_drew)); exact HO_5.out⟩, ⟨by repeat (first | (with_reducible first | exact HB.out | apply below_alloc | apply pw_below_drewN | apply below_drew1) | exact HB.out)⟩⟩
             ·rw [if_neg c15] at H
              exact absurd H (by simp)
            ·rw [if_neg c14] at H
             exact absurd H (by simp)
           ·rw [if_neg c13] at H
            exact absurd H (by simp)
          ·rw [if_neg c12] at H
           have c12b0 : decide (x9_2 < (((rd_T44 l0 x7_1).f1).length : Int)) = false := decide_eq_false c12
           clear c12
           by_cases c22 : 0 ≤ x8_2
           ·rw [if_pos c22] at H
            have c22b0 : decide (0 ≤ x8_2) = true := decide_eq_true c22
            clear c22
            by_cases c23 : x8_2 < (((rd_T44 l0 x7_1).f2).length : Int)
            ·rw [if_pos c23] at H
             have c23b0 : decide (x8_2 < (((rd_T44 l0 x7_1).f2).length : Int)) = true := decide_eq_true c23
             clear c23
             by_cases c24 : x5_1.length < 140737488355328
             ·rw [if_pos c24] at H
              have LMc24 := Aside0.mk c24
              clear c24
              obtain ⟨y137, hy137⟩ : ∃ y_ : List Bool, y_ = (x5_1 ++ [rdOf false ((rd_T44 l0 x7_1).f2) x8_2]) := ⟨_, rfl⟩
              replace H : (cohousingref36_run.l0 k2 l0 l1 y137 x6_1 (wrap64 (x7_1 + 1))) = some r := by first | (rw [hy137]; with_reducible exact H) | (have H2_ := (Option.bind_some _ _).symm.trans H; rw [hy137]; with_reducible exact H2_) | (have H2_ := (Option.bind_some _ _).symm.trans H; with_reducible exact H2_) | with_reducible exact H | (rw [hy137]; exact H) | exact H
              have Ny137 := Aside0.mk hy137
              clear hy137
              have H' := Aside0.mk H
              clear H
              have p131 : 0 ≤ (x7_1 : Int) := of_decide_eq_true (by first | (with_reducible assumption) | assumption)
              have q131 : x7_1 < (l0.length : Int) := of_decide_eq_true (by first | (with_reducible assumption) | assumption)
              obtain ⟨ad131, A131_1, c131_1, A131_2, c131_2, e131, hx131_0, hx131_1, hx131_2, hl131_1, hi131_1, hl131_2, hi131_2⟩ := at_T44 HR0.out x7_1 p131 q131
              obtain rfl : ad126 = ad131 := (by injection e131)
              replace hx131_0 := (HB.out.cell (World.block_lt_of_cell? w _ hx131_0)).trans hx131_0
              replace hx131_1 := (HB.out.cell (World.block_lt_of_cell? w _ hx131_1)).trans hx131_1
              replace hx131_2 := (HB.out.cell (World.block_lt_of_cell? w _ hx131_2)).trans hx131_2
              have HR131_1 := Aside0.mk hi131_1
              have HC131_1 := Aside0.mk hl131_1
              clear hi131_1 hl131_1
              have HR131_2 := Aside0.mk hi131_2
              have HC131_2 := Aside0.mk hl131_2
              clear hi131_2 hl131_2
              replace p131 := eq_true p131
              replace q131 := eq_true q131
              have p135 : 0 ≤ (x7_1 : Int) := of_decide_eq_true (by first | (with_reducible assumption) | assumption)
              have q135 : x7_1 < (l0.length : Int) := of_decide_eq_true (by first | (with_reducible assumption) | assumption)
              obtain ⟨ad135, A135_1, c135_1, A135_2, c135_2, e135, hx135_0, hx135_1, hx135_2, hl135_1, hi135_1, hl135_2, hi135_2⟩ := at_T44 HR0.out x7_1 p135 q135
              obtain rfl : ad126 = ad135 := (by injection e135)
              replace hx135_0 := (HB.out.cell (World.block_lt_of_cell? w _ hx135_0)).trans hx135_0
              replace hx135_1 := (HB.out.cell (World.block_lt_of_cell? w _ hx135_1)).trans hx135_1
              replace hx135_2 := (HB.out.cell (World.block_lt_of_cell? w _ hx135_2)).trans hx135_2
              have HR135_1 := Aside0.mk hi135_1
              have HC135_1 := Aside0.mk hl135_1
              clear hi135_1 hl135_1
              have HR135_2 := Aside0.mk hi135_2
              have HC135_2 := Aside0.mk hl135_2
              clear hi135_2 hl135_2
              replace p135 := eq_true p135
              replace q135 := eq_true q135
              have ea_ := Option.some.inj (hx131_1.symm.trans hx135_1)
              injection ea_ with ea_ en_ ec_
              subst ea_
              subst ec_
              clear en_
              have ea_ := Option.some.inj (hx131_2.symm.trans hx135_2)
              injection ea_ with ea_ en_ ec_
              subst ea_
              subst ec_
              clear en_
              have p136 : 0 ≤ (x8_2 : Int) := of_decide_eq_true (by first | (with_reducible assumption) | assumption)
              have q136 : x8_2 < (((rd_T44 l0 x7_1).f2).length : Int) := of_decide_eq_true (by first | (with_reducible assumption) | assumption)
              obtain ⟨ad136, e136, hx136_0⟩ := Kd.at_bool HR135_2.out x8_2 p136 q136
              cases e136
              replace hx136_0 := (HB.out.cell (World.block_lt_of_cell? w _ hx136_0)).trans hx136_0
              replace p136 := eq_true p136
              replace q136 := eq_true q136
              go_wp2_with (first | ((with_reducible refine gate_builtin (b := .append) (xs := #[.tmp 57, .tmp 66]) rfl ?_); at_builtin; refine Kd.R_append Kd.bool (w0 := w) w.heap.size rfl (.tmp 57) (.tmp 66) 23 4 (.bool false) 1 rfl Try.underlying23 info4 rfl (by decide) (by omega) u5 x5_1 (rdOf false ((rd_T44 l0 x7_1).f2) x8_2) [.bool (rdOf false ((rd_T44 l0 x7_1).f2) x8_2)] (fun _ => True) (fun _ => False) rfl rfl ?aP (fun _ hk => hk.elim) ?aF ?aO ?aB ?aS ?aL ?_; (case aP => exact rfl); (case aB => exact (by repeat (first | (with_reducible first | exact HB.out | apply below_alloc | apply pw_below_drewN | apply below_drew1) | exact HB.out))); (case aF => exact (fun _ _ => trivial)); (case aO => exact (by (with_reducible repeat (first | apply Kd.R_alloc | apply Kd.R_drewN | apply Kd.R_drew)); exact HO_5.out)); (case aS => exact (below_size (by repeat (first | (with_reducible first | exact HB.out | apply below_alloc | apply pw_below_drewN | apply below_drew1) | exact HB.out)))); (case aL => have := LMc24.out; omega); intro v138 w25 ho hb hg hat; rw [← Ny137.out] at ho; have n0_ := Aside0.mk (hb); have n1_ := Aside0.mk (ho); clear HB; clear HO_5; have HB := n0_; have HO139 := n1_; clear n0_ n1_; clear ho hb hg hat))
              go_roundg k2
              case measure => have := HK1.out; have := HK2.out; omega
              case rel => exact ⟨(y137), (x6_1), (wrap64 (x7_1 + 1)), (by first | rfl | (simp; done) | (simp [*]; done)), (by first | rfl | (simp; done) | (simp [*]; done)), H', ⟨by have := HK1.out; have := HK2.out; omega⟩, ⟨by (with_reducible repeat (first | apply Kd.R_alloc | apply Kd.R_drewN | apply Kd.R_drew)); exact HO139.out⟩, ⟨by repeat (first | (with_reducible first | exact HB.out | apply below_alloc | apply pw_below_drewN | apply below_drew1) | exact HB.out)⟩⟩
             ·rw [if_neg c24] at H
              exact absurd H (by simp)
            ·rw [if_neg c23] at H
             exact absurd H (by simp)
           ·rw [if_neg c22] at H
            exact absurd H (by simp)
         ·rw [if_neg c11] at H
          exact absurd H (by simp)
        ·rw [if_neg c10] at H
         exact absurd H (by simp)
    ·rw [if_neg c4] at H
     exact absurd H (by simp)
   ·rw [if_neg c3] at H
    have c3b0 : decide (x7_1 < (l0.length : Int)) = false := decide_eq_false c3
    clear c3
    obtain rfl := Option.some.inj H
    go_wp2
    go_ret
    exact ⟨_, by first | rfl | (simp [errW_none, errW_some] <;> rfl) | (simp [*, errW_none, errW_some] <;> rfl), by (with_reducible repeat (first | apply Kd.R_alloc | apply Kd.R_drewN | apply Kd.R_drew)); exact HO_5.out, by repeat (first | (with_reducible first | exact HB.out | apply below_alloc | apply pw_below_drewN | apply below_drew1) | exact HB.out)⟩

/-! ### cohousingref36_Run: function 14 -/
def cohousingref36_Run.f (k : Nat) (l0 : List (S44)) (l1 : List Bool) : Option (List Bool × Int) := (cohousingref36_Valid.f k l0).bind fun t140 => (if t140 = true then ((cohousingref36_Free.f k l0).bind fun t141 => (if (l1.length : Int) = (t141.length : Int) then ((cohousingref36_run.f k l0 l1).bind fun t144 => (some (t144, 0))) else (some (([] : List Bool), 1)))) else (some (([] : List Bool), 1)))
theorem cohousingref36_Run.mono : ∀ a0 a1 k, LeO (cohousingref36_Run.f k a0 a1) (cohousingref36_Run.f (k + 1) a0 a1) := by
 intro a0 a1 k
 unfold cohousingref36_Run.f
 repeat' first
   | (with_reducible exact cohousingref36_Free.mono _ _)
   | (with_reducible exact cohousingref36_Valid.mono _ _)
   | (with_reducible exact cohousingref36_run.mono _ _ _)
   | (with_reducible exact LeO.refl _)
   | (with_reducible exact LeO.none _)
   | (with_reducible refine LeO.ite ?_ ?_)
   | (with_reducible refine LeO.bind ?_ (fun _ => ?_))
   | exact cohousingref36_Free.mono _ _
   | exact cohousingref36_Valid.mono _ _
   | exact cohousingref36_run.mono _ _ _
   | exact LeO.none _
   | refine LeO.ite ?_ ?_
   | refine LeO.bind ?_ (fun _ => ?_)
set_option maxHeartbeats 8000000 in
set_option maxRecDepth 100000 in
theorem cohousingref36_Run.calls (k : Nat) (A0 : Option Addr) (c0 : Nat) (l0 : List (S44)) (A1 : Option Addr) (c1 : Nat) (l1 : List Bool) (r1 : List Bool) (r2 : Int) (w : World) (hr0 : Kd.C k44 w A0 l0.length l0) (hc0 : l0.length ≤ c0) (hr1 : Kd.C Kd.bool w A1 l1.length l1) (hc1 : l1.length ≤ c1) (h : cohousingref36_Run.f k l0 l1 = some (r1, r2)) :
  Calls Try.prog 14 #[.slice A0 l0.length c0, .slice A1 l1.length c1] w fun e w' => ∃ v0_ : Value, e = .returned (.tuple #[v0_, .int .i64 r2]) ∧ Kd.R Kd.bool 4 w' w.heap.size (fun _ => True) v0_ r1 ∧ Below w.heap.size w w' := by
 have HR0 := Aside0.mk hr0
 have HC0 := Aside0.mk hc0
 clear hr0 hc0
 have HR1 := Aside0.mk hr1
 have HC1 := Aside0.mk hc1
 clear hr1 hc1
 have HB := Aside0.mk (Below.refl w.heap.size w)
 have H : ((cohousingref36_Valid.f k l0).bind fun t140 => (if t140 = true then ((cohousingref36_Free.f k l0).bind fun t141 => (if (l1.length : Int) = (t141.length : Int) then ((cohousingref36_run.f k l0 l1).bind fun t144 => (some (t144, 0))) else (some (([] : List Bool), 1)))) else (some (([] : List Bool), 1)))) = some (r1, r2) := h
 clear h
 replace H := Option.bind_eq_some_iff.mp H
 obtain ⟨t140, A30, H⟩ := H
 replace H : (if t140 = true then ((cohousingref36_Free.f k l0).bind fun t141 => (if (l1.length : Int) = (t141.length : Int) then ((cohousingref36_run.f k l0 l1).bind fun t144 => (some (t144, 0))) else (some (([] : List Bool), 1)))) else (some (([] : List Bool), 1))) = some (r1, r2) := H
 have A3 := Aside0.mk A30
 clear A30
 by_cases c4 : t140 = true
 ·subst c4
  have H1 : ((cohousingref36_Free.f k l0).bind fun t141 => (if (l1.length : Int) = (t141.length : Int) then ((cohousingref36_run.f k l0 l1).bind fun t144 => (some (t144, 0))) else (some (([] : List Bool), 1)))) = some (r1, r2) := by rw [if_pos rfl] at H; exact H
  clear H
  have H := H1
  clear H1
  replace H := Option.bind_eq_some_iff.mp H
  obtain ⟨t141, A50, H⟩ := H
  replace H : (if (l1.length : Int) = (t141.length : Int) then ((cohousingref36_run.f k l0 l1).bind fun t144 => (some (t144, 0))) else (some (([] : List Bool), 1))) = some (r1, r2) := H
  have A5 := Aside0.mk A50
  clear A50
  by_cases c6 : (l1.length : Int) = (t141.length : Int)
  ·rw [if_pos c6] at H
   have c6b0 : ((l1.length : Int) == (t141.length : Int)) = true := beq_iff_eq.mpr c6
   have c6b1 : ((l1.length : Int) != (t141.length : Int)) = false := bne_eq_false_iff_eq.mpr c6
   have c6b2 : (l1.length == t141.length) = true := by first | simpa using c6 | (simp at c6 ⊢; omega)
   clear c6
   replace H := Option.bind_eq_some_iff.mp H
   obtain ⟨t144, A70, H⟩ := H
   replace H : (some (t144, 0)) = some (r1, r2) := H
   have A7 := Aside0.mk A70
   clear A70
   simp only [Option.some.injEq, Prod.mk.injEq] at H
   obtain ⟨rfl, rfl⟩ := H
   go_enter Try.func14, Try.ntmps14
   go_wp2_with (first | ((with_reducible refine gate_callee (f := 16) rfl ?_); refine goesL_ (some 7) rfl rfl Try.func16 (by kernel_rfl) rfl #[.slice A0 l0.length c0] rfl (by (try simp only [List.map_toArray, List.map_cons, List.map_nil]); first | done | rfl | (simp only [List.length_drop, List.length_take]; rfl)) ?_; (with_reducible refine (cohousingref36_Valid.calls k _ _ l0 true _ ?side1 ?side2 A3.out).mono ?_); (case side1 => repeat (first | exact HR0.out | (with_reducible refine Kd.C_alloc ?_ _) | (with_reducible refine Kd.C_drewN ?_ _) | (with_reducible refine Kd.C_drew ?_))); (case side2 => exact HC0.out); rintro e w8 ⟨rfl, hb⟩; refine ⟨_, rfl, ?_⟩; have n0_ := Aside0.mk (below_step (by repeat (first | (with_reducible first | exact HB.out | apply below_alloc | apply pw_below_drewN | apply below_drew1) | exact HB.out)) hb); clear HB; have HB := n0_; clear n0_; (try clear hb); (try clear hb2); (try clear hk); (try clear hi)) | (go_at_call 25; (with_reducible refine (cohousingref36_Free.calls k _ _ l0 t141 _ ?side1 ?side2 A5.out).mono ?_); (case side1 => repeat (first | exact (Kd.C_below HR0.out HB.out) | (with_reducible refine Kd.C_alloc ?_ _) | (with_reducible refine Kd.C_drewN ?_ _) | (with_reducible refine Kd.C_drew ?_))); (case side2 => exact HC0.out); rintro e w9 ⟨v142, rfl, ho0, hb⟩; have n0_ := Aside0.mk (Kd.R_lower ho0 (below_size (by repeat (first | (with_reducible first | exact HB.out | apply below_alloc | apply pw_below_drewN | apply below_drew1) | exact HB.out)))); have n1_ := Aside0.mk (below_step (by repeat (first | (with_reducible first | exact HB.out | apply below_alloc | apply pw_below_drewN | apply below_drew1) | exact HB.out)) hb); clear HB; have HO143 := n0_; have HB := n1_; clear n0_ n1_; (try clear hb); (try clear hb2); (try clear hk); (try clear hi); (try clear ho0); obtain ⟨Ao10, co10, eo10⟩ := Kd.R_slice HO143.out; subst eo10) | ((with_reducible refine gate_callee (f := 34) rfl ?_); refine goesL_ (some 19) rfl rfl Try.func34 (by kernel_rfl) rfl #[.slice A0 l0.length c0, .slice A1 l1.length c1] rfl (by (try simp only [List.map_toArray, List.map_cons, List.map_nil]); first | done | rfl | (simp only [List.length_drop, List.length_take]; rfl)) ?_; (with_reducible refine (cohousingref36_run.calls k _ _ l0 _ _ l1 t144 _ ?side1 ?side2 ?side3 ?side4 A7.out).mono ?_); (case side1 => repeat (first | exact (Kd.C_below HR0.out HB.out) | (with_reducible refine Kd.C_alloc ?_ _) | (with_reducible refine Kd.C_drewN ?_ _) | (with_reducible refine Kd.C_drew ?_))); (case side2 => exact HC0.out); (case side3 => repeat (first | exact (Kd.C_below HR1.out HB.out) | (with_reducible refine Kd.C_alloc ?_ _) | (with_reducible refine Kd.C_drewN ?_ _) | (with_reducible refine Kd.C_drew ?_))); (case side4 => exact HC1.out); rintro e w11 ⟨v145, rfl, ho0, hb⟩; refine ⟨_, rfl, ?_⟩; have n0_ := Aside0.mk (Kd.R_below (by (with_reducible repeat (first | apply Kd.R_alloc | apply Kd.R_drewN | apply Kd.R_drew)); exact HO143.out) hb); have n1_ := Aside0.mk (Kd.R_lower ho0 (below_size (by repeat (first | (with_reducible first | exact HB.out | apply below_alloc | apply pw_below_drewN | apply below_drew1) | exact HB.out)))); have n2_ := Aside0.mk (below_step (by repeat (first | (with_reducible first | exact HB.out | apply below_alloc | apply pw_below_drewN | apply below_drew1) | exact HB.out)) hb); clear HO143; clear HB; have HO143 := n0_; have HO146 := n1_; have HB := n2_; clear n0_ n1_ n2_; (try clear hb); (try clear hb2); (try clear hk); (try clear hi); (try clear ho0)))
   go_ret2
   exact ⟨_, by first | rfl | (simp [errW_none, errW_some] <;> rfl) | (simp [*, errW_none, errW_some] <;> rfl), by (with_reducible repeat (first | apply Kd.R_alloc | apply Kd.R_drewN | apply Kd.R_drew)); exact HO146.out, by repeat (first | (with_reducible first | exact HB.out | apply below_alloc | apply pw_below_drewN | apply below_drew1) | exact HB.out)⟩
  ·rw [if_neg c6] at H
   have c6b0 : ((l1.length : Int) == (t141.length : Int)) = false := beq_eq_false_iff_ne.mpr c6
   have c6b1 : ((l1.length : Int) != (t141.length : Int)) = true := bne_iff_ne.mpr c6
   have c6b2 : (l1.length == t141.length) = false := by first | simpa using c6 | (simp at c6 ⊢; omega)
   simp only [Option.some.injEq, Prod.mk.injEq] at H
   obtain ⟨rfl, rfl⟩ := H
   go_enter Try.func14, Try.ntmps14
   go_wp2_with (first | ((with_reducible refine gate_callee (f := 16) rfl ?_); refine goesL_ (some 7) rfl rfl Try.func16 (by kernel_rfl) rfl #[.slice A0 l0.length c0] rfl (by (try simp only [List.map_toArray, List.map_cons, List.map_nil]); first | done | rfl | (simp only [List.length_drop, List.length_take]; rfl)) ?_; (with_reducible refine (cohousingref36_Valid.calls k _ _ l0 true _ ?side1 ?side2 A3.out).mono ?_); (case side1 => repeat (first | exact HR0.out | (with_reducible refine Kd.C_alloc ?_ _) | (with_reducible refine Kd.C_drewN ?_ _) | (with_reducible refine Kd.C_drew ?_))); (case side2 => exact HC0.out); rintro e w12 ⟨rfl, hb⟩; refine ⟨_, rfl, ?_⟩; have n0_ := Aside0.mk (below_step (by repeat (first | (with_reducible first | exact HB.out | apply below_alloc | apply pw_below_drewN | apply below_drew1) | exact HB.out)) hb); clear HB; have HB := n0_; clear n0_; (try clear hb); (try clear hb2); (try clear hk); (try clear hi)) | (go_at_call 25; (with_reducible refine (cohousingref36_Free.calls k _ _ l0 t141 _ ?side1 ?side2 A5.out).mono ?_); (case side1 => repeat (first | exact (Kd.C_below HR0.out HB.out) | (with_reducible refine Kd.C_alloc ?_ _) | (with_reducible refine Kd.C_drewN ?_ _) | (with_reducible refine Kd.C_drew ?_))); (case side2 => exact HC0.out); rintro e w13 ⟨v142, rfl, ho0, hb⟩; have n0_ := Aside0.mk (Kd.R_lower ho0 (below_size (by repeat (first | (with_reducible first | exact HB.out | apply below_alloc | apply pw_below_drewN | apply below_drew1) | exact HB.out)))); have n1_ := Aside0.mk (below_step (by repeat (first | (with_reducible first | exact HB.out | apply below_alloc | apply pw_below_drewN | apply below_drew1) | exact HB.out)) hb); clear HB; have HO143 := n0_; have HB := n1_; clear n0_ n1_; (try clear hb); (try clear hb2); (try clear hk); (try clear hi); (try clear ho0); obtain ⟨Ao14, co14, eo14⟩ := Kd.R_slice HO143.out; subst eo14))
   go_ret2
   exact ⟨_, by first | rfl | (simp [errW_none, errW_some] <;> rfl) | (simp [*, errW_none, errW_some] <;> rfl), by first | exact Kd.R_nil _ _ _ _ _ | exact Kd.N_nil _ _ _ _ _ | exact Kd.V_nil _ _ _ _ _ | exact Kd.Q_nil _ _ _ _ _ | exact Kd.S_nil _ _ _ _ _, by repeat (first | (with_reducible first | exact HB.out | apply below_alloc | apply pw_below_drewN | apply below_drew1) | exact HB.out)⟩
 ·replace c4 := Bool.eq_false_iff.mpr c4
  subst c4
  have H1 : (some (([] : List Bool), 1)) = some (r1, r2) := by rw [if_neg (show ¬ (false = true) by decide)] at H; exact H
  clear H
  have H := H1
  clear H1
  simp only [Option.some.injEq, Prod.mk.injEq] at H
  obtain ⟨rfl, rfl⟩ := H
  go_enter Try.func14, Try.ntmps14
  go_wp2_with (first | ((with_reducible refine gate_callee (f := 16) rfl ?_); refine goesL_ (some 7) rfl rfl Try.func16 (by kernel_rfl) rfl #[.slice A0 l0.length c0] rfl (by (try simp only [List.map_toArray, List.map_cons, List.map_nil]); first | done | rfl | (simp only [List.length_drop, List.length_take]; rfl)) ?_; (with_reducible refine (cohousingref36_Valid.calls k _ _ l0 false _ ?side1 ?side2 A3.out).mono ?_); (case side1 => repeat (first | exact HR0.out | (with_reducible refine Kd.C_alloc ?_ _) | (with_reducible refine Kd.C_drewN ?_ _) | (with_reducible refine Kd.C_drew ?_))); (case side2 => exact HC0.out); rintro e w15 ⟨rfl, hb⟩; refine ⟨_, rfl, ?_⟩; have n0_ := Aside0.mk (below_step (by repeat (first | (with_reducible first | exact HB.out | apply below_alloc | apply pw_below_drewN | apply below_drew1) | exact HB.out)) hb); clear HB; have HB := n0_; clear n0_; (try clear hb); (try clear hb2); (try clear hk); (try clear hi)))
  go_ret2
  exact ⟨_, by first | rfl | (simp [errW_none, errW_some] <;> rfl) | (simp [*, errW_none, errW_some] <;> rfl), by first | exact Kd.R_nil _ _ _ _ _ | exact Kd.N_nil _ _ _ _ _ | exact Kd.V_nil _ _ _ _ _ | exact Kd.Q_nil _ _ _ _ _ | exact Kd.S_nil _ _ _ _ _, by repeat (first | (with_reducible first | exact HB.out | apply below_alloc | apply pw_below_drewN | apply below_drew1) | exact HB.out)⟩

end Go.Proofs.Ytjdhnhfglpogmaa.P
