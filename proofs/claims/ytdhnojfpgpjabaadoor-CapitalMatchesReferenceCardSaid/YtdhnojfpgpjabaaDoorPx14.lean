-- Written by a program of this session out of the translation (wip/pp: the kit's print, turned). Not trusted: Lean checks it.
import Derived.Test.YtdhnojfpgpjabaaDoorPx0
import Derived.Test.YtdhnojfpgpjabaaDoorPx8
import Derived.Test.YtdhnojfpgpjabaaDoorPx12
namespace Go.Proofs.YtdhnojfpgpjabaaDoor.P
open Go.RowKit Go.Proofs.YtdhnojfpgpjabaaDoorW.PrintWords Go.Proofs.YtdhnojfpgpjabaaDoorW.PrintLast Go.Proofs.YtdhnojfpgpjabaaDoorW.PrintMore
attribute [local go_sem] max2_int min2_int max_two min_two max_three min_three max_four min_four   -- for this text's walks alone
set_option linter.unusedVariables false
set_option linter.unusedSimpArgs false

/-! ### cohousingref32_Redeem: function 17 -/
mutual
def cohousingref32_Redeem.j0 : Nat → Int → List (S36) → Int → Bool → Option (Int × Int × Int)
 | 0, _, _, _, _ => none
 | k + 1, x0, x1, x2, x33 => if x33 = true then (some (0, 0, 1)) else (cohousingref32_Redeem.l0 k x0 x1 x2 0)
def cohousingref32_Redeem.l0 : Nat → Int → List (S36) → Int → Int → Option (Int × Int × Int)
 | 0, _, _, _, _ => none
 | k + 1, x0, x1, x2, x10 => if x10 < (x1.length : Int) then (if 0 ≤ x10 then (if ((rd_T36 x1 x10).f0) = 6 then (if (wrap64 (((rd_T36 x1 x10).f1) + x2)) > 36524 then (some (0, 0, 3)) else ((cohousingref32_state.f k x0 x1 (wrap64 (((rd_T36 x1 x10).f1) + x2))).bind fun bt191 => (if bt191.2.2.2.2.2 = 0 then (some (bt191.2.2.2.2.1, wrap64 (((rd_T36 x1 x10).f1) + x2), 0)) else (some (0, 0, bt191.2.2.2.2.2))))) else (cohousingref32_Redeem.l0 k x0 x1 x2 (wrap64 (x10 + 1)))) else (none)) else (some (0, 0, 6))
end
def cohousingref32_Redeem.f (k : Nat) (a0 : Int) (l1 : List (S36)) (a2 : Int) : Option (Int × Int × Int) := (cohousingref32_Valid.f k l1).bind fun t188 => (if t188 = true then (if a0 < 1 then (cohousingref32_Redeem.j0 k a0 l1 a2 true) else (if a0 > 1000 then (cohousingref32_Redeem.j0 k a0 l1 a2 true) else (if a2 < 0 then (cohousingref32_Redeem.j0 k a0 l1 a2 true) else (cohousingref32_Redeem.j0 k a0 l1 a2 (decide (a2 > 1000)))))) else (cohousingref32_Redeem.j0 k a0 l1 a2 true))
theorem cohousingref32_Redeem.mono_l : ∀ k, (∀ y0 y1 y2 y3, LeO (cohousingref32_Redeem.j0 k y0 y1 y2 y3) (cohousingref32_Redeem.j0 (k + 1) y0 y1 y2 y3)) ∧ (∀ y0 y1 y2 y3, LeO (cohousingref32_Redeem.l0 k y0 y1 y2 y3) (cohousingref32_Redeem.l0 (k + 1) y0 y1 y2 y3))
 | 0 => ⟨fun _ _ _ _ r h => by simp [cohousingref32_Redeem.j0] at h, fun _ _ _ _ r h => by simp [cohousingref32_Redeem.l0] at h⟩
 | k + 1 => by
  obtain ⟨ih0, ih1⟩ := cohousingref32_Redeem.mono_l k
  refine ⟨?_, ?_⟩
  ·intro y0 y1 y2 y3
   unfold cohousingref32_Redeem.j0
   repeat' first
   | (with_reducible exact ih0 _ _ _ _)
   | (with_reducible exact ih1 _ _ _ _)
   | (with_reducible exact cohousingref32_Valid.mono _ _)
   | (with_reducible exact cohousingref32_state.mono _ _ _ _)
   | (with_reducible exact LeO.refl _)
   | (with_reducible exact LeO.none _)
   | (with_reducible refine LeO.ite ?_ ?_)
   | (with_reducible refine LeO.bind ?_ (fun _ => ?_))
   | exact ih0 _ _ _ _
   | exact ih1 _ _ _ _
   | exact cohousingref32_Valid.mono _ _
   | exact cohousingref32_state.mono _ _ _ _
   | exact LeO.none _
   | refine LeO.ite ?_ ?_
   | refine LeO.bind ?_ (fun _ => ?_)
  ·intro y0 y1 y2 y3
   unfold cohousingref32_Redeem.l0
   repeat' first
   | (with_reducible exact ih0 _ _ _ _)
   | (with_reducible exact ih1 _ _ _ _)
   | (with_reducible exact cohousingref32_Valid.mono _ _)
   | (with_reducible exact cohousingref32_state.mono _ _ _ _)
   | (with_reducible exact LeO.refl _)
   | (with_reducible exact LeO.none _)
   | (with_reducible refine LeO.ite ?_ ?_)
   | (with_reducible refine LeO.bind ?_ (fun _ => ?_))
   | exact ih0 _ _ _ _
   | exact ih1 _ _ _ _
   | exact cohousingref32_Valid.mono _ _
   | exact cohousingref32_state.mono _ _ _ _
   | exact LeO.none _
   | refine LeO.ite ?_ ?_
   | refine LeO.bind ?_ (fun _ => ?_)
theorem cohousingref32_Redeem.mono : ∀ a0 a1 a2 k, LeO (cohousingref32_Redeem.f k a0 a1 a2) (cohousingref32_Redeem.f (k + 1) a0 a1 a2) := by
 intro a0 a1 a2 k
 obtain ⟨ih0, ih1⟩ := cohousingref32_Redeem.mono_l k
 unfold cohousingref32_Redeem.f
 repeat' first
   | (with_reducible exact ih0 _ _ _ _)
   | (with_reducible exact ih1 _ _ _ _)
   | (with_reducible exact cohousingref32_Valid.mono _ _)
   | (with_reducible exact cohousingref32_state.mono _ _ _ _)
   | (with_reducible exact LeO.refl _)
   | (with_reducible exact LeO.none _)
   | (with_reducible refine LeO.ite ?_ ?_)
   | (with_reducible refine LeO.bind ?_ (fun _ => ?_))
   | exact ih0 _ _ _ _
   | exact ih1 _ _ _ _
   | exact cohousingref32_Valid.mono _ _
   | exact cohousingref32_state.mono _ _ _ _
   | exact LeO.none _
   | refine LeO.ite ?_ ?_
   | refine LeO.bind ?_ (fun _ => ?_)
set_option maxHeartbeats 8000000 in
set_option maxRecDepth 100000 in
theorem cohousingref32_Redeem.calls (k : Nat) (a0 : Int) (A1 : Option Addr) (c1 : Nat) (l1 : List (S36)) (a2 : Int) (r1 : Int) (r2 : Int) (r3 : Int) (w : World) (hr1 : Kd.C k36 w A1 l1.length l1) (hc1 : l1.length ≤ c1) (h : cohousingref32_Redeem.f k a0 l1 a2 = some (r1, r2, r3)) :
  Calls Tryd.prog 17 #[.int .i64 a0, .slice A1 l1.length c1, .int .i64 a2] w fun e w' => e = .returned (.tuple #[.int .i64 r1, .int .i64 r2, .int .i64 r3]) ∧ Below w.heap.size w w' := by
 have hu26 := Tryd.underlying26
 have HR1 := Aside0.mk hr1
 have HC1 := Aside0.mk hc1
 clear hr1 hc1
 have HB := Aside0.mk (Below.refl w.heap.size w)
 have H : ((cohousingref32_Valid.f k l1).bind fun t188 => (if t188 = true then (if a0 < 1 then (cohousingref32_Redeem.j0 k a0 l1 a2 true) else (if a0 > 1000 then (cohousingref32_Redeem.j0 k a0 l1 a2 true) else (if a2 < 0 then (cohousingref32_Redeem.j0 k a0 l1 a2 true) else (cohousingref32_Redeem.j0 k a0 l1 a2 (decide (a2 > 1000)))))) else (cohousingref32_Redeem.j0 k a0 l1 a2 true))) = some (r1, r2, r3) := h
 clear h
 replace H := Option.bind_eq_some_iff.mp H
 obtain ⟨t188, A40, H⟩ := H
 replace H : (if t188 = true then (if a0 < 1 then (cohousingref32_Redeem.j0 k a0 l1 a2 true) else (if a0 > 1000 then (cohousingref32_Redeem.j0 k a0 l1 a2 true) else (if a2 < 0 then (cohousingref32_Redeem.j0 k a0 l1 a2 true) else (cohousingref32_Redeem.j0 k a0 l1 a2 (decide (a2 > 1000)))))) else (cohousingref32_Redeem.j0 k a0 l1 a2 true)) = some (r1, r2, r3) := H
 have A4 := Aside0.mk A40
 clear A40
 have HC5 := Aside0.mk H
 clear H
 go_enter Tryd.func17, Tryd.ntmps17
 go_upto_region 2 with (first | ((with_reducible refine gate_callee (f := 15) rfl ?_); refine goesL_ (some 15) rfl rfl Tryd.func15 (by kernel_rfl) rfl #[.slice A1 l1.length c1] rfl (by (try simp only [List.map_toArray, List.map_cons, List.map_nil]); first | done | rfl | (simp only [List.length_drop, List.length_take]; rfl)) ?_; (with_reducible refine (cohousingref32_Valid.calls k _ _ l1 t188 _ ?side1 ?side2 A4.out).mono ?_); (case side1 => repeat (first | exact HR1.out | (with_reducible refine Kd.C_alloc ?_ _) | (with_reducible refine Kd.C_drewN ?_ _) | (with_reducible refine Kd.C_drew ?_))); (case side2 => exact HC1.out); rintro e w6 ⟨rfl, hb⟩; refine ⟨_, rfl, ?_⟩; have n0_ := Aside0.mk (below_step (by repeat (first | (with_reducible first | exact HB.out | apply below_alloc | apply pw_below_drewN | apply below_drew1) | exact HB.out)) hb); clear HB; have HB := n0_; clear n0_; (try clear hb); (try clear hb2); (try clear hk); (try clear hi)))
 (try simp only [Act.put, List.setIfInBounds_toArray, List.set_cons_zero, List.set_cons_succ])
 go_cut [33] (fun v33 wc => ∃ (kq : Nat) (x33_4 : Bool), v33 = .bool x33_4 ∧ Aside0 (cohousingref32_Redeem.j0 kq a0 l1 a2 x33_4 = some (r1, r2, r3)) ∧ Aside0 (kq ≤ k) ∧ Aside0 (Below w.heap.size w wc))
 case first =>
  have H := HC5.out
  clear HC5
  by_cases c7 : t188 = true
  ·subst c7
   have H1 : (if a0 < 1 then (cohousingref32_Redeem.j0 k a0 l1 a2 true) else (if a0 > 1000 then (cohousingref32_Redeem.j0 k a0 l1 a2 true) else (if a2 < 0 then (cohousingref32_Redeem.j0 k a0 l1 a2 true) else (cohousingref32_Redeem.j0 k a0 l1 a2 (decide (a2 > 1000)))))) = some (r1, r2, r3) := by rw [if_pos rfl] at H; exact H
   clear H
   have H := H1
   clear H1
   by_cases c8 : a0 < 1
   ·rw [if_pos c8] at H
    have c8b0 : decide (a0 < 1) = true := decide_eq_true c8
    clear c8
    (first | rw [c8b0] | (simp only [i64_w, i32_w]; rw [c8b0]) | skip)
    have H' := Aside0.mk H
    clear H
    go_wp2
    go_meet
    case rel => exact ⟨_, (true), (by first | rfl | (simp; done) | (simp [*]; done)), H', ⟨by first | omega | exact Nat.le_refl _⟩, ⟨by repeat (first | (with_reducible first | exact HB.out | apply below_alloc | apply pw_below_drewN | apply below_drew1) | exact HB.out)⟩⟩
   ·rw [if_neg c8] at H
    have c8b0 : decide (a0 < 1) = false := decide_eq_false c8
    clear c8
    (first | rw [c8b0] | (simp only [i64_w, i32_w]; rw [c8b0]) | skip)
    by_cases c9 : a0 > 1000
    ·rw [if_pos c9] at H
     have c9b0 : decide (1000 < a0) = true := decide_eq_true c9
     clear c9
     have H' := Aside0.mk H
     clear H
     go_wp2
     go_meet
     case rel => exact ⟨_, (true), (by first | rfl | (simp; done) | (simp [*]; done)), H', ⟨by first | omega | exact Nat.le_refl _⟩, ⟨by repeat (first | (with_reducible first | exact HB.out | apply below_alloc | apply pw_below_drewN | apply below_drew1) | exact HB.out)⟩⟩
    ·rw [if_neg c9] at H
     have c9b0 : decide (1000 < a0) = false := decide_eq_false c9
     clear c9
     by_cases c10 : a2 < 0
     ·rw [if_pos c10] at H
      have c10b0 : decide (a2 < 0) = true := decide_eq_true c10
      clear c10
      have H' := Aside0.mk H
      clear H
      go_wp2
      go_meet
      case rel => exact ⟨_, (true), (by first | rfl | (simp; done) | (simp [*]; done)), H', ⟨by first | omega | exact Nat.le_refl _⟩, ⟨by repeat (first | (with_reducible first | exact HB.out | apply below_alloc | apply pw_below_drewN | apply below_drew1) | exact HB.out)⟩⟩
     ·rw [if_neg c10] at H
      have c10b0 : decide (a2 < 0) = false := decide_eq_false c10
      clear c10
      have H' := Aside0.mk H
      clear H
      go_wp2
      go_meet
      case rel => exact ⟨_, (decide (a2 > 1000)), (by first | rfl | (simp; done) | (simp [*]; done)), H', ⟨by first | omega | exact Nat.le_refl _⟩, ⟨by repeat (first | (with_reducible first | exact HB.out | apply below_alloc | apply pw_below_drewN | apply below_drew1) | exact HB.out)⟩⟩
  ·replace c7 := Bool.eq_false_iff.mpr c7
   subst c7
   have H1 : (cohousingref32_Redeem.j0 k a0 l1 a2 true) = some (r1, r2, r3) := by rw [if_neg (show ¬ (false = true) by decide)] at H; exact H
   clear H
   have H := H1
   clear H1
   have H' := Aside0.mk H
   clear H
   go_wp2
   go_meet
   case rel => exact ⟨_, (true), (by first | rfl | (simp; done) | (simp [*]; done)), H', ⟨by first | omega | exact Nat.le_refl _⟩, ⟨by repeat (first | (with_reducible first | exact HB.out | apply below_alloc | apply pw_below_drewN | apply below_drew1) | exact HB.out)⟩⟩
 case rest =>
  clear HC5
  try clear c1
  try clear p2
  try clear c7
  try clear c8
  try clear c8b0
  try clear c9
  try clear c9b0
  try clear c10
  try clear c10b0
  obtain ⟨kq, x33_4, rfl, HA, HJ4, HB⟩ := hcut
  cases kq with
  | zero => exact absurd HA.out (by simp [cohousingref32_Redeem.j0])
  | succ kj4 =>
   have H := HA.out
   clear HA
   simp only [cohousingref32_Redeem.j0] at H
   by_cases c11 : x33_4 = true
   ·subst c11
    have H1 : (some (0, 0, 1)) = some (r1, r2, r3) := by rw [if_pos rfl] at H; exact H
    clear H
    have H := H1
    clear H1
    simp only [Option.some.injEq, Prod.mk.injEq] at H
    obtain ⟨rfl, rfl, rfl⟩ := H
    go_wp2
    go_ret3
    exact ⟨by first | rfl | (simp [errW_none, errW_some] <;> rfl) | (simp [*, errW_none, errW_some] <;> rfl), by repeat (first | (with_reducible first | exact HB.out | apply below_alloc | apply pw_below_drewN | apply below_drew1) | exact HB.out)⟩
   ·replace c11 := Bool.eq_false_iff.mpr c11
    subst c11
    have H1 : (cohousingref32_Redeem.l0 kj4 a0 l1 a2 0) = some (r1, r2, r3) := by rw [if_neg (show ¬ (false = true) by decide)] at H; exact H
    clear H
    have H := H1
    clear H1
    have H' := Aside0.mk H
    clear H
    go_wp2
    go_loopg [10] kj4 (fun kq v10 w' => ∃ (x10_2 : Int), v10 = .int .i64 x10_2 ∧ Aside0 (cohousingref32_Redeem.l0 kq a0 l1 a2 x10_2 = some (r1, r2, r3)) ∧ Aside0 (kq ≤ kj4) ∧ Aside0 (Below w.heap.size w w'))
    case atStart => exact ⟨(0), (by first | rfl | (simp; done) | (simp [*]; done)), H', ⟨Nat.le_refl _⟩, ⟨by repeat (first | (with_reducible first | exact HB.out | apply below_alloc | apply pw_below_drewN | apply below_drew1) | exact HB.out)⟩⟩
    case round =>
     clear H'
     try clear c1
     try clear p2
     try clear c7
     try clear c8
     try clear c8b0
     try clear c9
     try clear c9b0
     try clear c10
     try clear c10b0
     try clear c11
     try clear p2
     obtain ⟨x10_2, rfl, HA, HK2, HB⟩ := hrel
     cases gk with
     | zero => exact absurd HA.out (by simp [cohousingref32_Redeem.l0])
     | succ k2 =>
      have H := HA.out
      clear HA
      simp only [cohousingref32_Redeem.l0] at H
      by_cases c12 : x10_2 < (l1.length : Int)
      ·rw [if_pos c12] at H
       have c12b0 : decide (x10_2 < (l1.length : Int)) = true := decide_eq_true c12
       clear c12
       by_cases c13 : 0 ≤ x10_2
       ·rw [if_pos c13] at H
        have c13b0 : decide (0 ≤ x10_2) = true := decide_eq_true c13
        clear c13
        by_cases c14 : ((rd_T36 l1 x10_2).f0) = 6
        ·rw [if_pos c14] at H
         have c14b0 : (((rd_T36 l1 x10_2).f0) == 6) = true := beq_iff_eq.mpr c14
         have c14b1 : (((rd_T36 l1 x10_2).f0) != 6) = false := bne_eq_false_iff_eq.mpr c14
         clear c14
         by_cases c15 : (wrap64 (((rd_T36 l1 x10_2).f1) + a2)) > 36524
         ·rw [if_pos c15] at H
          have c15b0 : decide (36524 < (wrap64 (((rd_T36 l1 x10_2).f1) + a2))) = true := decide_eq_true c15
          clear c15
          simp only [Option.some.injEq, Prod.mk.injEq] at H
          obtain ⟨rfl, rfl, rfl⟩ := H
          have p189 : 0 ≤ (x10_2 : Int) := of_decide_eq_true (by first | (with_reducible assumption) | assumption)
          have q189 : x10_2 < (l1.length : Int) := of_decide_eq_true (by first | (with_reducible assumption) | assumption)
          obtain ⟨ad189, e189, hx189_0, hx189_1, hx189_2⟩ := at_T36 HR1.out x10_2 p189 q189
          cases e189
          replace hx189_0 := (HB.out.cell (World.block_lt_of_cell? w _ hx189_0)).trans hx189_0
          replace hx189_1 := (HB.out.cell (World.block_lt_of_cell? w _ hx189_1)).trans hx189_1
          replace hx189_2 := (HB.out.cell (World.block_lt_of_cell? w _ hx189_2)).trans hx189_2
          replace p189 := eq_true p189
          replace q189 := eq_true q189
          have p190 : 0 ≤ (x10_2 : Int) := of_decide_eq_true (by first | (with_reducible assumption) | assumption)
          have q190 : x10_2 < (l1.length : Int) := of_decide_eq_true (by first | (with_reducible assumption) | assumption)
          obtain ⟨ad190, e190, hx190_0, hx190_1, hx190_2⟩ := at_T36 HR1.out x10_2 p190 q190
          obtain rfl : ad189 = ad190 := (by injection e190)
          replace hx190_0 := (HB.out.cell (World.block_lt_of_cell? w _ hx190_0)).trans hx190_0
          replace hx190_1 := (HB.out.cell (World.block_lt_of_cell? w _ hx190_1)).trans hx190_1
          replace hx190_2 := (HB.out.cell (World.block_lt_of_cell? w _ hx190_2)).trans hx190_2
          replace p190 := eq_true p190
          replace q190 := eq_true q190
          go_wp2
          go_ret3
          exact ⟨by first | rfl | (simp [errW_none, errW_some] <;> rfl) | (simp [*, errW_none, errW_some] <;> rfl), by repeat (first | (with_reducible first | exact HB.out | apply below_alloc | apply pw_below_drewN | apply below_drew1) | exact HB.out)⟩
         ·rw [if_neg c15] at H
          have c15b0 : decide (36524 < (wrap64 (((rd_T36 l1 x10_2).f1) + a2))) = false := decide_eq_false c15
          clear c15
          replace H := Option.bind_eq_some_iff.mp H
          obtain ⟨⟨t191, t192, t193, t194, t195, t196⟩, A160, H⟩ := H
          replace H : (if t196 = 0 then (some (t195, wrap64 (((rd_T36 l1 x10_2).f1) + a2), 0)) else (some (0, 0, t196))) = some (r1, r2, r3) := H
          have A16 := Aside0.mk A160
          clear A160
          by_cases c17 : t196 = 0
          ·rw [if_pos c17] at H
           have c17b0 : (t196 == 0) = true := beq_iff_eq.mpr c17
           have c17b1 : (t196 != 0) = false := bne_eq_false_iff_eq.mpr c17
           clear c17
           simp only [Option.some.injEq, Prod.mk.injEq] at H
           obtain ⟨rfl, rfl, rfl⟩ := H
           have p189 : 0 ≤ (x10_2 : Int) := of_decide_eq_true (by first | (with_reducible assumption) | assumption)
           have q189 : x10_2 < (l1.length : Int) := of_decide_eq_true (by first | (with_reducible assumption) | assumption)
           obtain ⟨ad189, e189, hx189_0, hx189_1, hx189_2⟩ := at_T36 HR1.out x10_2 p189 q189
           cases e189
           replace hx189_0 := (HB.out.cell (World.block_lt_of_cell? w _ hx189_0)).trans hx189_0
           replace hx189_1 := (HB.out.cell (World.block_lt_of_cell? w _ hx189_1)).trans hx189_1
           replace hx189_2 := (HB.out.cell (World.block_lt_of_cell? w _ hx189_2)).trans hx189_2
           replace p189 := eq_true p189
           replace q189 := eq_true q189
           have p190 : 0 ≤ (x10_2 : Int) := of_decide_eq_true (by first | (with_reducible assumption) | assumption)
           have q190 : x10_2 < (l1.length : Int) := of_decide_eq_true (by first | (with_reducible assumption) | assumption)
           obtain ⟨ad190, e190, hx190_0, hx190_1, hx190_2⟩ := at_T36 HR1.out x10_2 p190 q190
           obtain rfl : ad189 = ad190 := (by injection e190)
           replace hx190_0 := (HB.out.cell (World.block_lt_of_cell? w _ hx190_0)).trans hx190_0
           replace hx190_1 := (HB.out.cell (World.block_lt_of_cell? w _ hx190_1)).trans hx190_1
           replace hx190_2 := (HB.out.cell (World.block_lt_of_cell? w _ hx190_2)).trans hx190_2
           replace p190 := eq_true p190
           replace q190 := eq_true q190
           go_wp2_with (first | ((with_reducible refine gate_callee (f := 28) rfl ?_); refine goesL_ (some 59) rfl rfl Tryd.func28 (by kernel_rfl) rfl #[.int .i64 a0, .slice (some ad189) l1.length c1, .int .i64 (wrap64 (((rd_T36 l1 x10_2).f1) + a2))] rfl (by (try simp only [List.map_toArray, List.map_cons, List.map_nil]); first | done | rfl | (simp only [List.length_drop, List.length_take]; rfl)) ?_; (with_reducible refine (cohousingref32_state.calls k2 a0 _ _ l1 (wrap64 (((rd_T36 l1 x10_2).f1) + a2)) t191 t192 t193 t194 t195 t196 _ ?side1 ?side2 A16.out).mono ?_); (case side1 => repeat (first | exact (Kd.C_below HR1.out HB.out) | (with_reducible refine Kd.C_alloc ?_ _) | (with_reducible refine Kd.C_drewN ?_ _) | (with_reducible refine Kd.C_drew ?_))); (case side2 => exact HC1.out); rintro e w18 ⟨rfl, hb⟩; refine ⟨_, rfl, ?_⟩; have n0_ := Aside0.mk (below_step (by repeat (first | (with_reducible first | exact HB.out | apply below_alloc | apply pw_below_drewN | apply below_drew1) | exact HB.out)) hb); clear HB; have HB := n0_; clear n0_; (try clear hb); (try clear hb2); (try clear hk); (try clear hi)) | ((with_reducible refine gate_dst (N := 12) rfl ?_); refine box_event ?hg (N := 12) ?hd (cs := #[.int .i64 0, .int .i64 0, .int .i64 0, .int .i64 0, .int .i64 0]) (t := 26) ?hr ?_; (case hd => rfl); (case hg => rfl); (case hr => first | (go_simp; done) | (go_simp; rfl)); intro gb197 hg w19 hbox hb; have n0_ := Aside0.mk (below_step (by repeat (first | (with_reducible first | exact HB.out | apply below_alloc | apply pw_below_drewN | apply below_drew1) | exact HB.out)) hb); have n1_ := Aside0.mk (hbox); have n2_ := Aside0.mk ((by rw [hg]; exact (below_size (by repeat (first | (with_reducible first | exact HB.out | apply below_alloc | apply pw_below_drewN | apply below_drew1) | exact HB.out))) : w.heap.size ≤ gb197)); have n3_ := Aside0.mk ((by rw [hg]; exact (below_size (by repeat (first | (with_reducible first | exact HB.out | apply below_alloc | apply pw_below_drewN | apply below_drew1) | exact HB.out))) : w.heap.size ≤ gb197)); clear HB; have HB := n0_; have BK197 := n1_; have GW197 := n2_; have GE197 := n3_; clear n0_ n1_ n2_ n3_; clear hb hbox hg; have hcz20_0 : w19.cell? ⟨gb197, 0, none⟩ = some (.int .i64 0) := (blk_cell BK197.out 0).trans rfl; have hcz20_1 : w19.cell? ⟨gb197, 1, none⟩ = some (.int .i64 0) := (blk_cell BK197.out 1).trans rfl; have hcz20_2 : w19.cell? ⟨gb197, 2, none⟩ = some (.int .i64 0) := (blk_cell BK197.out 2).trans rfl; have hcz20_3 : w19.cell? ⟨gb197, 3, none⟩ = some (.int .i64 0) := (blk_cell BK197.out 3).trans rfl; have hcz20_4 : w19.cell? ⟨gb197, 4, none⟩ = some (.int .i64 0) := (blk_cell BK197.out 4).trans rfl; have hfz20_0 := blk_frozen BK197.out 0; have hfz20_1 := blk_frozen BK197.out 1; have hfz20_2 := blk_frozen BK197.out 2; have hfz20_3 := blk_frozen BK197.out 3; have hfz20_4 := blk_frozen BK197.out 4))
           go_ret3
           exact ⟨by first | rfl | (simp [errW_none, errW_some] <;> rfl) | (simp [*, errW_none, errW_some] <;> rfl), by repeat (first | (with_reducible first | exact HB.out | apply below_alloc | apply pw_below_drewN | apply below_drew1 | refine below_set ?_ GE197.out) | exact HB.out)⟩
          ·rw [if_neg c17] at H
           have c17b0 : (t196 == 0) = false := beq_eq_false_iff_ne.mpr c17
           have c17b1 : (t196 != 0) = true := bne_iff_ne.mpr c17
           simp only [Option.some.injEq, Prod.mk.injEq] at H
           obtain ⟨rfl, rfl, rfl⟩ := H
           have p189 : 0 ≤ (x10_2 : Int) := of_decide_eq_true (by first | (with_reducible assumption) | assumption)
           have q189 : x10_2 < (l1.length : Int) := of_decide_eq_true (by first | (with_reducible assumption) | assumption)
           obtain ⟨ad189, e189, hx189_0, hx189_1, hx189_2⟩ := at_T36 HR1.out x10_2 p189 q189
           cases e189
           replace hx189_0 := (HB.out.cell (World.block_lt_of_cell? w _ hx189_0)).trans hx189_0
           replace hx189_1 := (HB.out.cell (World.block_lt_of_cell? w _ hx189_1)).trans hx189_1
           replace hx189_2 := (HB.out.cell (World.block_lt_of_cell? w _ hx189_2)).trans hx189_2
           replace p189 := eq_true p189
           replace q189 := eq_true q189
           have p190 : 0 ≤ (x10_2 : Int) := of_decide_eq_true (by first | (with_reducible assumption) | assumption)
           have q190 : x10_2 < (l1.length : Int) := of_decide_eq_true (by first | (with_reducible assumption) | assumption)
           obtain ⟨ad190, e190, hx190_0, hx190_1, hx190_2⟩ := at_T36 HR1.out x10_2 p190 q190
           obtain rfl : ad189 = ad190 := (by injection e190)
           replace hx190_0 := (HB.out.cell (World.block_lt_of_cell? w _ hx190_0)).trans hx190_0
           replace hx190_1 := (HB.out.cell (World.block_lt_of_cell? w _ hx190_1)).trans hx190_1
           replace hx190_2 := (HB.out.cell (World.block_lt_of_cell? w _ hx190_2)).trans hx190_2
           replace p190 := eq_true p190
           replace q190 := eq_true q190
           go_wp2_with (first | ((with_reducible refine gate_callee (f := 28) rfl ?_); refine goesL_ (some 59) rfl rfl Tryd.func28 (by kernel_rfl) rfl #[.int .i64 a0, .slice (some ad189) l1.length c1, .int .i64 (wrap64 (((rd_T36 l1 x10_2).f1) + a2))] rfl (by (try simp only [List.map_toArray, List.map_cons, List.map_nil]); first | done | rfl | (simp only [List.length_drop, List.length_take]; rfl)) ?_; (with_reducible refine (cohousingref32_state.calls k2 a0 _ _ l1 (wrap64 (((rd_T36 l1 x10_2).f1) + a2)) t191 t192 t193 t194 t195 t196 _ ?side1 ?side2 A16.out).mono ?_); (case side1 => repeat (first | exact (Kd.C_below HR1.out HB.out) | (with_reducible refine Kd.C_alloc ?_ _) | (with_reducible refine Kd.C_drewN ?_ _) | (with_reducible refine Kd.C_drew ?_))); (case side2 => exact HC1.out); rintro e w21 ⟨rfl, hb⟩; refine ⟨_, rfl, ?_⟩; have n0_ := Aside0.mk (below_step (by repeat (first | (with_reducible first | exact HB.out | apply below_alloc | apply pw_below_drewN | apply below_drew1) | exact HB.out)) hb); clear HB; have HB := n0_; clear n0_; (try clear hb); (try clear hb2); (try clear hk); (try clear hi)) | ((with_reducible refine gate_dst (N := 12) rfl ?_); refine box_event ?hg (N := 12) ?hd (cs := #[.int .i64 0, .int .i64 0, .int .i64 0, .int .i64 0, .int .i64 0]) (t := 26) ?hr ?_; (case hd => rfl); (case hg => rfl); (case hr => first | (go_simp; done) | (go_simp; rfl)); intro gb197 hg w22 hbox hb; have n0_ := Aside0.mk (below_step (by repeat (first | (with_reducible first | exact HB.out | apply below_alloc | apply pw_below_drewN | apply below_drew1) | exact HB.out)) hb); have n1_ := Aside0.mk (hbox); have n2_ := Aside0.mk ((by rw [hg]; exact (below_size (by repeat (first | (with_reducible first | exact HB.out | apply below_alloc | apply pw_below_drewN | apply below_drew1) | exact HB.out))) : w.heap.size ≤ gb197)); have n3_ := Aside0.mk ((by rw [hg]; exact (below_size (by repeat (first | (with_reducible first | exact HB.out | apply below_alloc | apply pw_below_drewN | apply below_drew1) | exact HB.out))) : w.heap.size ≤ gb197)); clear HB; have HB := n0_; have BK197 := n1_; have GW197 := n2_; have GE197 := n3_; clear n0_ n1_ n2_ n3_; clear hb hbox hg; have hcz23_0 : w22.cell? ⟨gb197, 0, none⟩ = some (.int .i64 0) := (blk_cell BK197.out 0).trans rfl; have hcz23_1 : w22.cell? ⟨gb197, 1, none⟩ = some (.int .i64 0) := (blk_cell BK197.out 1).trans rfl; have hcz23_2 : w22.cell? ⟨gb197, 2, none⟩ = some (.int .i64 0) := (blk_cell BK197.out 2).trans rfl; have hcz23_3 : w22.cell? ⟨gb197, 3, none⟩ = some (.int .i64 0) := (blk_cell BK197.out 3).trans rfl; have hcz23_4 : w22.cell? ⟨gb197, 4, none⟩ = some (.int .i64 0) := (blk_cell BK197.out 4).trans rfl; have hfz23_0 := blk_frozen BK197.out 0; have hfz23_1 := blk_frozen BK197.out 1; have hfz23_2 := blk_frozen BK197.out 2; have hfz23_3 := blk_frozen BK197.out 3; have hfz23_4 := blk_frozen BK197.out 4))
           go_ret3
           exact ⟨by first | rfl | (simp [errW_none, errW_some] <;> rfl) | (simp [*, errW_none, errW_some] <;> rfl), by repeat (first | (with_reducible first | exact HB.out | apply below_alloc | apply pw_below_drewN | apply below_drew1 | refine below_set ?_ GE197.out) | exact HB.out)⟩
        ·rw [if_neg c14] at H
         have c14b0 : (((rd_T36 l1 x10_2).f0) == 6) = false := beq_eq_false_iff_ne.mpr c14
         have c14b1 : (((rd_T36 l1 x10_2).f0) != 6) = true := bne_iff_ne.mpr c14
         have H' := Aside0.mk H
         clear H
         have p189 : 0 ≤ (x10_2 : Int) := of_decide_eq_true (by first | (with_reducible assumption) | assumption)
         have q189 : x10_2 < (l1.length : Int) := of_decide_eq_true (by first | (with_reducible assumption) | assumption)
         obtain ⟨ad189, e189, hx189_0, hx189_1, hx189_2⟩ := at_T36 HR1.out x10_2 p189 q189
         cases e189
         replace hx189_0 := (HB.out.cell (World.block_lt_of_cell? w _ hx189_0)).trans hx189_0
         replace hx189_1 := (HB.out.cell (World.block_lt_of_cell? w _ hx189_1)).trans hx189_1
         replace hx189_2 := (HB.out.cell (World.block_lt_of_cell? w _ hx189_2)).trans hx189_2
         replace p189 := eq_true p189
         replace q189 := eq_true q189
         go_wp2
         go_roundg k2
         case measure => have := HJ4.out; have := HK2.out; omega
         case rel => exact ⟨(wrap64 (x10_2 + 1)), (by first | rfl | (simp; done) | (simp [*]; done)), H', ⟨by have := HJ4.out; have := HK2.out; omega⟩, ⟨by repeat (first | (with_reducible first | exact HB.out | apply below_alloc | apply pw_below_drewN | apply below_drew1) | exact HB.out)⟩⟩
       ·rw [if_neg c13] at H
        exact absurd H (by simp)
      ·rw [if_neg c12] at H
       have c12b0 : decide (x10_2 < (l1.length : Int)) = false := decide_eq_false c12
       clear c12
       simp only [Option.some.injEq, Prod.mk.injEq] at H
       obtain ⟨rfl, rfl, rfl⟩ := H
       go_wp2
       go_ret3
       exact ⟨by first | rfl | (simp [errW_none, errW_some] <;> rfl) | (simp [*, errW_none, errW_some] <;> rfl), by repeat (first | (with_reducible first | exact HB.out | apply below_alloc | apply pw_below_drewN | apply below_drew1) | exact HB.out)⟩

end Go.Proofs.YtdhnojfpgpjabaaDoor.P
