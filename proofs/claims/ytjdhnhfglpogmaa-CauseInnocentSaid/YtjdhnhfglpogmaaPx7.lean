-- Written by a program of this session out of the translation (wip/pp: the kit's print, turned). Not trusted: Lean checks it.
import Derived.Test.YtjdhnhfglpogmaaPx0
import Derived.Test.YtjdhnhfglpogmaaPx3
import Derived.Test.YtjdhnhfglpogmaaPx5
import Derived.Test.YtjdhnhfglpogmaaPx6
namespace Go.Proofs.Ytjdhnhfglpogmaa.P
open Go.RowKit Go.Proofs.YtjdhnhfglpogmaaW.PrintWords Go.Proofs.YtjdhnhfglpogmaaW.PrintLast Go.Proofs.YtjdhnhfglpogmaaW.PrintMore
attribute [local go_sem] max2_int min2_int max_two min_two max_three min_three max_four min_four   -- for this text's walks alone
set_option linter.unusedVariables false
set_option linter.unusedSimpArgs false

/-! ### cohousingref36_Blame: function 22 -/
mutual
def cohousingref36_Blame.j0 : Nat → List (S44) → Int → List (List Bool) → Bool → Option (List Int × List Int × Int)
 | 0, _, _, _, _ => none
 | k + 1, x0, x3, x11, x37 => if x37 = true then (some (([] : List Int), ([] : List Int), 1)) else (if (x11.length : Int) = 0 then (some (([] : List Int), ([] : List Int), 4)) else (cohousingref36_Blame.l0 k x0 x3 x11 ([] : List Int) ([] : List Int) 1))
def cohousingref36_Blame.l0 : Nat → List (S44) → Int → List (List Bool) → List Int → List Int → Int → Option (List Int × List Int × Int)
 | 0, _, _, _, _, _, _ => none
 | k + 1, x0, x3, x11, x13, x14, x15 => if x15 ≤ 64 then (cohousingref36_Blame.l1 k x0 x3 x11 x13 x14 x15 0 0) else (some (x13, x14, 0))
def cohousingref36_Blame.l1 : Nat → List (S44) → Int → List (List Bool) → List Int → List Int → Int → Int → Int → Option (List Int × List Int × Int)
 | 0, _, _, _, _, _, _, _, _ => none
 | k + 1, x0, x3, x11, x13, x14, x15, x16, x17 => if x17 < (x11.length : Int) then ((cohousingref36_has.f k x0 x15).bind fun t202 => (cohousingref36_Blame.j3 k x0 x3 x11 x13 x14 x15 x16 x17 t202)) else (cohousingref36_Blame.j3 k x0 x3 x11 x13 x14 x15 x16 x17 false)
def cohousingref36_Blame.j3 : Nat → List (S44) → Int → List (List Bool) → List Int → List Int → Int → Int → Int → Bool → Option (List Int × List Int × Int)
 | 0, _, _, _, _, _, _, _, _, _ => none
 | k + 1, x0, x3, x11, x13, x14, x15, x16, x17, x53 => if x53 = true then (if 0 ≤ x17 then (if x17 < (x11.length : Int) then ((cohousingref36_run.f k x0 (rd_L3 x11 x17)).bind fun t204 => ((cohousingref36_Without.f k x0 (rd_L3 x11 x17) x15).bind fun t208 => ((cohousingref36_run.f k x0 t208).bind fun t211 => (if 0 ≤ x3 then (if x3 < (t204.length : Int) then (if rdOf false t204 x3 = true then (if x3 < (t211.length : Int) then (if rdOf false t211 x3 = true then (cohousingref36_Blame.l1 k x0 x3 x11 x13 x14 x15 x16 (wrap64 (x17 + 1))) else (cohousingref36_Blame.l1 k x0 x3 x11 x13 x14 x15 (wrap64 (x16 + 1)) (wrap64 (x17 + 1)))) else (none)) else (cohousingref36_Blame.l1 k x0 x3 x11 x13 x14 x15 x16 (wrap64 (x17 + 1)))) else (none)) else (none))))) else (none)) else (none)) else (if x16 = (x11.length : Int) then (if x13.length < 17592186044416 then ((some (x13 ++ [x15] : List Int)).bind fun y216 => (if x16 > 0 then (if x14.length < 17592186044416 then (cohousingref36_Blame.l0 k x0 x3 x11 y216 (x14 ++ [x15]) (wrap64 (x15 + 1))) else (none)) else (cohousingref36_Blame.l0 k x0 x3 x11 y216 x14 (wrap64 (x15 + 1))))) else (none)) else (if x16 > 0 then (if x14.length < 17592186044416 then (cohousingref36_Blame.l0 k x0 x3 x11 x13 (x14 ++ [x15]) (wrap64 (x15 + 1))) else (none)) else (cohousingref36_Blame.l0 k x0 x3 x11 x13 x14 (wrap64 (x15 + 1)))))
end
def cohousingref36_Blame.f (k : Nat) (l0 : List (S44)) (l1 : List (S48)) (a2 : Int) (a3 : Int) : Option (List Int × List Int × Int) := (cohousingref36_States.f k l0 l1 a2).bind fun bt198 => (if bt198.2 = 0 then (if a3 < 0 then (cohousingref36_Blame.j0 k l0 a3 bt198.1 true) else (cohousingref36_Blame.j0 k l0 a3 bt198.1 (decide (a3 ≥ (l0.length : Int))))) else (some (([] : List Int), ([] : List Int), bt198.2)))
theorem cohousingref36_Blame.mono_l : ∀ k, (∀ y0 y1 y2 y3, LeO (cohousingref36_Blame.j0 k y0 y1 y2 y3) (cohousingref36_Blame.j0 (k + 1) y0 y1 y2 y3)) ∧ (∀ y0 y1 y2 y3 y4 y5, LeO (cohousingref36_Blame.l0 k y0 y1 y2 y3 y4 y5) (cohousingref36_Blame.l0 (k + 1) y0 y1 y2 y3 y4 y5)) ∧ (∀ y0 y1 y2 y3 y4 y5 y6 y7, LeO (cohousingref36_Blame.l1 k y0 y1 y2 y3 y4 y5 y6 y7) (cohousingref36_Blame.l1 (k + 1) y0 y1 y2 y3 y4 y5 y6 y7)) ∧ (∀ y0 y1 y2 y3 y4 y5 y6 y7 y8, LeO (cohousingref36_Blame.j3 k y0 y1 y2 y3 y4 y5 y6 y7 y8) (cohousingref36_Blame.j3 (k + 1) y0 y1 y2 y3 y4 y5 y6 y7 y8))
 | 0 => ⟨fun _ _ _ _ r h => by simp [cohousingref36_Blame.j0] at h, fun _ _ _ _ _ _ r h => by simp [cohousingref36_Blame.l0] at h, fun _ _ _ _ _ _ _ _ r h => by simp [cohousingref36_Blame.l1] at h, fun _ _ _ _ _ _ _ _ _ r h => by simp [cohousingref36_Blame.j3] at h⟩
 | k + 1 => by
  obtain ⟨ih0, ih1, ih2, ih3⟩ := cohousingref36_Blame.mono_l k
  refine ⟨?_, ?_, ?_, ?_⟩
  ·intro y0 y1 y2 y3
   unfold cohousingref36_Blame.j0
   repeat' first
   | (with_reducible exact ih0 _ _ _ _)
   | (with_reducible exact ih1 _ _ _ _ _ _)
   | (with_reducible exact ih2 _ _ _ _ _ _ _ _)
   | (with_reducible exact ih3 _ _ _ _ _ _ _ _ _)
   | (with_reducible exact cohousingref36_States.mono _ _ _ _)
   | (with_reducible exact cohousingref36_Without.mono _ _ _ _)
   | (with_reducible exact cohousingref36_has.mono _ _ _)
   | (with_reducible exact cohousingref36_run.mono _ _ _)
   | (with_reducible exact LeO.refl _)
   | (with_reducible exact LeO.none _)
   | (with_reducible refine LeO.ite ?_ ?_)
   | (with_reducible refine LeO.bind ?_ (fun _ => ?_))
   | exact ih0 _ _ _ _
   | exact ih1 _ _ _ _ _ _
   | exact ih2 _ _ _ _ _ _ _ _
   | exact ih3 _ _ _ _ _ _ _ _ _
   | exact cohousingref36_States.mono _ _ _ _
   | exact cohousingref36_Without.mono _ _ _ _
   | exact cohousingref36_has.mono _ _ _
   | exact cohousingref36_run.mono _ _ _
   | exact LeO.none _
   | refine LeO.ite ?_ ?_
   | refine LeO.bind ?_ (fun _ => ?_)
  ·intro y0 y1 y2 y3 y4 y5
   unfold cohousingref36_Blame.l0
   repeat' first
   | (with_reducible exact ih0 _ _ _ _)
   | (with_reducible exact ih1 _ _ _ _ _ _)
   | (with_reducible exact ih2 _ _ _ _ _ _ _ _)
   | (with_reducible exact ih3 _ _ _ _ _ _ _ _ _)
   | (with_reducible exact cohousingref36_States.mono _ _ _ _)
   | (with_reducible exact cohousingref36_Without.mono _ _ _ _)
   | (with_reducible exact cohousingref36_has.mono _ _ _)
   | (with_reducible exact cohousingref36_run.mono _ _ _)
   | (with_reducible exact LeO.refl _)
   | (with_reducible exact LeO.none _)
   | (with_reducible refine LeO.ite ?_ ?_)
   | (with_reducible refine LeO.bind ?_ (fun _ => ?_))
   | exact ih0 _ _ _ _
   | exact ih1 _ _ _ _ _ _
   | exact ih2 _ _ _ _ _ _ _ _
   | exact ih3 _ _ _ _ _ _ _ _ _
   | exact cohousingref36_States.mono _ _ _ _
   | exact cohousingref36_Without.mono _ _ _ _
   | exact cohousingref36_has.mono _ _ _
   | exact cohousingref36_run.mono _ _ _
   | exact LeO.none _
   | refine LeO.ite ?_ ?_
   | refine LeO.bind ?_ (fun _ => ?_)
  ·intro y0 y1 y2 y3 y4 y5 y6 y7
   unfold cohousingref36_Blame.l1
   repeat' first
   | (with_reducible exact ih0 _ _ _ _)
   | (with_reducible exact ih1 _ _ _ _ _ _)
   | (with_reducible exact ih2 _ _ _ _ _ _ _ _)
   | (with_reducible exact ih3 _ _ _ _ _ _ _ _ _)
   | (with_reducible exact cohousingref36_States.mono _ _ _ _)
   | (with_reducible exact cohousingref36_Without.mono _ _ _ _)
   | (with_reducible exact cohousingref36_has.mono _ _ _)
   | (with_reducible exact cohousingref36_run.mono _ _ _)
   | (with_reducible exact LeO.refl _)
   | (with_reducible exact LeO.none _)
   | (with_reducible refine LeO.ite ?_ ?_)
   | (with_reducible refine LeO.bind ?_ (fun _ => ?_))
   | exact ih0 _ _ _ _
   | exact ih1 _ _ _ _ _ _
   | exact ih2 _ _ _ _ _ _ _ _
   | exact ih3 _ _ _ _ _ _ _ _ _
   | exact cohousingref36_States.mono _ _ _ _
   | exact cohousingref36_Without.mono _ _ _ _
   | exact cohousingref36_has.mono _ _ _
   | exact cohousingref36_run.mono _ _ _
   | exact LeO.none _
   | refine LeO.ite ?_ ?_
   | refine LeO.bind ?_ (fun _ => ?_)
  ·intro y0 y1 y2 y3 y4 y5 y6 y7 y8
   unfold cohousingref36_Blame.j3
   repeat' first
   | (with_reducible exact ih0 _ _ _ _)
   | (with_reducible exact ih1 _ _ _ _ _ _)
   | (with_reducible exact ih2 _ _ _ _ _ _ _ _)
   | (with_reducible exact ih3 _ _ _ _ _ _ _ _ _)
   | (with_reducible exact cohousingref36_States.mono _ _ _ _)
   | (with_reducible exact cohousingref36_Without.mono _ _ _ _)
   | (with_reducible exact cohousingref36_has.mono _ _ _)
   | (with_reducible exact cohousingref36_run.mono _ _ _)
   | (with_reducible exact LeO.refl _)
   | (with_reducible exact LeO.none _)
   | (with_reducible refine LeO.ite ?_ ?_)
   | (with_reducible refine LeO.bind ?_ (fun _ => ?_))
   | exact ih0 _ _ _ _
   | exact ih1 _ _ _ _ _ _
   | exact ih2 _ _ _ _ _ _ _ _
   | exact ih3 _ _ _ _ _ _ _ _ _
   | exact cohousingref36_States.mono _ _ _ _
   | exact cohousingref36_Without.mono _ _ _ _
   | exact cohousingref36_has.mono _ _ _
   | exact cohousingref36_run.mono _ _ _
   | exact LeO.none _
   | refine LeO.ite ?_ ?_
   | refine LeO.bind ?_ (fun _ => ?_)
theorem cohousingref36_Blame.mono : ∀ a0 a1 a2 a3 k, LeO (cohousingref36_Blame.f k a0 a1 a2 a3) (cohousingref36_Blame.f (k + 1) a0 a1 a2 a3) := by
 intro a0 a1 a2 a3 k
 obtain ⟨ih0, ih1, ih2, ih3⟩ := cohousingref36_Blame.mono_l k
 unfold cohousingref36_Blame.f
 repeat' first
   | (with_reducible exact ih0 _ _ _ _)
   | (with_reducible exact ih1 _ _ _ _ _ _)
   | (with_reducible exact ih2 _ _ _ _ _ _ _ _)
   | (with_reducible exact ih3 _ _ _ _ _ _ _ _ _)
   | (with_reducible exact cohousingref36_States.mono _ _ _ _)
   | (with_reducible exact cohousingref36_Without.mono _ _ _ _)
   | (with_reducible exact cohousingref36_has.mono _ _ _)
   | (with_reducible exact cohousingref36_run.mono _ _ _)
   | (with_reducible exact LeO.refl _)
   | (with_reducible exact LeO.none _)
   | (with_reducible refine LeO.ite ?_ ?_)
   | (with_reducible refine LeO.bind ?_ (fun _ => ?_))
   | exact ih0 _ _ _ _
   | exact ih1 _ _ _ _ _ _
   | exact ih2 _ _ _ _ _ _ _ _
   | exact ih3 _ _ _ _ _ _ _ _ _
   | exact cohousingref36_States.mono _ _ _ _
   | exact cohousingref36_Without.mono _ _ _ _
   | exact cohousingref36_has.mono _ _ _
   | exact cohousingref36_run.mono _ _ _
   | exact LeO.none _
   | refine LeO.ite ?_ ?_
   | refine LeO.bind ?_ (fun _ => ?_)
set_option maxHeartbeats 8000000 in
set_option maxRecDepth 100000 in
theorem cohousingref36_Blame.calls (k : Nat) (A0 : Option Addr) (c0 : Nat) (l0 : List (S44)) (A1 : Option Addr) (c1 : Nat) (l1 : List (S48)) (a2 : Int) (a3 : Int) (r1 : List Int) (r2 : List Int) (r3 : Int) (w : World) (hr0 : Kd.C k44 w A0 l0.length l0) (hc0 : l0.length ≤ c0) (hr1 : Kd.C k48 w A1 l1.length l1) (hc1 : l1.length ≤ c1) (h : cohousingref36_Blame.f k l0 l1 a2 a3 = some (r1, r2, r3)) :
  Calls Try.prog 22 #[.slice A0 l0.length c0, .slice A1 l1.length c1, .int .i64 a2, .int .i64 a3] w fun e w' => ∃ v0_ v1_ : Value, e = .returned (.tuple #[v0_, v1_, .int .i64 r3]) ∧ Kd.R (Kd.int .i64) 3 w' w.heap.size (fun k_ => some k_ ≠ (v1_ : Value).ownBlock) v0_ r1 ∧ Kd.R (Kd.int .i64) 3 w' w.heap.size (fun k_ => some k_ ≠ (v0_ : Value).ownBlock) v1_ r2 ∧ Below w.heap.size w w' := by
 have HR0 := Aside0.mk hr0
 have HC0 := Aside0.mk hc0
 clear hr0 hc0
 have HR1 := Aside0.mk hr1
 have HC1 := Aside0.mk hc1
 clear hr1 hc1
 have HB := Aside0.mk (Below.refl w.heap.size w)
 have H : ((cohousingref36_States.f k l0 l1 a2).bind fun bt198 => (if bt198.2 = 0 then (if a3 < 0 then (cohousingref36_Blame.j0 k l0 a3 bt198.1 true) else (cohousingref36_Blame.j0 k l0 a3 bt198.1 (decide (a3 ≥ (l0.length : Int))))) else (some (([] : List Int), ([] : List Int), bt198.2)))) = some (r1, r2, r3) := h
 clear h
 replace H := Option.bind_eq_some_iff.mp H
 obtain ⟨⟨t198, t199⟩, A50, H⟩ := H
 replace H : (if t199 = 0 then (if a3 < 0 then (cohousingref36_Blame.j0 k l0 a3 t198 true) else (cohousingref36_Blame.j0 k l0 a3 t198 (decide (a3 ≥ (l0.length : Int))))) else (some (([] : List Int), ([] : List Int), t199))) = some (r1, r2, r3) := H
 have A5 := Aside0.mk A50
 clear A50
 by_cases c6 : t199 = 0
 ·rw [if_pos c6] at H
  have c6b0 : (t199 == 0) = true := beq_iff_eq.mpr c6
  have c6b1 : (t199 != 0) = false := bne_eq_false_iff_eq.mpr c6
  clear c6
  have HC7 := Aside0.mk H
  clear H
  go_enter Try.func22, Try.ntmps22
  go_upto_region 4 with (first | ((with_reducible refine gate_callee (f := 19) rfl ?_); refine goesL_ (some 24) rfl rfl Try.func19 (by kernel_rfl) rfl #[.slice A0 l0.length c0, .slice A1 l1.length c1, .int .i64 a2] rfl (by (try simp only [List.map_toArray, List.map_cons, List.map_nil]); first | done | rfl | (simp only [List.length_drop, List.length_take]; rfl)) ?_; (with_reducible refine (cohousingref36_States.calls k _ _ l0 _ _ l1 a2 t198 t199 _ ?side1 ?side2 ?side3 ?side4 A5.out).mono ?_); (case side1 => repeat (first | exact HR0.out | (with_reducible refine Kd.C_alloc ?_ _) | (with_reducible refine Kd.C_drewN ?_ _) | (with_reducible refine Kd.C_drew ?_))); (case side2 => exact HC0.out); (case side3 => repeat (first | exact HR1.out | (with_reducible refine Kd.C_alloc ?_ _) | (with_reducible refine Kd.C_drewN ?_ _) | (with_reducible refine Kd.C_drew ?_))); (case side4 => exact HC1.out); rintro e w8 ⟨v200, rfl, ho0, hb⟩; refine ⟨_, rfl, ?_⟩; have n0_ := Aside0.mk (Kd.S_lower ho0 (below_size (by repeat (first | (with_reducible first | exact HB.out | apply below_alloc | apply pw_below_drewN | apply below_drew1) | exact HB.out)))); have n1_ := Aside0.mk (below_step (by repeat (first | (with_reducible first | exact HB.out | apply below_alloc | apply pw_below_drewN | apply below_drew1) | exact HB.out)) hb); clear HB; have HO201 := n0_; have HB := n1_; clear n0_ n1_; (try clear hb); (try clear hb2); (try clear hk); (try clear hi); (try clear ho0)))
  (try simp only [Act.put, List.setIfInBounds_toArray, List.set_cons_zero, List.set_cons_succ])
  go_cut [37] (fun v37 wc => ∃ (kq : Nat) (x37_6 : Bool), v37 = .bool x37_6 ∧ Aside0 (cohousingref36_Blame.j0 kq l0 a3 t198 x37_6 = some (r1, r2, r3)) ∧ Aside0 (kq ≤ k) ∧ Aside0 (Kd.S (Kd.slice 4 Kd.bool) 23 wc w.heap.size (fun _ => True) v200 t198) ∧ Aside0 (Below w.heap.size w wc))
  case first =>
   have H := HC7.out
   clear HC7
   by_cases c9 : a3 < 0
   ·rw [if_pos c9] at H
    have c9b0 : decide (a3 < 0) = true := decide_eq_true c9
    clear c9
    (first | rw [c9b0] | (simp only [i64_w, i32_w]; rw [c9b0]) | skip)
    have H' := Aside0.mk H
    clear H
    go_wp2
    go_meet
    case rel => exact ⟨_, (true), (by first | rfl | (simp; done) | (simp [*]; done)), H', ⟨by first | omega | exact Nat.le_refl _⟩, ⟨by (with_reducible repeat (first | apply Kd.S_alloc | apply Kd.S_drewN | apply Kd.S_drew)); exact HO201.out⟩, ⟨by repeat (first | (with_reducible first | exact HB.out | apply below_alloc | apply pw_below_drewN | apply below_drew1) | exact HB.out)⟩⟩
   ·rw [if_neg c9] at H
    have c9b0 : decide (a3 < 0) = false := decide_eq_false c9
    clear c9
    (first | rw [c9b0] | (simp only [i64_w, i32_w]; rw [c9b0]) | skip)
    have H' := Aside0.mk H
    clear H
    go_wp2
    go_meet
    case rel => exact ⟨_, (decide (a3 ≥ (l0.length : Int))), (by first | rfl | (simp; done) | (simp [*]; done)), H', ⟨by first | omega | exact Nat.le_refl _⟩, ⟨by (with_reducible repeat (first | apply Kd.S_alloc | apply Kd.S_drewN | apply Kd.S_drew)); exact HO201.out⟩, ⟨by repeat (first | (with_reducible first | exact HB.out | apply below_alloc | apply pw_below_drewN | apply below_drew1) | exact HB.out)⟩⟩
  case rest =>
   clear HC7
   try clear c1
   try clear c2
   try clear p2
   try clear c6
   try clear c6b0
   try clear c6b1
   try clear c9
   try clear c9b0
   obtain ⟨kq, x37_6, rfl, HA, HJ6, HO_11, HB⟩ := hcut
   cases kq with
   | zero => exact absurd HA.out (by simp [cohousingref36_Blame.j0])
   | succ kj6 =>
    have H := HA.out
    clear HA
    simp only [cohousingref36_Blame.j0] at H
    by_cases c10 : x37_6 = true
    ·subst c10
     have H1 : (some (([] : List Int), ([] : List Int), 1)) = some (r1, r2, r3) := by rw [if_pos rfl] at H; exact H
     clear H
     have H := H1
     clear H1
     simp only [Option.some.injEq, Prod.mk.injEq] at H
     obtain ⟨rfl, rfl, rfl⟩ := H
     go_wp2
     go_ret3
     exact ⟨_, _, by first | rfl | (simp [errW_none, errW_some] <;> rfl) | (simp [*, errW_none, errW_some] <;> rfl), by first | exact Kd.R_nil _ _ _ _ _ | exact Kd.N_nil _ _ _ _ _ | exact Kd.V_nil _ _ _ _ _ | exact Kd.Q_nil _ _ _ _ _ | exact Kd.S_nil _ _ _ _ _, by first | exact Kd.R_nil _ _ _ _ _ | exact Kd.N_nil _ _ _ _ _ | exact Kd.V_nil _ _ _ _ _ | exact Kd.Q_nil _ _ _ _ _ | exact Kd.S_nil _ _ _ _ _, by repeat (first | (with_reducible first | exact HB.out | apply below_alloc | apply pw_below_drewN | apply below_drew1) | exact HB.out)⟩
    ·replace c10 := Bool.eq_false_iff.mpr c10
     subst c10
     have H1 : (if (t198.length : Int) = 0 then (some (([] : List Int), ([] : List Int), 4)) else (cohousingref36_Blame.l0 kj6 l0 a3 t198 ([] : List Int) ([] : List Int) 1)) = some (r1, r2, r3) := by rw [if_neg (show ¬ (false = true) by decide)] at H; exact H
     clear H
     have H := H1
     clear H1
     by_cases c11 : (t198.length : Int) = 0
     ·rw [if_pos c11] at H
      have c11b0 : ((t198.length : Int) == 0) = true := beq_iff_eq.mpr c11
      have c11b1 : ((t198.length : Int) != 0) = false := bne_eq_false_iff_eq.mpr c11
      clear c11
      simp only [Option.some.injEq, Prod.mk.injEq] at H
      obtain ⟨rfl, rfl, rfl⟩ := H
      obtain ⟨Ao12, co12, eo12⟩ := Kd.S_slice HO_11.out
      subst eo12
      go_wp2
      go_ret3
      exact ⟨_, _, by first | rfl | (simp [errW_none, errW_some] <;> rfl) | (simp [*, errW_none, errW_some] <;> rfl), by first | exact Kd.R_nil _ _ _ _ _ | exact Kd.N_nil _ _ _ _ _ | exact Kd.V_nil _ _ _ _ _ | exact Kd.Q_nil _ _ _ _ _ | exact Kd.S_nil _ _ _ _ _, by first | exact Kd.R_nil _ _ _ _ _ | exact Kd.N_nil _ _ _ _ _ | exact Kd.V_nil _ _ _ _ _ | exact Kd.Q_nil _ _ _ _ _ | exact Kd.S_nil _ _ _ _ _, by repeat (first | (with_reducible first | exact HB.out | apply below_alloc | apply pw_below_drewN | apply below_drew1) | exact HB.out)⟩
     ·rw [if_neg c11] at H
      have c11b0 : ((t198.length : Int) == 0) = false := beq_eq_false_iff_ne.mpr c11
      have c11b1 : ((t198.length : Int) != 0) = true := bne_iff_ne.mpr c11
      have c11b2 : ¬ (t198 = []) := fun h_ => c11 (by rw [h_]; rfl)
      have H' := Aside0.mk H
      clear H
      obtain ⟨Ao13, co13, eo13⟩ := Kd.S_slice HO_11.out
      subst eo13
      go_wp2
      go_loopg [13, 14, 15] kj6 (fun kq v13 v14 v15 w' => ∃ (x13_2 : List Int) (x14_2 : List Int) (x15_2 : Int), v15 = .int .i64 x15_2 ∧ Aside0 (cohousingref36_Blame.l0 kq l0 a3 t198 x13_2 x14_2 x15_2 = some (r1, r2, r3)) ∧ Aside0 (kq ≤ kj6) ∧ Aside0 (Kd.S (Kd.slice 4 Kd.bool) 23 w' w.heap.size (fun _ => True) (.slice Ao13 t198.length co13) t198) ∧ Aside0 (Kd.R (Kd.int .i64) 3 w' w.heap.size (fun k_ => some k_ ≠ (v14 : Value).ownBlock) v13 x13_2) ∧ Aside0 (Kd.R (Kd.int .i64) 3 w' w.heap.size (fun k_ => some k_ ≠ (v13 : Value).ownBlock) v14 x14_2) ∧ Aside0 (Below w.heap.size w w'))
      case atStart => exact ⟨(([] : List Int)), (([] : List Int)), (1), (by first | rfl | (simp; done) | (simp [*]; done)), H', ⟨Nat.le_refl _⟩, ⟨by (with_reducible repeat (first | apply Kd.S_alloc | apply Kd.S_drewN | apply Kd.S_drew)); exact HO_11.out⟩, ⟨by first | exact Kd.R_nil _ _ _ _ _ | exact Kd.N_nil _ _ _ _ _ | exact Kd.V_nil _ _ _ _ _ | exact Kd.Q_nil _ _ _ _ _ | exact Kd.S_nil _ _ _ _ _⟩, ⟨by first | exact Kd.R_nil _ _ _ _ _ | exact Kd.N_nil _ _ _ _ _ | exact Kd.V_nil _ _ _ _ _ | exact Kd.Q_nil _ _ _ _ _ | exact Kd.S_nil _ _ _ _ _⟩, ⟨by repeat (first | (with_reducible first | exact HB.out | apply below_alloc | apply pw_below_drewN | apply below_drew1) | exact HB.out)⟩⟩
      case round =>
       clear H'
       try clear c1
       try clear c2
       try clear p2
       try clear c6
       try clear c6b0
       try clear c6b1
       try clear c9
       try clear c9b0
       try clear c10
       try clear c11
       try clear c11b0
       try clear c11b1
       try clear c11b2
       try clear p2
       obtain ⟨x13_2, x14_2, x15_2, rfl, HA, HK2, HO_11, HO_13, HO_14, HB⟩ := hrel
       cases gk with
       | zero => exact absurd HA.out (by simp [cohousingref36_Blame.l0])
       | succ k2 =>
        have H := HA.out
        clear HA
        simp only [cohousingref36_Blame.l0] at H
        by_cases c14 : x15_2 ≤ 64
        ·rw [if_pos c14] at H
         have c14b0 : decide (x15_2 ≤ 64) = true := decide_eq_true c14
         clear c14
         have H' := Aside0.mk H
         clear H
         go_wp2
         go_loopg [16, 17] k2 (fun kq v16 v17 w' => ∃ (x16_3 : Int) (x17_3 : Int), v16 = .int .i64 x16_3 ∧ v17 = .int .i64 x17_3 ∧ Aside0 (cohousingref36_Blame.l1 kq l0 a3 t198 x13_2 x14_2 x15_2 x16_3 x17_3 = some (r1, r2, r3)) ∧ Aside0 (kq ≤ k2) ∧ Aside0 (Kd.S (Kd.slice 4 Kd.bool) 23 w' w.heap.size (fun _ => True) (.slice Ao13 t198.length co13) t198) ∧ Aside0 (Kd.R (Kd.int .i64) 3 w' w.heap.size (fun k_ => some k_ ≠ (u14 : Value).ownBlock) u13 x13_2) ∧ Aside0 (Kd.R (Kd.int .i64) 3 w' w.heap.size (fun k_ => some k_ ≠ (u13 : Value).ownBlock) u14 x14_2) ∧ Aside0 (Below w.heap.size w w'))
         case atStart => exact ⟨(0), (0), (by first | rfl | (simp; done) | (simp [*]; done)), (by first | rfl | (simp; done) | (simp [*]; done)), H', ⟨Nat.le_refl _⟩, ⟨by (with_reducible repeat (first | apply Kd.S_alloc | apply Kd.S_drewN | apply Kd.S_drew)); exact HO_11.out⟩, ⟨by (with_reducible repeat (first | apply Kd.R_alloc | apply Kd.R_drewN | apply Kd.R_drew)); exact HO_13.out⟩, ⟨by (with_reducible repeat (first | apply Kd.R_alloc | apply Kd.R_drewN | apply Kd.R_drew)); exact HO_14.out⟩, ⟨by repeat (first | (with_reducible first | exact HB.out | apply below_alloc | apply pw_below_drewN | apply below_drew1) | exact HB.out)⟩⟩
         case round =>
          clear H'
          try clear c1
          try clear c2
          try clear p2
          try clear c6
          try clear c6b0
          try clear c6b1
          try clear c9
          try clear c9b0
          try clear c10
          try clear c11
          try clear c11b0
          try clear c11b1
          try clear c11b2
          try clear c14
          try clear c14b0
          try clear p2
          obtain ⟨x16_3, x17_3, rfl, rfl, HA, HK3, HO_11, HO_13, HO_14, HB⟩ := hrel
          cases gk with
          | zero => exact absurd HA.out (by simp [cohousingref36_Blame.l1])
          | succ k3 =>
           have H := HA.out
           clear HA
           simp only [cohousingref36_Blame.l1] at H
           have HC15 := Aside0.mk H
           clear H
           go_upto_region 15 with (fail)
           go_cut [53] (fun v53 wc => ∃ (kq : Nat) (x53_14 : Bool), v53 = .bool x53_14 ∧ Aside0 (cohousingref36_Blame.j3 kq l0 a3 t198 x13_2 x14_2 x15_2 x16_3 x17_3 x53_14 = some (r1, r2, r3)) ∧ Aside0 (kq ≤ k3) ∧ Aside0 (Kd.S (Kd.slice 4 Kd.bool) 23 wc w.heap.size (fun _ => True) (.slice Ao13 t198.length co13) t198) ∧ Aside0 (Kd.R (Kd.int .i64) 3 wc w.heap.size (fun k_ => some k_ ≠ (u14 : Value).ownBlock) u13 x13_2) ∧ Aside0 (Kd.R (Kd.int .i64) 3 wc w.heap.size (fun k_ => some k_ ≠ (u13 : Value).ownBlock) u14 x14_2) ∧ Aside0 (Below w.heap.size w wc))
           case first =>
            have H := HC15.out
            clear HC15
            by_cases c16 : x17_3 < (t198.length : Int)
            ·rw [if_pos c16] at H
             have c16b0 : decide (x17_3 < (t198.length : Int)) = true := decide_eq_true c16
             clear c16
             (first | rw [c16b0] | (simp only [i64_w, i32_w]; rw [c16b0]) | skip)
             replace H := Option.bind_eq_some_iff.mp H
             obtain ⟨t202, A170, H⟩ := H
             replace H : (cohousingref36_Blame.j3 k3 l0 a3 t198 x13_2 x14_2 x15_2 x16_3 x17_3 t202) = some (r1, r2, r3) := H
             have A17 := Aside0.mk A170
             clear A170
             have H' := Aside0.mk H
             clear H
             go_wp2_with (first | (go_at_call 44; (with_reducible refine (cohousingref36_has.calls k3 _ _ l0 x15_2 t202 _ ?side1 ?side2 A17.out).mono ?_); (case side1 => repeat (first | exact (Kd.C_below HR0.out HB.out) | (with_reducible refine Kd.C_alloc ?_ _) | (with_reducible refine Kd.C_drewN ?_ _) | (with_reducible refine Kd.C_drew ?_))); (case side2 => exact HC0.out); rintro e w' ⟨rfl, ⟨nd, rfl⟩⟩))
             go_meet
             case rel => exact ⟨_, (t202), (by first | rfl | (simp; done) | (simp [*]; done)), H', ⟨by have := HJ6.out; have := HK2.out; have := HK3.out; first | omega | exact Nat.le_refl _⟩, ⟨by (with_reducible repeat (first | apply Kd.S_alloc | apply Kd.S_drewN | apply Kd.S_drew)); exact HO_11.out⟩, ⟨by (with_reducible repeat (first | apply Kd.R_alloc | apply Kd.R_drewN | apply Kd.R_drew)); exact HO_13.out⟩, ⟨by (with_reducible repeat (first | apply Kd.R_alloc | apply Kd.R_drewN | apply Kd.R_drew)); exact HO_14.out⟩, ⟨by repeat (first | (with_reducible first | exact HB.out | apply below_alloc | apply pw_below_drewN | apply below_drew1) | exact HB.out)⟩⟩
            ·rw [if_neg c16] at H
             have c16b0 : decide (x17_3 < (t198.length : Int)) = false := decide_eq_false c16
             clear c16
             (first | rw [c16b0] | (simp only [i64_w, i32_w]; rw [c16b0]) | skip)
             have H' := Aside0.mk H
             clear H
             go_wp2
             go_meet
             case rel => exact ⟨_, (false), (by first | rfl | (simp; done) | (simp [*]; done)), H', ⟨by have := HJ6.out; have := HK2.out; have := HK3.out; first | omega | exact Nat.le_refl _⟩, ⟨by (with_reducible repeat (first | apply Kd.S_alloc | apply Kd.S_drewN | apply Kd.S_drew)); exact HO_11.out⟩, ⟨by (with_reducible repeat (first | apply Kd.R_alloc | apply Kd.R_drewN | apply Kd.R_drew)); exact HO_13.out⟩, ⟨by (with_reducible repeat (first | apply Kd.R_alloc | apply Kd.R_drewN | apply Kd.R_drew)); exact HO_14.out⟩, ⟨by repeat (first | (with_reducible first | exact HB.out | apply below_alloc | apply pw_below_drewN | apply below_drew1) | exact HB.out)⟩⟩
           case rest =>
            clear HC15
            try clear c1
            try clear c2
            try clear p2
            try clear c6
            try clear c6b0
            try clear c6b1
            try clear c9
            try clear c9b0
            try clear c10
            try clear c11
            try clear c11b0
            try clear c11b1
            try clear c11b2
            try clear c14
            try clear c14b0
            try clear c16
            try clear c16b0
            try clear p2
            obtain ⟨kq, x53_14, rfl, HA, HJ14, HO_11, HO_13, HO_14, HB⟩ := hcut
            cases kq with
            | zero => exact absurd HA.out (by simp [cohousingref36_Blame.j3])
            | succ kj14 =>
             have H := HA.out
             clear HA
             simp only [cohousingref36_Blame.j3] at H
             by_cases c18 : x53_14 = true
             ·subst c18
              have H1 : (if 0 ≤ x17_3 then (if x17_3 < (t198.length : Int) then ((cohousingref36_run.f kj14 l0 (rd_L3 t198 x17_3)).bind fun t204 => ((cohousingref36_Without.f kj14 l0 (rd_L3 t198 x17_3) x15_2).bind fun t208 => ((cohousingref36_run.f kj14 l0 t208).bind fun t211 => (if 0 ≤ a3 then (if a3 < (t204.length : Int) then (if rdOf false t204 a3 = true then (if a3 < (t211.length : Int) then (if rdOf false t211 a3 = true then (cohousingref36_Blame.l1 kj14 l0 a3 t198 x13_2 x14_2 x15_2 x16_3 (wrap64 (x17_3 + 1))) else (cohousingref36_Blame.l1 kj14 l0 a3 t198 x13_2 x14_2 x15_2 (wrap64 (x16_3 + 1)) (wrap64 (x17_3 + 1)))) else (none)) else (cohousingref36_Blame.l1 kj14 l0 a3 t198 x13_2 x14_2 x15_2 x16_3 (wrap64 (x17_3 + 1)))) else (none)) else (none))))) else (none)) else (none)) = some (r1, r2, r3) := by rw [if_pos rfl] at H; exact H
              clear H
              have H := H1
              clear H1
              by_cases c19 : 0 ≤ x17_3
              ·rw [if_pos c19] at H
               have c19b0 : decide (0 ≤ x17_3) = true := decide_eq_true c19
               clear c19
               by_cases c20 : x17_3 < (t198.length : Int)
               ·rw [if_pos c20] at H
                have c20b0 : decide (x17_3 < (t198.length : Int)) = true := decide_eq_true c20
                clear c20
                replace H := Option.bind_eq_some_iff.mp H
                obtain ⟨t204, A210, H⟩ := H
                replace H : ((cohousingref36_Without.f kj14 l0 (rd_L3 t198 x17_3) x15_2).bind fun t208 => ((cohousingref36_run.f kj14 l0 t208).bind fun t211 => (if 0 ≤ a3 then (if a3 < (t204.length : Int) then (if rdOf false t204 a3 = true then (if a3 < (t211.length : Int) then (if rdOf false t211 a3 = true then (cohousingref36_Blame.l1 kj14 l0 a3 t198 x13_2 x14_2 x15_2 x16_3 (wrap64 (x17_3 + 1))) else (cohousingref36_Blame.l1 kj14 l0 a3 t198 x13_2 x14_2 x15_2 (wrap64 (x16_3 + 1)) (wrap64 (x17_3 + 1)))) else (none)) else (cohousingref36_Blame.l1 kj14 l0 a3 t198 x13_2 x14_2 x15_2 x16_3 (wrap64 (x17_3 + 1)))) else (none)) else (none)))) = some (r1, r2, r3) := H
                have A21 := Aside0.mk A210
                clear A210
                replace H := Option.bind_eq_some_iff.mp H
                obtain ⟨t208, A220, H⟩ := H
                replace H : ((cohousingref36_run.f kj14 l0 t208).bind fun t211 => (if 0 ≤ a3 then (if a3 < (t204.length : Int) then (if rdOf false t204 a3 = true then (if a3 < (t211.length : Int) then (if rdOf false t211 a3 = true then (cohousingref36_Blame.l1 kj14 l0 a3 t198 x13_2 x14_2 x15_2 x16_3 (wrap64 (x17_3 + 1))) else (cohousingref36_Blame.l1 kj14 l0 a3 t198 x13_2 x14_2 x15_2 (wrap64 (x16_3 + 1)) (wrap64 (x17_3 + 1)))) else (none)) else (cohousingref36_Blame.l1 kj14 l0 a3 t198 x13_2 x14_2 x15_2 x16_3 (wrap64 (x17_3 + 1)))) else (none)) else (none))) = some (r1, r2, r3) := H
                have A22 := Aside0.mk A220
                clear A220
                replace H := Option.bind_eq_some_iff.mp H
                obtain ⟨t211, A230, H⟩ := H
                replace H : (if 0 ≤ a3 then (if a3 < (t204.length : Int) then (if rdOf false t204 a3 = true then (if a3 < (t211.length : Int) then (if rdOf false t211 a3 = true then (cohousingref36_Blame.l1 kj14 l0 a3 t198 x13_2 x14_2 x15_2 x16_3 (wrap64 (x17_3 + 1))) else (cohousingref36_Blame.l1 kj14 l0 a3 t198 x13_2 x14_2 x15_2 (wrap64 (x16_3 + 1)) (wrap64 (x17_3 + 1)))) else (none)) else (cohousingref36_Blame.l1 kj14 l0 a3 t198 x13_2 x14_2 x15_2 x16_3 (wrap64 (x17_3 + 1)))) else (none)) else (none)) = some (r1, r2, r3) := H
                have A23 := Aside0.mk A230
                clear A230
                by_cases c24 : 0 ≤ a3
                ·rw [if_pos c24] at H
                 have c24b0 : decide (0 ≤ a3) = true := decide_eq_true c24
                 clear c24
                 by_cases c25 : a3 < (t204.length : Int)
                 ·rw [if_pos c25] at H
                  have c25b0 : decide (a3 < (t204.length : Int)) = true := decide_eq_true c25
                  clear c25
                  obtain ⟨bq26, hbq26⟩ : ∃ b_ : Bool, b_ = (rdOf false t204 a3) := ⟨_, rfl⟩
                  replace H : (if bq26 = true then (if a3 < (t211.length : Int) then (if rdOf false t211 a3 = true then (cohousingref36_Blame.l1 kj14 l0 a3 t198 x13_2 x14_2 x15_2 x16_3 (wrap64 (x17_3 + 1))) else (cohousingref36_Blame.l1 kj14 l0 a3 t198 x13_2 x14_2 x15_2 (wrap64 (x16_3 + 1)) (wrap64 (x17_3 + 1)))) else (none)) else (cohousingref36_Blame.l1 kj14 l0 a3 t198 x13_2 x14_2 x15_2 x16_3 (wrap64 (x17_3 + 1)))) = some (r1, r2, r3) := by rw [← hbq26] at H; exact H
                  have Nbq26 := Aside0.mk hbq26
                  clear hbq26
                  by_cases c27 : bq26 = true
                  ·subst c27
                   have H1 : (if a3 < (t211.length : Int) then (if rdOf false t211 a3 = true then (cohousingref36_Blame.l1 kj14 l0 a3 t198 x13_2 x14_2 x15_2 x16_3 (wrap64 (x17_3 + 1))) else (cohousingref36_Blame.l1 kj14 l0 a3 t198 x13_2 x14_2 x15_2 (wrap64 (x16_3 + 1)) (wrap64 (x17_3 + 1)))) else (none)) = some (r1, r2, r3) := by rw [if_pos rfl] at H; exact H
                   clear H
                   have H := H1
                   clear H1
                   by_cases c28 : a3 < (t211.length : Int)
                   ·rw [if_pos c28] at H
                    have c28b0 : decide (a3 < (t211.length : Int)) = true := decide_eq_true c28
                    clear c28
                    obtain ⟨bq29, hbq29⟩ : ∃ b_ : Bool, b_ = (rdOf false t211 a3) := ⟨_, rfl⟩
                    replace H : (if bq29 = true then (cohousingref36_Blame.l1 kj14 l0 a3 t198 x13_2 x14_2 x15_2 x16_3 (wrap64 (x17_3 + 1))) else (cohousingref36_Blame.l1 kj14 l0 a3 t198 x13_2 x14_2 x15_2 (wrap64 (x16_3 + 1)) (wrap64 (x17_3 + 1)))) = some (r1, r2, r3) := by rw [← hbq29] at H; exact H
                    have Nbq29 := Aside0.mk hbq29
                    clear hbq29
                    by_cases c30 : bq29 = true
                    ·subst c30
                     have H1 : (cohousingref36_Blame.l1 kj14 l0 a3 t198 x13_2 x14_2 x15_2 x16_3 (wrap64 (x17_3 + 1))) = some (r1, r2, r3) := by rw [if_pos rfl] at H; exact H
                     clear H
                     have H := H1
                     clear H1
                     have H' := Aside0.mk H
                     clear H
                     have p203 : 0 ≤ (x17_3 : Int) := of_decide_eq_true (by first | (with_reducible assumption) | assumption)
                     have q203 : x17_3 < (t198.length : Int) := of_decide_eq_true (by first | (with_reducible assumption) | assumption)
                     obtain ⟨ad203, A203_0, c203_0, e203, hx203_0, hl203_0, hi203_0⟩ := at_L3 (Kd.S_reads' HO_11.out).2.2 x17_3 p203 q203
                     cases e203
                     obtain ⟨ce203, hce203, hMe203, hcc203⟩ := Kd.S_get HO_11.out [] x17_3 p203 (by first | exact q203 | exact of_decide_eq_true (by first | (with_reducible assumption) | assumption) | (have e_ := (Kd.S_reads' HO_11.out).1; omega))
                     obtain ⟨ve203_0, rfl, ge203_0⟩ := hMe203
                     have hv203_0 := hcc203 0 _ rfl
                     rw [Nat.add_zero, show ((Kd.slice 4 Kd.bool)).sz = 1 from rfl, Nat.mul_one] at hv203_0
                     replace hv203_0 := Option.some.inj (hv203_0.symm.trans hx203_0)
                     rw [hv203_0] at ge203_0
                     have HL203_0 := Aside0.mk (show Kd.R Kd.bool 4 _ _ _ _ (rd_L3 t198 x17_3) from ge203_0)
                     clear hv203_0 ge203_0
                     clear hcc203 hce203
                     have HR203_0 := Aside0.mk hi203_0
                     have HC203_0 := Aside0.mk hl203_0
                     clear hi203_0 hl203_0
                     replace p203 := eq_true p203
                     replace q203 := eq_true q203
                     go_wp2_with (first | ((with_reducible refine gate_callee (f := 34) rfl ?_); refine goesL_ (some 61) rfl rfl Try.func34 (by kernel_rfl) rfl #[.slice A0 l0.length c0, .slice A203_0 (rd_L3 t198 x17_3).length c203_0] rfl (by (try simp only [List.map_toArray, List.map_cons, List.map_nil]); first | done | rfl | (simp only [List.length_drop, List.length_take]; rfl)) ?_; (with_reducible refine (cohousingref36_run.calls kj14 _ _ l0 _ _ (rd_L3 t198 x17_3) t204 _ ?side1 ?side2 ?side3 ?side4 A21.out).mono ?_); (case side1 => repeat (first | exact (Kd.C_below HR0.out HB.out) | (with_reducible refine Kd.C_alloc ?_ _) | (with_reducible refine Kd.C_drewN ?_ _) | (with_reducible refine Kd.C_drew ?_))); (case side2 => exact HC0.out); (case side3 => repeat (first | exact (by repeat (first | (with_reducible exact HR203_0.out) | (with_reducible refine Kd.C_alloc ?_ _) | (with_reducible refine Kd.C_drewN ?_ _) | (with_reducible refine Kd.C_drew ?_) | exact HR203_0.out)) | (with_reducible refine Kd.C_alloc ?_ _) | (with_reducible refine Kd.C_drewN ?_ _) | (with_reducible refine Kd.C_drew ?_))); (case side4 => exact HC203_0.out); rintro e w31 ⟨v205, rfl, ho0, hb⟩; refine ⟨_, rfl, ?_⟩; have n0_ := Aside0.mk (Kd.S_elder' (by (with_reducible repeat (first | apply Kd.S_alloc | apply Kd.S_drewN | apply Kd.S_drew)); exact HO_11.out) (Kd.R_base ho0) hb); have n1_ := Aside0.mk (Kd.R_below (by (with_reducible repeat (first | apply Kd.R_alloc | apply Kd.R_drewN | apply Kd.R_drew)); exact HO_13.out) hb); have n2_ := Aside0.mk (Kd.R_below (by (with_reducible repeat (first | apply Kd.R_alloc | apply Kd.R_drewN | apply Kd.R_drew)); exact HO_14.out) hb); have n3_ := Aside0.mk (Kd.R_elder' (by (with_reducible repeat (first | apply Kd.R_alloc | apply Kd.R_drewN | apply Kd.R_drew)); exact HL203_0.out) (Kd.R_base ho0) hb); have n4_ := Aside0.mk (Kd.R_lower (Kd.R_new' ho0 (Kd.R_lt (by (with_reducible repeat (first | apply Kd.R_alloc | apply Kd.R_drewN | apply Kd.R_drew)); exact HL203_0.out))) (below_size (by repeat (first | (with_reducible first | exact HB.out | apply below_alloc | apply pw_below_drewN | apply below_drew1) | exact HB.out)))); have n5_ := Aside0.mk (Kd.C_below (by repeat (first | (with_reducible exact HR203_0.out) | (with_reducible refine Kd.C_alloc ?_ _) | (with_reducible refine Kd.C_drewN ?_ _) | (with_reducible refine Kd.C_drew ?_) | exact HR203_0.out)) hb); have n6_ := Aside0.mk (below_step (by repeat (first | (with_reducible first | exact HB.out | apply below_alloc | apply pw_below_drewN | apply below_drew1) | exact HB.out)) hb); clear HO_11; clear HO_13; clear HO_14; clear HL203_0; clear HR203_0; clear HB; have HO_11 := n0_; have HO_13 := n1_; have HO_14 := n2_; have HL203_0 := n3_; have HO206 := n4_; have HR203_0 := n5_; have HB := n6_; clear n0_ n1_ n2_ n3_ n4_ n5_ n6_; (try clear hb); (try clear hb2); (try clear hk); (try clear hi); (try clear ho0); have p207 : 0 ≤ (x17_3 : Int) := of_decide_eq_true (by first | (with_reducible assumption) | assumption); have q207 : x17_3 < (t198.length : Int) := of_decide_eq_true (by first | (with_reducible assumption) | assumption); obtain ⟨ad207, A207_0, c207_0, e207, hx207_0, hl207_0, hi207_0⟩ := at_L3 (Kd.S_reads' HO_11.out).2.2 x17_3 p207 q207; obtain rfl : ad203 = ad207 := (by injection e207); obtain ⟨ce207, hce207, hMe207, hcc207⟩ := Kd.S_get HO_11.out [] x17_3 p207 (by first | exact q207 | exact of_decide_eq_true (by first | (with_reducible assumption) | assumption) | (have e_ := (Kd.S_reads' HO_11.out).1; omega)); obtain ⟨ve207_0, rfl, ge207_0⟩ := hMe207; have hv207_0 := hcc207 0 _ rfl; rw [Nat.add_zero, show ((Kd.slice 4 Kd.bool)).sz = 1 from rfl, Nat.mul_one] at hv207_0; replace hv207_0 := Option.some.inj (hv207_0.symm.trans hx207_0); rw [hv207_0] at ge207_0; have HL207_0 := Aside0.mk (show Kd.R Kd.bool 4 _ _ _ _ (rd_L3 t198 x17_3) from ge207_0); clear hv207_0 ge207_0; clear hcc207 hce207; have HR207_0 := Aside0.mk hi207_0; have HC207_0 := Aside0.mk hl207_0; clear hi207_0 hl207_0; replace p207 := eq_true p207; replace q207 := eq_true q207) | ((with_reducible refine gate_callee (f := 45) rfl ?_); refine goesL_ (some 69) rfl rfl Try.func45 (by kernel_rfl) rfl #[.slice A0 l0.length c0, .slice A207_0 (rd_L3 t198 x17_3).length c207_0, .int .i64 x15_2] rfl (by (try simp only [List.map_toArray, List.map_cons, List.map_nil]); first | done | rfl | (simp only [List.length_drop, List.length_take]; rfl)) ?_; (with_reducible refine (cohousingref36_Without.calls kj14 _ _ l0 _ _ (rd_L3 t198 x17_3) x15_2 t208 _ ?side1 ?side2 ?side3 ?side4 A22.out).mono ?_); (case side1 => repeat (first | exact (Kd.C_below HR0.out HB.out) | (with_reducible refine Kd.C_alloc ?_ _) | (with_reducible refine Kd.C_drewN ?_ _) | (with_reducible refine Kd.C_drew ?_))); (case side2 => exact HC0.out); (case side3 => repeat (first | exact (by repeat (first | (with_reducible exact HR207_0.out) | (with_reducible refine Kd.C_alloc ?_ _) | (with_reducible refine Kd.C_drewN ?_ _) | (with_reducible refine Kd.C_drew ?_) | exact HR207_0.out)) | (with_reducible refine Kd.C_alloc ?_ _) | (with_reducible refine Kd.C_drewN ?_ _) | (with_reducible refine Kd.C_drew ?_))); (case side4 => exact HC207_0.out); rintro e w32 ⟨v209, rfl, ho0, hb⟩; refine ⟨_, rfl, ?_⟩; have n0_ := Aside0.mk (Kd.S_elder' (by (with_reducible repeat (first | apply Kd.S_alloc | apply Kd.S_drewN | apply Kd.S_drew)); exact HO_11.out) (Kd.R_base ho0) hb); have n1_ := Aside0.mk (Kd.R_below (by (with_reducible repeat (first | apply Kd.R_alloc | apply Kd.R_drewN | apply Kd.R_drew)); exact HO_13.out) hb); have n2_ := Aside0.mk (Kd.R_below (by (with_reducible repeat (first | apply Kd.R_alloc | apply Kd.R_drewN | apply Kd.R_drew)); exact HO_14.out) hb); have n3_ := Aside0.mk (Kd.R_elder' (by (with_reducible repeat (first | apply Kd.R_alloc | apply Kd.R_drewN | apply Kd.R_drew)); exact HL203_0.out) (Kd.R_base ho0) hb); have n4_ := Aside0.mk (Kd.R_elder' (by (with_reducible repeat (first | apply Kd.R_alloc | apply Kd.R_drewN | apply Kd.R_drew)); exact HO206.out) (Kd.R_base ho0) hb); have n5_ := Aside0.mk (Kd.R_elder' (by (with_reducible repeat (first | apply Kd.R_alloc | apply Kd.R_drewN | apply Kd.R_drew)); exact HL207_0.out) (Kd.R_base ho0) hb); have n6_ := Aside0.mk (Kd.R_lower (Kd.R_new' (Kd.R_new' (Kd.R_new' ho0 (Kd.R_lt (by (with_reducible repeat (first | apply Kd.R_alloc | apply Kd.R_drewN | apply Kd.R_drew)); exact HL203_0.out))) (Kd.R_lt (by (with_reducible repeat (first | apply Kd.R_alloc | apply Kd.R_drewN | apply Kd.R_drew)); exact HO206.out))) (Kd.R_lt (by (with_reducible repeat (first | apply Kd.R_alloc | apply Kd.R_drewN | apply Kd.R_drew)); exact HL207_0.out))) (below_size (by repeat (first | (with_reducible first | exact HB.out | apply below_alloc | apply pw_below_drewN | apply below_drew1) | exact HB.out)))); have n7_ := Aside0.mk (Kd.C_below (by repeat (first | (with_reducible exact HR203_0.out) | (with_reducible refine Kd.C_alloc ?_ _) | (with_reducible refine Kd.C_drewN ?_ _) | (with_reducible refine Kd.C_drew ?_) | exact HR203_0.out)) hb); have n8_ := Aside0.mk (Kd.C_below (by repeat (first | (with_reducible exact HR207_0.out) | (with_reducible refine Kd.C_alloc ?_ _) | (with_reducible refine Kd.C_drewN ?_ _) | (with_reducible refine Kd.C_drew ?_) | exact HR207_0.out)) hb); have n9_ := Aside0.mk (below_step (by repeat (first | (with_reducible first | exact HB.out | apply below_alloc | apply pw_below_drewN | apply below_drew1) | exact HB.out)) hb); clear HO_11; clear HO_13; clear HO_14; clear HL203_0; clear HO206; clear HL207_0; clear HR203_0; clear HR207_0; clear HB; have HO_11 := n0_; have HO_13 := n1_; have HO_14 := n2_; have HL203_0 := n3_; have HO206 := n4_; have HL207_0 := n5_; have HO210 := n6_; have HR203_0 := n7_; have HR207_0 := n8_; have HB := n9_; clear n0_ n1_ n2_ n3_ n4_ n5_ n6_ n7_ n8_ n9_; (try clear hb); (try clear hb2); (try clear hk); (try clear hi); (try clear ho0); obtain ⟨Ao33, co33, eo33⟩ := Kd.R_slice HO210.out; subst eo33) | ((with_reducible refine gate_callee (f := 34) rfl ?_); refine goesL_ (some 70) rfl rfl Try.func34 (by kernel_rfl) rfl #[.slice A0 l0.length c0, .slice Ao33 t208.length co33] rfl (by (try simp only [List.map_toArray, List.map_cons, List.map_nil]); first | done | rfl | (simp only [List.length_drop, List.length_take]; rfl)) ?_; (with_reducible refine (cohousingref36_run.calls kj14 _ _ l0 _ _ t208 t211 _ ?side1 ?side2 ?side3 ?side4 A23.out).mono ?_); (case side1 => repeat (first | exact (Kd.C_below HR0.out HB.out) | (with_reducible refine Kd.C_alloc ?_ _) | (with_reducible refine Kd.C_drewN ?_ _) | (with_reducible refine Kd.C_drew ?_))); (case side2 => exact HC0.out); (case side3 => repeat (first | exact (Kd.R_reads' HO210.out).2.2 | (with_reducible refine Kd.C_alloc ?_ _) | (with_reducible refine Kd.C_drewN ?_ _) | (with_reducible refine Kd.C_drew ?_))); (case side4 => exact (Kd.R_reads' HO210.out).2.1); rintro e w34 ⟨v212, rfl, ho0, hb⟩; refine ⟨_, rfl, ?_⟩; have n0_ := Aside0.mk (Kd.S_elder' (by (with_reducible repeat (first | apply Kd.S_alloc | apply Kd.S_drewN | apply Kd.S_drew)); exact HO_11.out) (Kd.R_base ho0) hb); have n1_ := Aside0.mk (Kd.R_below (by (with_reducible repeat (first | apply Kd.R_alloc | apply Kd.R_drewN | apply Kd.R_drew)); exact HO_13.out) hb); have n2_ := Aside0.mk (Kd.R_below (by (with_reducible repeat (first | apply Kd.R_alloc | apply Kd.R_drewN | apply Kd.R_drew)); exact HO_14.out) hb); have n3_ := Aside0.mk (Kd.R_elder' (by (with_reducible repeat (first | apply Kd.R_alloc | apply Kd.R_drewN | apply Kd.R_drew)); exact HL203_0.out) (Kd.R_base ho0) hb); have n4_ := Aside0.mk (Kd.R_elder' (by (with_reducible repeat (first | apply Kd.R_alloc | apply Kd.R_drewN | apply Kd.R_drew)); exact HO206.out) (Kd.R_base ho0) hb); have n5_ := Aside0.mk (Kd.R_elder' (by (with_reducible repeat (first | apply Kd.R_alloc | apply Kd.R_drewN | apply Kd.R_drew)); exact HL207_0.out) (Kd.R_base ho0) hb); have n6_ := Aside0.mk (Kd.R_elder' (by (with_reducible repeat (first | apply Kd.R_alloc | apply Kd.R_drewN | apply Kd.R_drew)); exact HO210.out) (Kd.R_base ho0) hb); have n7_ := Aside0.mk (Kd.R_lower (Kd.R_new' (Kd.R_new' (Kd.R_new' (Kd.R_new' ho0 (Kd.R_lt (by (with_reducible repeat (first | apply Kd.R_alloc | apply Kd.R_drewN | apply Kd.R_drew)); exact HL203_0.out))) (Kd.R_lt (by (with_reducible repeat (first | apply Kd.R_alloc | apply Kd.R_drewN | apply Kd.R_drew)); exact HO206.out))) (Kd.R_lt (by (with_reducible repeat (first | apply Kd.R_alloc | apply Kd.R_drewN | apply Kd.R_drew)); exact HL207_0.out))) (Kd.R_lt (by (with_reducible repeat (first | apply Kd.R_alloc | apply Kd.R_drewN | apply Kd.R_drew)); exact HO210.out))) (below_size (by repeat (first | (with_reducible first | exact HB.out | apply below_alloc | apply pw_below_drewN | apply below_drew1) | exact HB.out)))); have n8_ := Aside0.mk (Kd.C_below (by repeat (first | (with_reducible exact HR203_0.out) | (with_reducible refine Kd.C_alloc ?_ _) | (with_reducible refine Kd.C_drewN ?_ _) | (with_reducible refine Kd.C_drew ?_) | exact HR203_0.out)) hb); have n9_ := Aside0.mk (Kd.C_below (by repeat (first | (with_reducible exact HR207_0.out) | (with_reducible refine Kd.C_alloc ?_ _) | (with_reducible refine Kd.C_drewN ?_ _) | (with_reducible refine Kd.C_drew ?_) | exact HR207_0.out)) hb); have n10_ := Aside0.mk (below_step (by repeat (first | (with_reducible first | exact HB.out | apply below_alloc | apply pw_below_drewN | apply below_drew1) | exact HB.out)) hb); clear HO_11; clear HO_13; clear HO_14; clear HL203_0; clear HO206; clear HL207_0; clear HO210; clear HR203_0; clear HR207_0; clear HB; have HO_11 := n0_; have HO_13 := n1_; have HO_14 := n2_; have HL203_0 := n3_; have HO206 := n4_; have HL207_0 := n5_; have HO210 := n6_; have HO213 := n7_; have HR203_0 := n8_; have HR207_0 := n9_; have HB := n10_; clear n0_ n1_ n2_ n3_ n4_ n5_ n6_ n7_ n8_ n9_ n10_; (try clear hb); (try clear hb2); (try clear hk); (try clear hi); (try clear ho0); obtain ⟨Ao35, co35, eo35⟩ := Kd.R_slice HO206.out; subst eo35; have p214 : 0 ≤ (a3 : Int) := of_decide_eq_true (by first | (with_reducible assumption) | assumption); have q214 : a3 < (t204.length : Int) := of_decide_eq_true (by first | (with_reducible assumption) | assumption); obtain ⟨ad214, e214, hx214_0⟩ := Kd.at_bool (Kd.R_reads' HO206.out).2.2 a3 p214 q214; (try rw [← Nbq26.out] at hx214_0); (try rw [← Nbq29.out] at hx214_0); cases e214; replace p214 := eq_true p214; replace q214 := eq_true q214; obtain ⟨Ao36, co36, eo36⟩ := Kd.R_slice HO213.out; subst eo36; have p215 : 0 ≤ (a3 : Int) := of_decide_eq_true (by first | (with_reducible assumption) | assumption); have q215 : a3 < (t211.length : Int) := of_decide_eq_true (by first | (with_reducible assumption) | assumption); obtain ⟨ad215, e215, hx215_0⟩ := Kd.at_bool (Kd.R_reads' HO213.out).2.2 a3 p215 q215; (try rw [← Nbq26.out] at hx215_0); (try rw [← Nbq29.out] at hx215_0); cases e215; replace p215 := eq_true p215; replace q215 := eq_true q215))
                     go_roundg kj14
                     case measure => have := HJ6.out; have := HK2.out; have := HK3.out; have := HJ14.out; omega
                     case rel => exact ⟨(x16_3), (wrap64 (x17_3 + 1)), (by first | rfl | (simp; done) | (simp [*]; done)), (by first | rfl | (simp; done) | (simp [*]; done)), H', ⟨by have := HJ6.out; have := HK2.out; have := HK3.out; have := HJ14.out; omega⟩, ⟨by (with_reducible repeat (first | apply Kd.S_alloc | apply Kd.S_drewN | apply Kd.S_drew)); exact Kd.S_mono HO_11.out (fun _ hk => trivial)⟩, ⟨by (with_reducible repeat (first | apply Kd.R_alloc | apply Kd.R_drewN | apply Kd.R_drew)); exact HO_13.out⟩, ⟨by (with_reducible repeat (first | apply Kd.R_alloc | apply Kd.R_drewN | apply Kd.R_drew)); exact HO_14.out⟩, ⟨by repeat (first | (with_reducible first | exact HB.out | apply below_alloc | apply pw_below_drewN | apply below_drew1) | exact HB.out)⟩⟩
                    ·replace c30 := Bool.eq_false_iff.mpr c30
                     subst c30
                     have H1 : (cohousingref36_Blame.l1 kj14 l0 a3 t198 x13_2 x14_2 x15_2 (wrap64 (x16_3 + 1)) (wrap64 (x17_3 + 1))) = some (r1, r2, r3) := by rw [if_neg (show ¬ (false = true) by decide)] at H; exact H
                     clear H
                     have H := H1
                     clear H1
                     have H' := Aside0.mk H
                     clear H
                     have p203 : 0 ≤ (x17_3 : Int) := of_decide_eq_true (by first | (with_reducible assumption) | assumption)
                     have q203 : x17_3 < (t198.length : Int) := of_decide_eq_true (by first | (with_reducible assumption) | assumption)
                     obtain ⟨ad203, A203_0, c203_0, e203, hx203_0, hl203_0, hi203_0⟩ := at_L3 (Kd.S_reads' HO_11.out).2.2 x17_3 p203 q203
                     cases e203
                     obtain ⟨ce203, hce203, hMe203, hcc203⟩ := Kd.S_get HO_11.out [] x17_3 p203 (by first | exact q203 | exact of_decide_eq_true (by first | (with_reducible assumption) | assumption) | (have e_ := (Kd.S_reads' HO_11.out).1; omega))
                     obtain ⟨ve203_0, rfl, ge203_0⟩ := hMe203
                     have hv203_0 := hcc203 0 _ rfl
                     rw [Nat.add_zero, show ((Kd.slice 4 Kd.bool)).sz = 1 from rfl, Nat.mul_one] at hv203_0
                     replace hv203_0 := Option.some.inj (hv203_0.symm.trans hx203_0)
                     rw [hv203_0] at ge203_0
                     have HL203_0 := Aside0.mk (show Kd.R Kd.bool 4 _ _ _ _ (rd_L3 t198 x17_3) from ge203_0)
                     clear hv203_0 ge203_0
                     clear hcc203 hce203
                     have HR203_0 := Aside0.mk hi203_0
                     have HC203_0 := Aside0.mk hl203_0
                     clear hi203_0 hl203_0
                     replace p203 := eq_true p203
                     replace q203 := eq_true q203
                     go_wp2_with (first | ((with_reducible refine gate_callee (f := 34) rfl ?_); refine goesL_ (some 61) rfl rfl Try.func34 (by kernel_rfl) rfl #[.slice A0 l0.length c0, .slice A203_0 (rd_L3 t198 x17_3).length c203_0] rfl (by (try simp only [List.map_toArray, List.map_cons, List.map_nil]); first | done | rfl | (simp only [List.length_drop, List.length_take]; rfl)) ?_; (with_reducible refine (cohousingref36_run.calls kj14 _ _ l0 _ _ (rd_L3 t198 x17_3) t204 _ ?side1 ?side2 ?side3 ?side4 A21.out).mono ?_); (case side1 => repeat (first | exact (Kd.C_below HR0.out HB.out) | (with_reducible refine Kd.C_alloc ?_ _) | (with_reducible refine Kd.C_drewN ?_ _) | (with_reducible refine Kd.C_drew ?_))); (case side2 => exact HC0.out); (case side3 => repeat (first | exact (by repeat (first | (with_reducible exact HR203_0.out) | (with_reducible refine Kd.C_alloc ?_ _) | (with_reducible refine Kd.C_drewN ?_ _) | (with_reducible refine Kd.C_drew ?_) | exact HR203_0.out)) | (with_reducible refine Kd.C_alloc ?_ _) | (with_reducible refine Kd.C_drewN ?_ _) | (with_reducible refine Kd.C_drew ?_))); (case side4 => exact HC203_0.out); rintro e w37 ⟨v205, rfl, ho0, hb⟩; refine ⟨_, rfl, ?_⟩; have n0_ := Aside0.mk (Kd.S_elder' (by (with_reducible repeat (first | apply Kd.S_alloc | apply Kd.S_drewN | apply Kd.S_drew)); exact HO_11.out) (Kd.R_base ho0) hb); have n1_ := Aside0.mk (Kd.R_below (by (with_reducible repeat (first | apply Kd.R_alloc | apply Kd.R_drewN | apply Kd.R_drew)); exact HO_13.out) hb); have n2_ := Aside0.mk (Kd.R_below (by (with_reducible repeat (first | apply Kd.R_alloc | apply Kd.R_drewN | apply Kd.R_drew)); exact HO_14.out) hb); have n3_ := Aside0.mk (Kd.R_elder' (by (with_reducible repeat (first | apply Kd.R_alloc | apply Kd.R_drewN | apply Kd.R_drew)); exact HL203_0.out) (Kd.R_base ho0) hb); have n4_ := Aside0.mk (Kd.R_lower (Kd.R_new' ho0 (Kd.R_lt (by (with_reducible repeat (first | apply Kd.R_alloc | apply Kd.R_drewN | apply Kd.R_drew)); exact HL203_0.out))) (below_size (by repeat (first | (with_reducible first | exact HB.out | apply below_alloc | apply pw_below_drewN | apply below_drew1) | exact HB.out)))); have n5_ := Aside0.mk (Kd.C_below (by repeat (first | (with_reducible exact HR203_0.out) | (with_reducible refine Kd.C_alloc ?_ _) | (with_reducible refine Kd.C_drewN ?_ _) | (with_reducible refine Kd.C_drew ?_) | exact HR203_0.out)) hb); have n6_ := Aside0.mk (below_step (by repeat (first | (with_reducible first | exact HB.out | apply below_alloc | apply pw_below_drewN | apply below_drew1) | exact HB.out)) hb); clear HO_11; clear HO_13; clear HO_14; clear HL203_0; clear HR203_0; clear HB; have HO_11 := n0_; have HO_13 := n1_; have HO_14 := n2_; have HL203_0 := n3_; have HO206 := n4_; have HR203_0 := n5_; have HB := n6_; clear n0_ n1_ n2_ n3_ n4_ n5_ n6_; (try clear hb); (try clear hb2); (try clear hk); (try clear hi); (try clear ho0); have p207 : 0 ≤ (x17_3 : Int) := of_decide_eq_true (by first | (with_reducible assumption) | assumption); have q207 : x17_3 < (t198.length : Int) := of_decide_eq_true (by first | (with_reducible assumption) | assumption); obtain ⟨ad207, A207_0, c207_0, e207, hx207_0, hl207_0, hi207_0⟩ := at_L3 (Kd.S_reads' HO_11.out).2.2 x17_3 p207 q207; obtain rfl : ad203 = ad207 := (by injection e207); obtain ⟨ce207, hce207, hMe207, hcc207⟩ := Kd.S_get HO_11.out [] x17_3 p207 (by first | exact q207 | exact of_decide_eq_true (by first | (with_reducible assumption) | assumption) | (have e_ := (Kd.S_reads' HO_11.out).1; omega)); obtain ⟨ve207_0, rfl, ge207_0⟩ := hMe207; have hv207_0 := hcc207 0 _ rfl; rw [Nat.add_zero, show ((Kd.slice 4 Kd.bool)).sz = 1 from rfl, Nat.mul_one] at hv207_0; replace hv207_0 := Option.some.inj (hv207_0.symm.trans hx207_0); rw [hv207_0] at ge207_0; have HL207_0 := Aside0.mk (show Kd.R Kd.bool 4 _ _ _ _ (rd_L3 t198 x17_3) from ge207_0); clear hv207_0 ge207_0; clear hcc207 hce207; have HR207_0 := Aside0.mk hi207_0; have HC207_0 := Aside0.mk hl207_0; clear hi207_0 hl207_0; replace p207 := eq_true p207; replace q207 := eq_true q207) | ((with_reducible refine gate_callee (f := 45) rfl ?_); refine goesL_ (some 69) rfl rfl Try.func45 (by kernel_rfl) rfl #[.slice A0 l0.length c0, .slice A207_0 (rd_L3 t198 x17_3).length c207_0, .int .i64 x15_2] rfl (by (try simp only [List.map_toArray, List.map_cons, List.map_nil]); first | done | rfl | (simp only [List.length_drop, List.length_take]; rfl)) ?_; (with_reducible refine (cohousingref36_Without.calls kj14 _ _ l0 _ _ (rd_L3 t198 x17_3) x15_2 t208 _ ?side1 ?side2 ?side3 ?side4 A22.out).mono ?_); (case side1 => repeat (first | exact (Kd.C_below HR0.out HB.out) | (with_reducible refine Kd.C_alloc ?_ _) | (with_reducible refine Kd.C_drewN ?_ _) | (with_reducible refine Kd.C_drew ?_))); (case side2 => exact HC0.out); (case side3 => repeat (first | exact (by repeat (first | (with_reducible exact HR207_0.out) | (with_reducible refine Kd.C_alloc ?_ _) | (with_reducible refine Kd.C_drewN ?_ _) | (with_reducible refine Kd.C_drew ?_) | exact HR207_0.out)) | (with_reducible refine Kd.C_alloc ?_ _) | (with_reducible refine Kd.C_drewN ?_ _) | (with_reducible refine Kd.C_drew ?_))); (case side4 => exact HC207_0.out); rintro e w38 ⟨v209, rfl, ho0, hb⟩; refine ⟨_, rfl, ?_⟩; have n0_ := Aside0.mk (Kd.S_elder' (by (with_reducible repeat (first | apply Kd.S_alloc | apply Kd.S_drewN | apply Kd.S_drew)); exact HO_11.out) (Kd.R_base ho0) hb); have n1_ := Aside0.mk (Kd.R_below (by (with_reducible repeat (first | apply Kd.R_alloc | apply Kd.R_drewN | apply Kd.R_drew)); exact HO_13.out) hb); have n2_ := Aside0.mk (Kd.R_below (by (with_reducible repeat (first | apply Kd.R_alloc | apply Kd.R_drewN | apply Kd.R_drew)); exact HO_14.out) hb); have n3_ := Aside0.mk (Kd.R_elder' (by (with_reducible repeat (first | apply Kd.R_alloc | apply Kd.R_drewN | apply Kd.R_drew)); exact HL203_0.out) (Kd.R_base ho0) hb); have n4_ := Aside0.mk (Kd.R_elder' (by (with_reducible repeat (first | apply Kd.R_alloc | apply Kd.R_drewN | apply Kd.R_drew)); exact HO206.out) (Kd.R_base ho0) hb); have n5_ := Aside0.mk (Kd.R_elder' (by (with_reducible repeat (first | apply Kd.R_alloc | apply Kd.R_drewN | apply Kd.R_drew)); exact HL207_0.out) (Kd.R_base ho0) hb); have n6_ := Aside0.mk (Kd.R_lower (Kd.R_new' (Kd.R_new' (Kd.R_new' ho0 (Kd.R_lt (by (with_reducible repeat (first | apply Kd.R_alloc | apply Kd.R_drewN | apply Kd.R_drew)); exact HL203_0.out))) (Kd.R_lt (by (with_reducible repeat (first | apply Kd.R_alloc | apply Kd.R_drewN | apply Kd.R_drew)); exact HO206.out))) (Kd.R_lt (by (with_reducible repeat (first | apply Kd.R_alloc | apply Kd.R_drewN | apply Kd.R_drew)); exact HL207_0.out))) (below_size (by repeat (first | (with_reducible first | exact HB.out | apply below_alloc | apply pw_below_drewN | apply below_drew1) | exact HB.out)))); have n7_ := Aside0.mk (Kd.C_below (by repeat (first | (with_reducible exact HR203_0.out) | (with_reducible refine Kd.C_alloc ?_ _) | (with_reducible refine Kd.C_drewN ?_ _) | (with_reducible refine Kd.C_drew ?_) | exact HR203_0.out)) hb); have n8_ := Aside0.mk (Kd.C_below (by repeat (first | (with_reducible exact HR207_0.out) | (with_reducible refine Kd.C_alloc ?_ _) | (with_reducible refine Kd.C_drewN ?_ _) | (with_reducible refine Kd.C_drew ?_) | exact HR207_0.out)) hb); have n9_ := Aside0.mk (below_step (by repeat (first | (with_reducible first | exact HB.out | apply below_alloc | apply pw_below_drewN | apply below_drew1) | exact HB.out)) hb); clear HO_11; clear HO_13; clear HO_14; clear HL203_0; clear HO206; clear HL207_0; clear HR203_0; clear HR207_0; clear HB; have HO_11 := n0_; have HO_13 := n1_; have HO_14 := n2_; have HL203_0 := n3_; have HO206 := n4_; have HL207_0 := n5_; have HO210 := n6_; have HR203_0 := n7_; have HR207_0 := n8_; have HB := n9_; clear n0_ n1_ n2_ n3_ n4_ n5_ n6_ n7_ n8_ n9_; (try clear hb); (try clear hb2); (try clear hk); (try clear hi); (try clear ho0); obtain ⟨Ao39, co39, eo39⟩ := Kd.R_slice HO210.out; subst eo39) | ((with_reducible refine gate_callee (f := 34) rfl ?_); refine goesL_ (some 70) rfl rfl Try.func34 (by kernel_rfl) rfl #[.slice A0 l0.length c0, .slice Ao39 t208.length co39] rfl (by (try simp only [List.map_toArray, List.map_cons, List.map_nil]); first | done | rfl | (simp only [List.length_drop, List.length_take]; rfl)) ?_; (with_reducible refine (cohousingref36_run.calls kj14 _ _ l0 _ _ t208 t211 _ ?side1 ?side2 ?side3 ?side4 A23.out).mono ?_); (case side1 => repeat (first | exact (Kd.C_below HR0.out HB.out) | (with_reducible refine Kd.C_alloc ?_ _) | (with_reducible refine Kd.C_drewN ?_ _) | (with_reducible refine Kd.C_drew ?_))); (case side2 => exact HC0.out); (case side3 => repeat (first | exact (Kd.R_reads' HO210.out).2.2 | (with_reducible refine Kd.C_alloc ?_ _) | (with_reducible refine Kd.C_drewN ?_ _) | (with_reducible refine Kd.C_drew ?_))); (case side4 => exact (Kd.R_reads' HO210.out).2.1); rintro e w40 ⟨v212, rfl, ho0, hb⟩; refine ⟨_, rfl, ?_⟩; have n0_ := Aside0.mk (Kd.S_elder' (by (with_reducible repeat (first | apply Kd.S_alloc | apply Kd.S_drewN | apply Kd.S_drew)); exact HO_11.out) (Kd.R_base ho0) hb); have n1_ := Aside0.mk (Kd.R_below (by (with_reducible repeat (first | apply Kd.R_alloc | apply Kd.R_drewN | apply Kd.R_drew)); exact HO_13.out) hb); have n2_ := Aside0.mk (Kd.R_below (by (with_reducible repeat (first | apply Kd.R_alloc | apply Kd.R_drewN | apply Kd.R_drew)); exact HO_14.out) hb); have n3_ := Aside0.mk (Kd.R_elder' (by (with_reducible repeat (first | apply Kd.R_alloc | apply Kd.R_drewN | apply Kd.R_drew)); exact HL203_0.out) (Kd.R_base ho0) hb); have n4_ := Aside0.mk (Kd.R_elder' (by (with_reducible repeat (first | apply Kd.R_alloc | apply Kd.R_drewN | apply Kd.R_drew)); exact HO206.out) (Kd.R_base ho0) hb); have n5_ := Aside0.mk (Kd.R_elder' (by (with_reducible repeat (first | apply Kd.R_alloc | apply Kd.R_drewN | apply Kd.R_drew)); exact HL207_0.out) (Kd.R_base ho0) hb); have n6_ := Aside0.mk (Kd.R_elder' (by (with_reducible repeat (first | apply Kd.R_alloc | apply Kd.R_drewN | apply Kd.R_drew)); exact HO210.out) (Kd.R_base ho0) hb); have n7_ := Aside0.mk (Kd.R_lower (Kd.R_new' (Kd.R_new' (Kd.R_new' (Kd.R_new' ho0 (Kd.R_lt (by (with_reducible repeat (first | apply Kd.R_alloc | apply Kd.R_drewN | apply Kd.R_drew)); exact HL203_0.out))) (Kd.R_lt (by (with_reducible repeat (first | apply Kd.R_alloc | apply Kd.R_drewN | apply Kd.R_drew)); exact HO206.out))) (Kd.R_lt (by (with_reducible repeat (first | apply Kd.R_alloc | apply Kd.R_drewN | apply Kd.R_drew)); exact HL207_0.out))) (Kd.R_lt (by (with_reducible repeat (first | apply Kd.R_alloc | apply Kd.R_drewN | apply Kd.R_drew)); exact HO210.out))) (below_size (by repeat (first | (with_reducible first | exact HB.out | apply below_alloc | apply pw_below_drewN | apply below_drew1) | exact HB.out)))); have n8_ := Aside0.mk (Kd.C_below (by repeat (first | (with_reducible exact HR203_0.out) | (with_reducible refine Kd.C_alloc ?_ _) | (with_reducible refine Kd.C_drewN ?_ _) | (with_reducible refine Kd.C_drew ?_) | exact HR203_0.out)) hb); have n9_ := Aside0.mk (Kd.C_below (by repeat (first | (with_reducible exact HR207_0.out) | (with_reducible refine Kd.C_alloc ?_ _) | (with_reducible refine Kd.C_drewN ?_ _) | (with_reducible refine Kd.C_drew ?_) | exact HR207_0.out)) hb); have n10_ := Aside0.mk (below_step (by repeat (first | (with_reducible first | exact HB.out | apply below_alloc | apply pw_below_drewN | apply below_drew1) | exact HB.out)) hb); clear HO_11; clear HO_13; clear HO_14; clear HL203_0; clear HO206; clear HL207_0; clear HO210; clear HR203_0; clear HR207_0; clear HB; have HO_11 := n0_; have HO_13 := n1_; have HO_14 := n2_; have HL203_0 := n3_; have HO206 := n4_; have HL207_0 := n5_; have HO210 := n6_; have HO213 := n7_; have HR203_0 := n8_; have HR207_0 := n9_; have HB := n10_; clear n0_ n1_ n2_ n3_ n4_ n5_ n6_ n7_ n8_ n9_ n10_; (try clear hb); (try clear hb2); (try clear hk); (try clear hi); (try clear ho0); obtain ⟨Ao41, co41, eo41⟩ := Kd.R_slice HO206.out; subst eo41; have p214 : 0 ≤ (a3 : Int) := of_decide_eq_true (by first | (with_reducible assumption) | assumption); have q214 : a3 < (t204.length : Int) := of_decide_eq_true (by first | (with_reducible assumption) | assumption); obtain ⟨ad214, e214, hx214_0⟩ := Kd.at_bool (Kd.R_reads' HO206.out).2.2 a3 p214 q214; (try rw [← Nbq26.out] at hx214_0); (try rw [← Nbq29.out] at hx214_0); cases e214; replace p214 := eq_true p214; replace q214 := eq_true q214; obtain ⟨Ao42, co42, eo42⟩ := Kd.R_slice HO213.out; subst eo42; have p215 : 0 ≤ (a3 : Int) := of_decide_eq_true (by first | (with_reducible assumption) | assumption); have q215 : a3 < (t211.length : Int) := of_decide_eq_true (by first | (with_reducible assumption) | assumption); obtain ⟨ad215, e215, hx215_0⟩ := Kd.at_bool (Kd.R_reads' HO213.out).2.2 a3 p215 q215; (try rw [← Nbq26.out] at hx215_0); (try rw [← Nbq29.out] at hx215_0); cases e215; replace p215 := eq_true p215; replace q215 := eq_true q215))
                     go_roundg kj14
                     case measure => have := HJ6.out; have := HK2.out; have := HK3.out; have := HJ14.out; omega
                     case rel => exact ⟨(wrap64 (x16_3 + 1)), (wrap64 (x17_3 + 1)), (by first | rfl | (simp; done) | (simp [*]; done)), (by first | rfl | (simp; done) | (simp [*]; done)), H', ⟨by have := HJ6.out; have := HK2.out; have := HK3.out; have := HJ14.out; omega⟩, ⟨by (with_reducible repeat (first | apply Kd.S_alloc | apply Kd.S_drewN | apply Kd.S_drew)); exact Kd.S_mono HO_11.out (fun _ hk => trivial)⟩, ⟨by (with_reducible repeat (first | apply Kd.R_alloc | apply Kd.R_drewN | apply Kd.R_drew)); exact HO_13.out⟩, ⟨by (with_reducible repeat (first | apply Kd.R_alloc | apply Kd.R_drewN | apply Kd.R_drew)); exact HO_14.out⟩, ⟨by repeat (first | (with_reducible first | exact HB.out | apply below_alloc | apply pw_below_drewN | apply below_drew1) | exact HB.out)⟩⟩
                   ·rw [if_neg c28] at H
                    exact absurd H (by simp)
                  ·replace c27 := Bool.eq_false_iff.mpr c27
                   subst c27
                   have H1 : (cohousingref36_Blame.l1 kj14 l0 a3 t198 x13_2 x14_2 x15_2 x16_3 (wrap64 (x17_3 + 1))) = some (r1, r2, r3) := by rw [if_neg (show ¬ (false = true) by decide)] at H; exact H
                   clear H
                   have H := H1
                   clear H1
                   have H' := Aside0.mk H
                   clear H
                   have p203 : 0 ≤ (x17_3 : Int) := of_decide_eq_true (by first | (with_reducible assumption) | assumption)
                   have q203 : x17_3 < (t198.length : Int) := of_decide_eq_true (by first | (with_reducible assumption) | assumption)
                   obtain ⟨ad203, A203_0, c203_0, e203, hx203_0, hl203_0, hi203_0⟩ := at_L3 (Kd.S_reads' HO_11.out).2.2 x17_3 p203 q203
                   cases e203
                   obtain ⟨ce203, hce203, hMe203, hcc203⟩ := Kd.S_get HO_11.out [] x17_3 p203 (by first | exact q203 | exact of_decide_eq_true (by first | (with_reducible assumption) | assumption) | (have e_ := (Kd.S_reads' HO_11.out).1; omega))
                   obtain ⟨ve203_0, rfl, ge203_0⟩ := hMe203
                   have hv203_0 := hcc203 0 _ rfl
                   rw [Nat.add_zero, show ((Kd.slice 4 Kd.bool)).sz = 1 from rfl, Nat.mul_one] at hv203_0
                   replace hv203_0 := Option.some.inj (hv203_0.symm.trans hx203_0)
                   rw [hv203_0] at ge203_0
                   have HL203_0 := Aside0.mk (show Kd.R Kd.bool 4 _ _ _ _ (rd_L3 t198 x17_3) from ge203_0)
                   clear hv203_0 ge203_0
                   clear hcc203 hce203
                   have HR203_0 := Aside0.mk hi203_0
                   have HC203_0 := Aside0.mk hl203_0
                   clear hi203_0 hl203_0
                   replace p203 := eq_true p203
                   replace q203 := eq_true q203
                   go_wp2_with (first | ((with_reducible refine gate_callee (f := 34) rfl ?_); refine goesL_ (some 61) rfl rfl Try.func34 (by kernel_rfl) rfl #[.slice A0 l0.length c0, .slice A203_0 (rd_L3 t198 x17_3).length c203_0] rfl (by (try simp only [List.map_toArray, List.map_cons, List.map_nil]); first | done | rfl | (simp only [List.length_drop, List.length_take]; rfl)) ?_; (with_reducible refine (cohousingref36_run.calls kj14 _ _ l0 _ _ (rd_L3 t198 x17_3) t204 _ ?side1 ?side2 ?side3 ?side4 A21.out).mono ?_); (case side1 => repeat (first | exact (Kd.C_below HR0.out HB.out) | (with_reducible refine Kd.C_alloc ?_ _) | (with_reducible refine Kd.C_drewN ?_ _) | (with_reducible refine Kd.C_drew ?_))); (case side2 => exact HC0.out); (case side3 => repeat (first | exact (by repeat (first | (with_reducible exact HR203_0.out) | (with_reducible refine Kd.C_alloc ?_ _) | (with_reducible refine Kd.C_drewN ?_ _) | (with_reducible refine Kd.C_drew ?_) | exact HR203_0.out)) | (with_reducible refine Kd.C_alloc ?_ _) | (with_reducible refine Kd.C_drewN ?_ _) | (with_reducible refine Kd.C_drew ?_))); (case side4 => exact HC203_0.out); rintro e w43 ⟨v205, rfl, ho0, hb⟩; refine ⟨_, rfl, ?_⟩; have n0_ := Aside0.mk (Kd.S_elder' (by (with_reducible repeat (first | apply Kd.S_alloc | apply Kd.S_drewN | apply Kd.S_drew)); exact HO_11.out) (Kd.R_base ho0) hb); have n1_ := Aside0.mk (Kd.R_below (by (with_reducible repeat (first | apply Kd.R_alloc | apply Kd.R_drewN | apply Kd.R_drew)); exact HO_13.out) hb); have n2_ := Aside0.mk (Kd.R_below (by (with_reducible repeat (first | apply Kd.R_alloc | apply Kd.R_drewN | apply Kd.R_drew)); exact HO_14.out) hb); have n3_ := Aside0.mk (Kd.R_elder' (by (with_reducible repeat (first | apply Kd.R_alloc | apply Kd.R_drewN | apply Kd.R_drew)); exact HL203_0.out) (Kd.R_base ho0) hb); have n4_ := Aside0.mk (Kd.R_lower (Kd.R_new' ho0 (Kd.R_lt (by (with_reducible repeat (first | apply Kd.R_alloc | apply Kd.R_drewN | apply Kd.R_drew)); exact HL203_0.out))) (below_size (by repeat (first | (with_reducible first | exact HB.out | apply below_alloc | apply pw_below_drewN | apply below_drew1) | exact HB.out)))); have n5_ := Aside0.mk (Kd.C_below (by repeat (first | (with_reducible exact HR203_0.out) | (with_reducible refine Kd.C_alloc ?_ _) | (with_reducible refine Kd.C_drewN ?_ _) | (with_reducible refine Kd.C_drew ?_) | exact HR203_0.out)) hb); have n6_ := Aside0.mk (below_step (by repeat (first | (with_reducible first | exact HB.out | apply below_alloc | apply pw_below_drewN | apply below_drew1) | exact HB.out)) hb); clear HO_11; clear HO_13; clear HO_14; clear HL203_0; clear HR203_0; clear HB; have HO_11 := n0_; have HO_13 := n1_; have HO_14 := n2_; have HL203_0 := n3_; have HO206 := n4_; have HR203_0 := n5_; have HB := n6_; clear n0_ n1_ n2_ n3_ n4_ n5_ n6_; (try clear hb); (try clear hb2); (try clear hk); (try clear hi); (try clear ho0); have p207 : 0 ≤ (x17_3 : Int) := of_decide_eq_true (by first | (with_reducible assumption) | assumption); have q207 : x17_3 < (t198.length : Int) := of_decide_eq_true (by first | (with_reducible assumption) | assumption); obtain ⟨ad207, A207_0, c207_0, e207, hx207_0, hl207_0, hi207_0⟩ := at_L3 (Kd.S_reads' HO_11.out).2.2 x17_3 p207 q207; obtain rfl : ad203 = ad207 := (by injection e207); obtain ⟨ce207, hce207, hMe207, hcc207⟩ := Kd.S_get HO_11.out [] x17_3 p207 (by first | exact q207 | exact of_decide_eq_true (by first | (with_reducible assumption) | assumption) | (have e_ := (Kd.S_reads' HO_11.out).1; omega)); obtain ⟨ve207_0, rfl, ge207_0⟩ := hMe207; have hv207_0 := hcc207 0 _ rfl; rw [Nat.add_zero, show ((Kd.slice 4 Kd.bool)).sz = 1 from rfl, Nat.mul_one] at hv207_0; replace hv207_0 := Option.some.inj (hv207_0.symm.trans hx207_0); rw [hv207_0] at ge207_0; have HL207_0 := Aside0.mk (show Kd.R Kd.bool 4 _ _ _ _ (rd_L3 t198 x17_3) from ge207_0); clear hv207_0 ge207_0; clear hcc207 hce207; have HR207_0 := Aside0.mk hi207_0; have HC207_0 := Aside0.mk hl207_0; clear hi207_0 hl207_0; replace p207 := eq_true p207; replace q207 := eq_true q207) | ((with_reducible refine gate_callee (f := 45) rfl ?_); refine goesL_ (some 69) rfl rfl Try.func45 (by kernel_rfl) rfl #[.slice A0 l0.length c0, .slice A207_0 (rd_L3 t198 x17_3).length c207_0, .int .i64 x15_2] rfl (by (try simp only [List.map_toArray, List.map_cons, List.map_nil]); first | done | rfl | (simp only [List.length_drop, List.length_take]; rfl)) ?_; (with_reducible refine (cohousingref36_Without.calls kj14 _ _ l0 _ _ (rd_L3 t198 x17_3) x15_2 t208 _ ?side1 ?side2 ?side3 ?side4 A22.out).mono ?_); (case side1 => repeat (first | exact (Kd.C_below HR0.out HB.out) | (with_reducible refine Kd.C_alloc ?_ _) | (with_reducible refine Kd.C_drewN ?_ _) | (with_reducible refine Kd.C_drew ?_))); (case side2 => exact HC0.out); (case side3 => repeat (first | exact (by repeat (first | (with_reducible exact HR207_0.out) | (with_reducible refine Kd.C_alloc ?_ _) | (with_reducible refine Kd.C_drewN ?_ _) | (with_reducible refine Kd.C_drew ?_) | exact HR207_0.out)) | (with_reducible refine Kd.C_alloc ?_ _) | (with_reducible refine Kd.C_drewN ?_ _) | (with_reducible refine Kd.C_drew ?_))); (case side4 => exact HC207_0.out); rintro e w44 ⟨v209, rfl, ho0, hb⟩; refine ⟨_, rfl, ?_⟩; have n0_ := Aside0.mk (Kd.S_elder' (by (with_reducible repeat (first | apply Kd.S_alloc | apply Kd.S_drewN | apply Kd.S_drew)); exact HO_11.out) (Kd.R_base ho0) hb); have n1_ := Aside0.mk (Kd.R_below (by (with_reducible repeat (first | apply Kd.R_alloc | apply Kd.R_drewN | apply Kd.R_drew)); exact HO_13.out) hb); have n2_ := Aside0.mk (Kd.R_below (by (with_reducible repeat (first | apply Kd.R_alloc | apply Kd.R_drewN | apply Kd.R_drew)); exact HO_14.out) hb); have n3_ := Aside0.mk (Kd.R_elder' (by (with_reducible repeat (first | apply Kd.R_alloc | apply Kd.R_drewN | apply Kd.R_drew)); exact HL203_0.out) (Kd.R_base ho0) hb); have n4_ := Aside0.mk (Kd.R_elder' (by (with_reducible repeat (first | apply Kd.R_alloc | apply Kd.R_drewN | apply Kd.R_drew)); exact HO206.out) (Kd.R_base ho0) hb); have n5_ := Aside0.mk (Kd.R_elder' (by (with_reducible repeat (first | apply Kd.R_alloc | apply Kd.R_drewN | apply Kd.R_drew)); exact HL207_0.out) (Kd.R_base ho0) hb); have n6_ := Aside0.mk (Kd.R_lower (Kd.R_new' (Kd.R_new' (Kd.R_new' ho0 (Kd.R_lt (by (with_reducible repeat (first | apply Kd.R_alloc | apply Kd.R_drewN | apply Kd.R_drew)); exact HL203_0.out))) (Kd.R_lt (by (with_reducible repeat (first | apply Kd.R_alloc | apply Kd.R_drewN | apply Kd.R_drew)); exact HO206.out))) (Kd.R_lt (by (with_reducible repeat (first | apply Kd.R_alloc | apply Kd.R_drewN | apply Kd.R_drew)); exact HL207_0.out))) (below_size (by repeat (first | (with_reducible first | exact HB.out | apply below_alloc | apply pw_below_drewN | apply below_drew1) | exact HB.out)))); have n7_ := Aside0.mk (Kd.C_below (by repeat (first | (with_reducible exact HR203_0.out) | (with_reducible refine Kd.C_alloc ?_ _) | (with_reducible refine Kd.C_drewN ?_ _) | (with_reducible refine Kd.C_drew ?_) | exact HR203_0.out)) hb); have n8_ := Aside0.mk (Kd.C_below (by repeat (first | (with_reducible exact HR207_0.out) | (with_reducible refine Kd.C_alloc ?_ _) | (with_reducible refine Kd.C_drewN ?_ _) | (with_reducible refine Kd.C_drew ?_) | exact HR207_0.out)) hb); have n9_ := Aside0.mk (below_step (by repeat (first | (with_reducible first | exact HB.out | apply below_alloc | apply pw_below_drewN | apply below_drew1) | exact HB.out)) hb); clear HO_11; clear HO_13; clear HO_14; clear HL203_0; clear HO206; clear HL207_0; clear HR203_0; clear HR207_0; clear HB; have HO_11 := n0_; have HO_13 := n1_; have HO_14 := n2_; have HL203_0 := n3_; have HO206 := n4_; have HL207_0 := n5_; have HO210 := n6_; have HR203_0 := n7_; have HR207_0 := n8_; have HB := n9_; clear n0_ n1_ n2_ n3_ n4_ n5_ n6_ n7_ n8_ n9_; (try clear hb); (try clear hb2); (try clear hk); (try clear hi); (try clear ho0); obtain ⟨Ao45, co45, eo45⟩ := Kd.R_slice HO210.out; subst eo45) | ((with_reducible refine gate_callee (f := 34) rfl ?_); refine goesL_ (some 70) rfl rfl Try.func34 (by kernel_rfl) rfl #[.slice A0 l0.length c0, .slice Ao45 t208.length co45] rfl (by (try simp only [List.map_toArray, List.map_cons, List.map_nil]); first | done | rfl | (simp only [List.length_drop, List.length_take]; rfl)) ?_; (with_reducible refine (cohousingref36_run.calls kj14 _ _ l0 _ _ t208 t211 _ ?side1 ?side2 ?side3 ?side4 A23.out).mono ?_); (case side1 => repeat (first | exact (Kd.C_below HR0.out HB.out) | (with_reducible refine Kd.C_alloc ?_ _) | (with_reducible refine Kd.C_drewN ?_ _) | (with_reducible refine Kd.C_drew ?_))); (case side2 => exact HC0.out); (case side3 => repeat (first | exact (Kd.R_reads' HO210.out).2.2 | (with_reducible refine Kd.C_alloc ?_ _) | (with_reducible refine Kd.C_drewN ?_ _) | (with_reducible refine Kd.C_drew ?_))); (case side4 => exact (Kd.R_reads' HO210.out).2.1); rintro e w46 ⟨v212, rfl, ho0, hb⟩; refine ⟨_, rfl, ?_⟩; have n0_ := Aside0.mk (Kd.S_elder' (by (with_reducible repeat (first | apply Kd.S_alloc | apply Kd.S_drewN | apply Kd.S_drew)); exact HO_11.out) (Kd.R_base ho0) hb); have n1_ := Aside0.mk (Kd.R_below (by (with_reducible repeat (first | apply Kd.R_alloc | apply Kd.R_drewN | apply Kd.R_drew)); exact HO_13.out) hb); have n2_ := Aside0.mk (Kd.R_below (by (with_reducible repeat (first | apply Kd.R_alloc | apply Kd.R_drewN | apply Kd.R_drew)); exact HO_14.out) hb); have n3_ := Aside0.mk (Kd.R_elder' (by (with_reducible repeat (first | apply Kd.R_alloc | apply Kd.R_drewN | apply Kd.R_drew)); exact HL203_0.out) (Kd.R_base ho0) hb); have n4_ := Aside0.mk (Kd.R_elder' (by (with_reducible repeat (first | apply Kd.R_alloc | apply Kd.R_drewN | apply Kd.R_drew)); exact HO206.out) (Kd.R_base ho0) hb); have n5_ := Aside0.mk (Kd.R_elder' (by (with_reducible repeat (first | apply Kd.R_alloc | apply Kd.R_drewN | apply Kd.R_drew)); exact HL207_0.out) (Kd.R_base ho0) hb); have n6_ := Aside0.mk (Kd.R_elder' (by (with_reducible repeat (first | apply Kd.R_alloc | apply Kd.R_drewN | apply Kd.R_drew)); exact HO210.out) (Kd.R_base ho0) hb); have n7_ := Aside0.mk (Kd.R_lower (Kd.R_new' (Kd.R_new' (Kd.R_new' (Kd.R_new' ho0 (Kd.R_lt (by (with_reducible repeat (first | apply Kd.R_alloc | apply Kd.R_drewN | apply Kd.R_drew)); exact HL203_0.out))) (Kd.R_lt (by (with_reducible repeat (first | apply Kd.R_alloc | apply Kd.R_drewN | apply Kd.R_drew)); exact HO206.out))) (Kd.R_lt (by (with_reducible repeat (first | apply Kd.R_alloc | apply Kd.R_drewN | apply Kd.R_drew)); exact HL207_0.out))) (Kd.R_lt (by (with_reducible repeat (first | apply Kd.R_alloc | apply Kd.R_drewN | apply Kd.R_drew)); exact HO210.out))) (below_size (by repeat (first | (with_reducible first | exact HB.out | apply below_alloc | apply pw_below_drewN | apply below_drew1) | exact HB.out)))); have n8_ := Aside0.mk (Kd.C_below (by repeat (first | (with_reducible exact HR203_0.out) | (with_reducible refine Kd.C_alloc ?_ _) | (with_reducible refine Kd.C_drewN ?_ _) | (with_reducible refine Kd.C_drew ?_) | exact HR203_0.out)) hb); have n9_ := Aside0.mk (Kd.C_below (by repeat (first | (with_reducible exact HR207_0.out) | (with_reducible refine Kd.C_alloc ?_ _) | (with_reducible refine Kd.C_drewN ?_ _) | (with_reducible refine Kd.C_drew ?_) | exact HR207_0.out)) hb); have n10_ := Aside0.mk (below_step (by repeat (first | (with_reducible first | exact HB.out | apply below_alloc | apply pw_below_drewN | apply below_drew1) | exact HB.out)) hb); clear HO_11; clear HO_13; clear HO_14; clear HL203_0; clear HO206; clear HL207_0; clear HO210; clear HR203_0; clear HR207_0; clear HB; have HO_11 := n0_; have HO_13 := n1_; have HO_14 := n2_; have HL203_0 := n3_; have HO206 := n4_; have HL207_0 := n5_; have HO210 := n6_; have HO213 := n7_; have HR203_0 := n8_; have HR207_0 := n9_; have HB := n10_; clear n0_ n1_ n2_ n3_ n4_ n5_ n6_ n7_ n8_ n9_ n10_; (try clear hb); (try clear hb2); (try clear hk); (try clear hi); (try clear ho0); obtain ⟨Ao47, co47, eo47⟩ := Kd.R_slice HO206.out; subst eo47; have p214 : 0 ≤ (a3 : Int) := of_decide_eq_true (by first | (with_reducible assumption) | assumption); have q214 : a3 < (t204.length : Int) := of_decide_eq_true (by first | (with_reducible assumption) | assumption); obtain ⟨ad214, e214, hx214_0⟩ := Kd.at_bool (Kd.R_reads' HO206.out).2.2 a3 p214 q214; (try rw [← Nbq26.out] at hx214_0); cases e214; replace p214 := eq_true p214; replace q214 := eq_true q214))
                   go_roundg kj14
                   case measure => have := HJ6.out; have := HK2.out; have := HK3.out; have := HJ14.out; omega
                   case rel => exact ⟨(x16_3), (wrap64 (x17_3 + 1)), (by first | rfl | (simp; done) | (simp [*]; done)), (by first | rfl | (simp; done) | (simp [*]; done)), H', ⟨by have := HJ6.out; have := HK2.out; have := HK3.out; have := HJ14.out; omega⟩, ⟨by (with_reducible repeat (first | apply Kd.S_alloc | apply Kd.S_drewN | apply Kd.S_drew)); exact Kd.S_mono HO_11.out (fun _ hk => trivial)⟩, ⟨by (with_reducible repeat (first | apply Kd.R_alloc | apply Kd.R_drewN | apply Kd.R_drew)); exact HO_13.out⟩, ⟨by (with_reducible repeat (first | apply Kd.R_alloc | apply Kd.R_drewN | apply Kd.R_drew)); exact HO_14.out⟩, ⟨by repeat (first | (with_reducible first | exact HB.out | apply below_alloc | apply pw_below_drewN | apply below_drew1) | exact HB.out)⟩⟩
                 ·rw [if_neg c25] at H
                  exact absurd H (by simp)
                ·rw [if_neg c24] at H
                 exact absurd H (by simp)
               ·rw [if_neg c20] at H
                exact absurd H (by simp)
              ·rw [if_neg c19] at H
               exact absurd H (by simp)
             ·replace c18 := Bool.eq_false_iff.mpr c18
              subst c18
              have H1 : (if x16_3 = (t198.length : Int) then (if x13_2.length < 17592186044416 then ((some (x13_2 ++ [x15_2] : List Int)).bind fun y216 => (if x16_3 > 0 then (if x14_2.length < 17592186044416 then (cohousingref36_Blame.l0 kj14 l0 a3 t198 y216 (x14_2 ++ [x15_2]) (wrap64 (x15_2 + 1))) else (none)) else (cohousingref36_Blame.l0 kj14 l0 a3 t198 y216 x14_2 (wrap64 (x15_2 + 1))))) else (none)) else (if x16_3 > 0 then (if x14_2.length < 17592186044416 then (cohousingref36_Blame.l0 kj14 l0 a3 t198 x13_2 (x14_2 ++ [x15_2]) (wrap64 (x15_2 + 1))) else (none)) else (cohousingref36_Blame.l0 kj14 l0 a3 t198 x13_2 x14_2 (wrap64 (x15_2 + 1))))) = some (r1, r2, r3) := by rw [if_neg (show ¬ (false = true) by decide)] at H; exact H
              clear H
              have H := H1
              clear H1
              by_cases c48 : x16_3 = (t198.length : Int)
              ·rw [if_pos c48] at H
               have c48b0 : (x16_3 == (t198.length : Int)) = true := beq_iff_eq.mpr c48
               have c48b1 : (x16_3 != (t198.length : Int)) = false := bne_eq_false_iff_eq.mpr c48
               clear c48
               by_cases c49 : x13_2.length < 17592186044416
               ·rw [if_pos c49] at H
                have LMc49 := Aside0.mk c49
                clear c49
                obtain ⟨y216, hy216⟩ : ∃ y_ : List Int, y_ = (x13_2 ++ [x15_2]) := ⟨_, rfl⟩
                replace H : (if x16_3 > 0 then (if x14_2.length < 17592186044416 then (cohousingref36_Blame.l0 kj14 l0 a3 t198 y216 (x14_2 ++ [x15_2]) (wrap64 (x15_2 + 1))) else (none)) else (cohousingref36_Blame.l0 kj14 l0 a3 t198 y216 x14_2 (wrap64 (x15_2 + 1)))) = some (r1, r2, r3) := by first | (rw [hy216]; with_reducible exact H) | (have H2_ := (Option.bind_some _ _).symm.trans H; rw [hy216]; with_reducible exact H2_) | (have H2_ := (Option.bind_some _ _).symm.trans H; with_reducible exact H2_) | with_reducible exact H | (rw [hy216]; exact H) | exact H
                have Ny216 := Aside0.mk hy216
                clear hy216
                by_cases c50 : x16_3 > 0
                ·rw [if_pos c50] at H
                 have c50b0 : decide (0 < x16_3) = true := decide_eq_true c50
                 clear c50
                 by_cases c51 : x14_2.length < 17592186044416
                 ·rw [if_pos c51] at H
                  have LMc51 := Aside0.mk c51
                  clear c51
                  obtain ⟨y219, hy219⟩ : ∃ y_ : List Int, y_ = (x14_2 ++ [x15_2]) := ⟨_, rfl⟩
                  replace H : (cohousingref36_Blame.l0 kj14 l0 a3 t198 y216 y219 (wrap64 (x15_2 + 1))) = some (r1, r2, r3) := by first | (rw [hy219]; with_reducible exact H) | (have H2_ := (Option.bind_some _ _).symm.trans H; rw [hy219]; with_reducible exact H2_) | (have H2_ := (Option.bind_some _ _).symm.trans H; with_reducible exact H2_) | with_reducible exact H | (rw [hy219]; exact H) | exact H
                  have Ny219 := Aside0.mk hy219
                  clear hy219
                  have H' := Aside0.mk H
                  clear H
                  go_wp2_with (first | ((with_reducible refine gate_builtin (b := .append) (xs := #[.tmp 88, .tmp 90]) rfl ?_); (try (refine gate_guard (by rfl) ?_; dsimp only)); at_builtin; refine Kd.R_append (Kd.int .i64) (w0 := w) w.heap.size rfl (.tmp 88) (.tmp 90) 36 3 (.int .i64 0) 8 rfl Try.underlying36 info3 rfl (by decide) (by omega) u13 x13_2 x15_2 [.int .i64 x15_2] (fun k_ => some k_ ≠ (u14 : Value).ownBlock) (fun _ => False) rfl rfl ?aP (fun _ hk => hk.elim) ?aF ?aO ?aB ?aS ?aL ?_; (case aP => exact rfl); (case aB => exact (by repeat (first | (with_reducible first | exact HB.out | apply below_alloc | apply pw_below_drewN | apply below_drew1) | exact HB.out))); (case aF => exact (fun k_ hk => Kd.fresh' (Kd.R_lt (by (with_reducible repeat (first | apply Kd.R_alloc | apply Kd.R_drewN | apply Kd.R_drew)); exact HO_14.out)) k_ hk)); (case aO => exact (by (with_reducible repeat (first | apply Kd.R_alloc | apply Kd.R_drewN | apply Kd.R_drew)); exact HO_13.out)); (case aS => exact (below_size (by repeat (first | (with_reducible first | exact HB.out | apply below_alloc | apply pw_below_drewN | apply below_drew1) | exact HB.out)))); (case aL => have := LMc49.out; omega); intro v217 w52 ho hb hg hat; rw [← Ny216.out] at ho; have n0_ := Aside0.mk (Kd.S_over' (by (with_reducible repeat (first | apply Kd.S_alloc | apply Kd.S_drewN | apply Kd.S_drew)); exact HO_11.out) (Kd.R_typed (by (with_reducible repeat (first | apply Kd.R_alloc | apply Kd.R_drewN | apply Kd.R_drew)); exact HO_13.out)) (by decide) hg); have n1_ := Aside0.mk (Kd.R_after (ok := (fun _ => True)) (by (with_reducible repeat (first | apply Kd.R_alloc | apply Kd.R_drewN | apply Kd.R_drew)); exact Kd.R_mono HO_14.out (fun _ hk => ⟨trivial, hk⟩)) hg hat); have n2_ := Aside0.mk (hb); have n3_ := Aside0.mk (ho); clear HO_11; clear HO_14; clear HB; clear HO_13; have HO_11 := n0_; have HO_14 := n1_; have HB := n2_; have HO218 := n3_; clear n0_ n1_ n2_ n3_; clear ho hb hg hat) | ((with_reducible refine gate_builtin (b := .append) (xs := #[.tmp 94, .tmp 96]) rfl ?_); (try (refine gate_guard (by rfl) ?_; dsimp only)); at_builtin; refine Kd.R_append (Kd.int .i64) (w0 := w) w.heap.size rfl (.tmp 94) (.tmp 96) 36 3 (.int .i64 0) 8 rfl Try.underlying36 info3 rfl (by decide) (by omega) u14 x14_2 x15_2 [.int .i64 x15_2] (fun k_ => some k_ ≠ (v217 : Value).ownBlock) (fun _ => False) rfl rfl ?aP (fun _ hk => hk.elim) ?aF ?aO ?aB ?aS ?aL ?_; (case aP => exact rfl); (case aB => exact (by repeat (first | (with_reducible first | exact HB.out | apply below_alloc | apply pw_below_drewN | apply below_drew1) | exact HB.out))); (case aF => exact (fun k_ hk => Kd.fresh' (Kd.R_lt (by (with_reducible repeat (first | apply Kd.R_alloc | apply Kd.R_drewN | apply Kd.R_drew)); exact HO218.out)) k_ hk)); (case aO => exact (by (with_reducible repeat (first | apply Kd.R_alloc | apply Kd.R_drewN | apply Kd.R_drew)); exact Kd.R_mono HO_14.out (fun _ hk => hk.2))); (case aS => exact (below_size (by repeat (first | (with_reducible first | exact HB.out | apply below_alloc | apply pw_below_drewN | apply below_drew1) | exact HB.out)))); (case aL => have := LMc51.out; omega); intro v220 w53 ho hb hg hat; rw [← Ny219.out] at ho; have n0_ := Aside0.mk (Kd.S_over' (by (with_reducible repeat (first | apply Kd.S_alloc | apply Kd.S_drewN | apply Kd.S_drew)); exact HO_11.out) (Kd.R_typed (by (with_reducible repeat (first | apply Kd.R_alloc | apply Kd.R_drewN | apply Kd.R_drew)); exact HO_14.out)) (by decide) hg); have n1_ := Aside0.mk (Kd.R_after (ok := (fun _ => True)) (by (with_reducible repeat (first | apply Kd.R_alloc | apply Kd.R_drewN | apply Kd.R_drew)); exact Kd.R_mono HO218.out (fun _ hk => ⟨trivial, hk⟩)) hg hat); have n2_ := Aside0.mk (hb); have n3_ := Aside0.mk (ho); clear HO_11; clear HO218; clear HB; clear HO_14; have HO_11 := n0_; have HO218 := n1_; have HB := n2_; have HO221 := n3_; clear n0_ n1_ n2_ n3_; clear ho hb hg hat))
                  go_roundg kj14
                  case measure => have := HJ6.out; have := HK2.out; have := HK3.out; have := HJ14.out; omega
                  case rel => exact ⟨(y216), (y219), (wrap64 (x15_2 + 1)), (by first | rfl | (simp; done) | (simp [*]; done)), H', ⟨by have := HJ6.out; have := HK2.out; have := HK3.out; have := HJ14.out; omega⟩, ⟨by (with_reducible repeat (first | apply Kd.S_alloc | apply Kd.S_drewN | apply Kd.S_drew)); exact HO_11.out⟩, ⟨by (with_reducible repeat (first | apply Kd.R_alloc | apply Kd.R_drewN | apply Kd.R_drew)); exact Kd.R_mono HO218.out (fun _ hk => hk.2)⟩, ⟨by (with_reducible repeat (first | apply Kd.R_alloc | apply Kd.R_drewN | apply Kd.R_drew)); exact HO221.out⟩, ⟨by repeat (first | (with_reducible first | exact HB.out | apply below_alloc | apply pw_below_drewN | apply below_drew1) | exact HB.out)⟩⟩
                 ·rw [if_neg c51] at H
                  exact absurd H (by simp)
                ·rw [if_neg c50] at H
                 have c50b0 : decide (0 < x16_3) = false := decide_eq_false c50
                 clear c50
                 have H' := Aside0.mk H
                 clear H
                 go_wp2_with (first | ((with_reducible refine gate_builtin (b := .append) (xs := #[.tmp 88, .tmp 90]) rfl ?_); (try (refine gate_guard (by rfl) ?_; dsimp only)); at_builtin; refine Kd.R_append (Kd.int .i64) (w0 := w) w.heap.size rfl (.tmp 88) (.tmp 90) 36 3 (.int .i64 0) 8 rfl Try.underlying36 info3 rfl (by decide) (by omega) u13 x13_2 x15_2 [.int .i64 x15_2] (fun k_ => some k_ ≠ (u14 : Value).ownBlock) (fun _ => False) rfl rfl ?aP (fun _ hk => hk.elim) ?aF ?aO ?aB ?aS ?aL ?_; (case aP => exact rfl); (case aB => exact (by repeat (first | (with_reducible first | exact HB.out | apply below_alloc | apply pw_below_drewN | apply below_drew1) | exact HB.out))); (case aF => exact (fun k_ hk => Kd.fresh' (Kd.R_lt (by (with_reducible repeat (first | apply Kd.R_alloc | apply Kd.R_drewN | apply Kd.R_drew)); exact HO_14.out)) k_ hk)); (case aO => exact (by (with_reducible repeat (first | apply Kd.R_alloc | apply Kd.R_drewN | apply Kd.R_drew)); exact HO_13.out)); (case aS => exact (below_size (by repeat (first | (with_reducible first | exact HB.out | apply below_alloc | apply pw_below_drewN | apply below_drew1) | exact HB.out)))); (case aL => have := LMc49.out; omega); intro v217 w54 ho hb hg hat; rw [← Ny216.out] at ho; have n0_ := Aside0.mk (Kd.S_over' (by (with_reducible repeat (first | apply Kd.S_alloc | apply Kd.S_drewN | apply Kd.S_drew)); exact HO_11.out) (Kd.R_typed (by (with_reducible repeat (first | apply Kd.R_alloc | apply Kd.R_drewN | apply Kd.R_drew)); exact HO_13.out)) (by decide) hg); have n1_ := Aside0.mk (Kd.R_after (ok := (fun _ => True)) (by (with_reducible repeat (first | apply Kd.R_alloc | apply Kd.R_drewN | apply Kd.R_drew)); exact Kd.R_mono HO_14.out (fun _ hk => ⟨trivial, hk⟩)) hg hat); have n2_ := Aside0.mk (hb); have n3_ := Aside0.mk (ho); clear HO_11; clear HO_14; clear HB; clear HO_13; have HO_11 := n0_; have HO_14 := n1_; have HB := n2_; have HO218 := n3_; clear n0_ n1_ n2_ n3_; clear ho hb hg hat))
                 go_roundg kj14
                 case measure => have := HJ6.out; have := HK2.out; have := HK3.out; have := HJ14.out; omega
                 case rel => exact ⟨(y216), (x14_2), (wrap64 (x15_2 + 1)), (by first | rfl | (simp; done) | (simp [*]; done)), H', ⟨by have := HJ6.out; have := HK2.out; have := HK3.out; have := HJ14.out; omega⟩, ⟨by (with_reducible repeat (first | apply Kd.S_alloc | apply Kd.S_drewN | apply Kd.S_drew)); exact HO_11.out⟩, ⟨by (with_reducible repeat (first | apply Kd.R_alloc | apply Kd.R_drewN | apply Kd.R_drew)); exact HO218.out⟩, ⟨by (with_reducible repeat (first | apply Kd.R_alloc | apply Kd.R_drewN | apply Kd.R_drew)); exact Kd.R_mono HO_14.out (fun _ hk => hk.2)⟩, ⟨by repeat (first | (with_reducible first | exact HB.out | apply below_alloc | apply pw_below_drewN | apply below_drew1) | exact HB.out)⟩⟩
               ·rw [if_neg c49] at H
                exact absurd H (by simp)
              ·rw [if_neg c48] at H
               have c48b0 : (x16_3 == (t198.length : Int)) = false := beq_eq_false_iff_ne.mpr c48
               have c48b1 : (x16_3 != (t198.length : Int)) = true := bne_iff_ne.mpr c48
               by_cases c55 : x16_3 > 0
               ·rw [if_pos c55] at H
                have c55b0 : decide (0 < x16_3) = true := decide_eq_true c55
                clear c55
                by_cases c56 : x14_2.length < 17592186044416
                ·rw [if_pos c56] at H
                 have LMc56 := Aside0.mk c56
                 clear c56
                 obtain ⟨y222, hy222⟩ : ∃ y_ : List Int, y_ = (x14_2 ++ [x15_2]) := ⟨_, rfl⟩
                 replace H : (cohousingref36_Blame.l0 kj14 l0 a3 t198 x13_2 y222 (wrap64 (x15_2 + 1))) = some (r1, r2, r3) := by first | (rw [hy222]; with_reducible exact H) | (have H2_ := (Option.bind_some _ _).symm.trans H; rw [hy222]; with_reducible exact H2_) | (have H2_ := (Option.bind_some _ _).symm.trans H; with_reducible exact H2_) | with_reducible exact H | (rw [hy222]; exact H) | exact H
                 have Ny222 := Aside0.mk hy222
                 clear hy222
                 have H' := Aside0.mk H
                 clear H
                 go_wp2_with (first | ((with_reducible refine gate_builtin (b := .append) (xs := #[.tmp 94, .tmp 96]) rfl ?_); (try (refine gate_guard (by rfl) ?_; dsimp only)); at_builtin; refine Kd.R_append (Kd.int .i64) (w0 := w) w.heap.size rfl (.tmp 94) (.tmp 96) 36 3 (.int .i64 0) 8 rfl Try.underlying36 info3 rfl (by decide) (by omega) u14 x14_2 x15_2 [.int .i64 x15_2] (fun k_ => some k_ ≠ (u13 : Value).ownBlock) (fun _ => False) rfl rfl ?aP (fun _ hk => hk.elim) ?aF ?aO ?aB ?aS ?aL ?_; (case aP => exact rfl); (case aB => exact (by repeat (first | (with_reducible first | exact HB.out | apply below_alloc | apply pw_below_drewN | apply below_drew1) | exact HB.out))); (case aF => exact (fun k_ hk => Kd.fresh' (Kd.R_lt (by (with_reducible repeat (first | apply Kd.R_alloc | apply Kd.R_drewN | apply Kd.R_drew)); exact HO_13.out)) k_ hk)); (case aO => exact (by (with_reducible repeat (first | apply Kd.R_alloc | apply Kd.R_drewN | apply Kd.R_drew)); exact HO_14.out)); (case aS => exact (below_size (by repeat (first | (with_reducible first | exact HB.out | apply below_alloc | apply pw_below_drewN | apply below_drew1) | exact HB.out)))); (case aL => have := LMc56.out; omega); intro v223 w57 ho hb hg hat; rw [← Ny222.out] at ho; have n0_ := Aside0.mk (Kd.S_over' (by (with_reducible repeat (first | apply Kd.S_alloc | apply Kd.S_drewN | apply Kd.S_drew)); exact HO_11.out) (Kd.R_typed (by (with_reducible repeat (first | apply Kd.R_alloc | apply Kd.R_drewN | apply Kd.R_drew)); exact HO_14.out)) (by decide) hg); have n1_ := Aside0.mk (Kd.R_after (ok := (fun _ => True)) (by (with_reducible repeat (first | apply Kd.R_alloc | apply Kd.R_drewN | apply Kd.R_drew)); exact Kd.R_mono HO_13.out (fun _ hk => ⟨trivial, hk⟩)) hg hat); have n2_ := Aside0.mk (hb); have n3_ := Aside0.mk (ho); clear HO_11; clear HO_13; clear HB; clear HO_14; have HO_11 := n0_; have HO_13 := n1_; have HB := n2_; have HO224 := n3_; clear n0_ n1_ n2_ n3_; clear ho hb hg hat))
                 go_roundg kj14
                 case measure => have := HJ6.out; have := HK2.out; have := HK3.out; have := HJ14.out; omega
                 case rel => exact ⟨(x13_2), (y222), (wrap64 (x15_2 + 1)), (by first | rfl | (simp; done) | (simp [*]; done)), H', ⟨by have := HJ6.out; have := HK2.out; have := HK3.out; have := HJ14.out; omega⟩, ⟨by (with_reducible repeat (first | apply Kd.S_alloc | apply Kd.S_drewN | apply Kd.S_drew)); exact HO_11.out⟩, ⟨by (with_reducible repeat (first | apply Kd.R_alloc | apply Kd.R_drewN | apply Kd.R_drew)); exact Kd.R_mono HO_13.out (fun _ hk => hk.2)⟩, ⟨by (with_reducible repeat (first | apply Kd.R_alloc | apply Kd.R_drewN | apply Kd.R_drew)); exact HO224.out⟩, ⟨by repeat (first | (with_reducible first | exact HB.out | apply below_alloc | apply pw_below_drewN | apply below_drew1) | exact HB.out)⟩⟩
                ·rw [if_neg c56] at H
                 exact absurd H (by simp)
               ·rw [if_neg c55] at H
                have c55b0 : decide (0 < x16_3) = false := decide_eq_false c55
                clear c55
                have H' := Aside0.mk H
                clear H
                go_wp2
                go_roundg kj14
                case measure => have := HJ6.out; have := HK2.out; have := HK3.out; have := HJ14.out; omega
                case rel => exact ⟨(x13_2), (x14_2), (wrap64 (x15_2 + 1)), (by first | rfl | (simp; done) | (simp [*]; done)), H', ⟨by have := HJ6.out; have := HK2.out; have := HK3.out; have := HJ14.out; omega⟩, ⟨by (with_reducible repeat (first | apply Kd.S_alloc | apply Kd.S_drewN | apply Kd.S_drew)); exact HO_11.out⟩, ⟨by (with_reducible repeat (first | apply Kd.R_alloc | apply Kd.R_drewN | apply Kd.R_drew)); exact HO_13.out⟩, ⟨by (with_reducible repeat (first | apply Kd.R_alloc | apply Kd.R_drewN | apply Kd.R_drew)); exact HO_14.out⟩, ⟨by repeat (first | (with_reducible first | exact HB.out | apply below_alloc | apply pw_below_drewN | apply below_drew1) | exact HB.out)⟩⟩
        ·rw [if_neg c14] at H
         have c14b0 : decide (x15_2 ≤ 64) = false := decide_eq_false c14
         clear c14
         simp only [Option.some.injEq, Prod.mk.injEq] at H
         obtain ⟨rfl, rfl, rfl⟩ := H
         go_wp2
         go_ret3
         exact ⟨_, _, by first | rfl | (simp [errW_none, errW_some] <;> rfl) | (simp [*, errW_none, errW_some] <;> rfl), by (with_reducible repeat (first | apply Kd.R_alloc | apply Kd.R_drewN | apply Kd.R_drew)); exact HO_13.out, by (with_reducible repeat (first | apply Kd.R_alloc | apply Kd.R_drewN | apply Kd.R_drew)); exact HO_14.out, by repeat (first | (with_reducible first | exact HB.out | apply below_alloc | apply pw_below_drewN | apply below_drew1) | exact HB.out)⟩
 ·rw [if_neg c6] at H
  have c6b0 : (t199 == 0) = false := beq_eq_false_iff_ne.mpr c6
  have c6b1 : (t199 != 0) = true := bne_iff_ne.mpr c6
  simp only [Option.some.injEq, Prod.mk.injEq] at H
  obtain ⟨rfl, rfl, rfl⟩ := H
  go_enter Try.func22, Try.ntmps22
  go_wp2_with (first | ((with_reducible refine gate_callee (f := 19) rfl ?_); refine goesL_ (some 24) rfl rfl Try.func19 (by kernel_rfl) rfl #[.slice A0 l0.length c0, .slice A1 l1.length c1, .int .i64 a2] rfl (by (try simp only [List.map_toArray, List.map_cons, List.map_nil]); first | done | rfl | (simp only [List.length_drop, List.length_take]; rfl)) ?_; (with_reducible refine (cohousingref36_States.calls k _ _ l0 _ _ l1 a2 t198 t199 _ ?side1 ?side2 ?side3 ?side4 A5.out).mono ?_); (case side1 => repeat (first | exact HR0.out | (with_reducible refine Kd.C_alloc ?_ _) | (with_reducible refine Kd.C_drewN ?_ _) | (with_reducible refine Kd.C_drew ?_))); (case side2 => exact HC0.out); (case side3 => repeat (first | exact HR1.out | (with_reducible refine Kd.C_alloc ?_ _) | (with_reducible refine Kd.C_drewN ?_ _) | (with_reducible refine Kd.C_drew ?_))); (case side4 => exact HC1.out); rintro e w58 ⟨v200, rfl, ho0, hb⟩; refine ⟨_, rfl, ?_⟩; have n0_ := Aside0.mk (Kd.S_lower ho0 (below_size (by repeat (first | (with_reducible first | exact HB.out | apply below_alloc | apply pw_below_drewN | apply below_drew1) | exact HB.out)))); have n1_ := Aside0.mk (below_step (by repeat (first | (with_reducible first | exact HB.out | apply below_alloc | apply pw_below_drewN | apply below_drew1) | exact HB.out)) hb); clear HB; have HO201 := n0_; have HB := n1_; clear n0_ n1_; (try clear hb); (try clear hb2); (try clear hk); (try clear hi); (try clear ho0)))
  go_ret3
  exact ⟨_, _, by first | rfl | (simp [errW_none, errW_some] <;> rfl) | (simp [*, errW_none, errW_some] <;> rfl), by first | exact Kd.R_nil _ _ _ _ _ | exact Kd.N_nil _ _ _ _ _ | exact Kd.V_nil _ _ _ _ _ | exact Kd.Q_nil _ _ _ _ _ | exact Kd.S_nil _ _ _ _ _, by first | exact Kd.R_nil _ _ _ _ _ | exact Kd.N_nil _ _ _ _ _ | exact Kd.V_nil _ _ _ _ _ | exact Kd.Q_nil _ _ _ _ _ | exact Kd.S_nil _ _ _ _ _, by repeat (first | (with_reducible first | exact HB.out | apply below_alloc | apply pw_below_drewN | apply below_drew1) | exact HB.out)⟩

/-! ### cohousingref36_SameInts: function 23 -/
def cohousingref36_SameInts.l0 : Nat → List Int → List Int → Int → Option (Bool)
 | 0, _, _, _ => none
 | k + 1, x0, x1, x5 => if x5 < (x0.length : Int) then (if 0 ≤ x5 then (if x5 < (x1.length : Int) then (if (rd x0 x5) = (rd x1 x5) then (cohousingref36_SameInts.l0 k x0 x1 (wrap64 (x5 + 1))) else (some false)) else (none)) else (none)) else (some true)
def cohousingref36_SameInts.f (k : Nat) (l0 : List Int) (l1 : List Int) : Option (Bool) := if (l0.length : Int) = (l1.length : Int) then (cohousingref36_SameInts.l0 k l0 l1 0) else (some false)
theorem cohousingref36_SameInts.mono_l : ∀ k, (∀ y0 y1 y2, LeO (cohousingref36_SameInts.l0 k y0 y1 y2) (cohousingref36_SameInts.l0 (k + 1) y0 y1 y2))
 | 0 => fun _ _ _ r h => by simp [cohousingref36_SameInts.l0] at h
 | k + 1 => by
  have ih0 := cohousingref36_SameInts.mono_l k
  ·intro y0 y1 y2
   unfold cohousingref36_SameInts.l0
   repeat' first
   | (with_reducible exact ih0 _ _ _)
   | (with_reducible exact LeO.refl _)
   | (with_reducible exact LeO.none _)
   | (with_reducible refine LeO.ite ?_ ?_)
   | (with_reducible refine LeO.bind ?_ (fun _ => ?_))
   | exact ih0 _ _ _
   | exact LeO.none _
   | refine LeO.ite ?_ ?_
   | refine LeO.bind ?_ (fun _ => ?_)
theorem cohousingref36_SameInts.mono : ∀ a0 a1 k, LeO (cohousingref36_SameInts.f k a0 a1) (cohousingref36_SameInts.f (k + 1) a0 a1) := by
 intro a0 a1 k
 have ih0 := cohousingref36_SameInts.mono_l k
 unfold cohousingref36_SameInts.f
 repeat' first
   | (with_reducible exact ih0 _ _ _)
   | (with_reducible exact LeO.refl _)
   | (with_reducible exact LeO.none _)
   | (with_reducible refine LeO.ite ?_ ?_)
   | (with_reducible refine LeO.bind ?_ (fun _ => ?_))
   | exact ih0 _ _ _
   | exact LeO.none _
   | refine LeO.ite ?_ ?_
   | refine LeO.bind ?_ (fun _ => ?_)
set_option maxHeartbeats 8000000 in
set_option maxRecDepth 100000 in
theorem cohousingref36_SameInts.calls (k : Nat) (A0 : Option Addr) (c0 : Nat) (l0 : List Int) (A1 : Option Addr) (c1 : Nat) (l1 : List Int) (r : Bool) (w : World) (hr0 : Kd.C (Kd.int .i64) w A0 l0.length l0) (hc0 : l0.length ≤ c0) (hr1 : Kd.C (Kd.int .i64) w A1 l1.length l1) (hc1 : l1.length ≤ c1) (h : cohousingref36_SameInts.f k l0 l1 = some r) :
  Calls Try.prog 23 #[.slice A0 l0.length c0, .slice A1 l1.length c1] w fun e w' => e = .returned (.bool r) ∧ Drawn0 w w' := by
 have HR0 := Aside0.mk hr0
 have HC0 := Aside0.mk hc0
 clear hr0 hc0
 have HR1 := Aside0.mk hr1
 have HC1 := Aside0.mk hc1
 clear hr1 hc1
 have H : (if (l0.length : Int) = (l1.length : Int) then (cohousingref36_SameInts.l0 k l0 l1 0) else (some false)) = some r := h
 clear h
 by_cases c3 : (l0.length : Int) = (l1.length : Int)
 ·rw [if_pos c3] at H
  have c3b0 : ((l0.length : Int) == (l1.length : Int)) = true := beq_iff_eq.mpr c3
  have c3b1 : ((l0.length : Int) != (l1.length : Int)) = false := bne_eq_false_iff_eq.mpr c3
  have c3b2 : (l0.length == l1.length) = true := by first | simpa using c3 | (simp at c3 ⊢; omega)
  clear c3
  have H' := Aside0.mk H
  clear H
  go_enter Try.func23, Try.ntmps23
  go_wp2
  repeat (go_quiet (fail); try go_wp2)
  go_loopg [5] k (fun kq v5 w' => ∃ (x5_1 : Int), v5 = .int .i64 x5_1 ∧ Aside0 (cohousingref36_SameInts.l0 kq l0 l1 x5_1 = some r) ∧ Aside0 (kq ≤ k) ∧ Drawn0 w w')
  case atStart => exact ⟨(0), (by first | rfl | (simp; done) | (simp [*]; done)), H', ⟨Nat.le_refl _⟩, by repeat (first | exact Drawn0.refl _ | apply Drawn0.step)⟩
  case round =>
   clear H'
   try clear c1
   try clear c2
   try clear p2
   try clear c3
   try clear c3b0
   try clear c3b1
   try clear c3b2
   obtain ⟨x5_1, rfl, HA, HK1, ⟨m1, rfl⟩⟩ := hrel
   cases gk with
   | zero => exact absurd HA.out (by simp [cohousingref36_SameInts.l0])
   | succ k1 =>
    have H := HA.out
    clear HA
    simp only [cohousingref36_SameInts.l0] at H
    by_cases c4 : x5_1 < (l0.length : Int)
    ·rw [if_pos c4] at H
     have c4b0 : decide (x5_1 < (l0.length : Int)) = true := decide_eq_true c4
     clear c4
     by_cases c5 : 0 ≤ x5_1
     ·rw [if_pos c5] at H
      have c5b0 : decide (0 ≤ x5_1) = true := decide_eq_true c5
      clear c5
      by_cases c6 : x5_1 < (l1.length : Int)
      ·rw [if_pos c6] at H
       have c6b0 : decide (x5_1 < (l1.length : Int)) = true := decide_eq_true c6
       clear c6
       by_cases c7 : (rd l0 x5_1) = (rd l1 x5_1)
       ·rw [if_pos c7] at H
        have c7b0 : ((rd l0 x5_1) == (rd l1 x5_1)) = true := beq_iff_eq.mpr c7
        have c7b1 : ((rd l0 x5_1) != (rd l1 x5_1)) = false := bne_eq_false_iff_eq.mpr c7
        clear c7
        have H' := Aside0.mk H
        clear H
        have p225 : 0 ≤ (x5_1 : Int) := of_decide_eq_true (by first | (with_reducible assumption) | assumption)
        have q225 : x5_1 < (l0.length : Int) := of_decide_eq_true (by first | (with_reducible assumption) | assumption)
        obtain ⟨ad225, e225, hx225_0⟩ := Kd.at_int HR0.out x5_1 p225 q225
        cases e225
        replace p225 := eq_true p225
        replace q225 := eq_true q225
        have p226 : 0 ≤ (x5_1 : Int) := of_decide_eq_true (by first | (with_reducible assumption) | assumption)
        have q226 : x5_1 < (l1.length : Int) := of_decide_eq_true (by first | (with_reducible assumption) | assumption)
        obtain ⟨ad226, e226, hx226_0⟩ := Kd.at_int HR1.out x5_1 p226 q226
        cases e226
        replace p226 := eq_true p226
        replace q226 := eq_true q226
        go_wp2
        repeat (go_quiet (fail); try go_wp2)
        go_roundg k1
        case measure => have := HK1.out; omega
        case rel => exact ⟨(wrap64 (x5_1 + 1)), (by first | rfl | (simp; done) | (simp [*]; done)), H', ⟨by have := HK1.out; omega⟩, by repeat (first | exact Drawn0.refl _ | apply Drawn0.step)⟩
       ·rw [if_neg c7] at H
        have c7b0 : ((rd l0 x5_1) == (rd l1 x5_1)) = false := beq_eq_false_iff_ne.mpr c7
        have c7b1 : ((rd l0 x5_1) != (rd l1 x5_1)) = true := bne_iff_ne.mpr c7
        obtain rfl := Option.some.inj H
        have p225 : 0 ≤ (x5_1 : Int) := of_decide_eq_true (by first | (with_reducible assumption) | assumption)
        have q225 : x5_1 < (l0.length : Int) := of_decide_eq_true (by first | (with_reducible assumption) | assumption)
        obtain ⟨ad225, e225, hx225_0⟩ := Kd.at_int HR0.out x5_1 p225 q225
        cases e225
        replace p225 := eq_true p225
        replace q225 := eq_true q225
        have p226 : 0 ≤ (x5_1 : Int) := of_decide_eq_true (by first | (with_reducible assumption) | assumption)
        have q226 : x5_1 < (l1.length : Int) := of_decide_eq_true (by first | (with_reducible assumption) | assumption)
        obtain ⟨ad226, e226, hx226_0⟩ := Kd.at_int HR1.out x5_1 p226 q226
        cases e226
        replace p226 := eq_true p226
        replace q226 := eq_true q226
        go_wp2
        repeat (go_quiet (fail); try go_wp2)
        go_ret
        exact ⟨by first | rfl | (simp; done) | (simp [*]; done), by repeat (first | exact Drawn0.refl _ | apply Drawn0.step)⟩
      ·rw [if_neg c6] at H
       exact absurd H (by simp)
     ·rw [if_neg c5] at H
      exact absurd H (by simp)
    ·rw [if_neg c4] at H
     have c4b0 : decide (x5_1 < (l0.length : Int)) = false := decide_eq_false c4
     clear c4
     obtain rfl := Option.some.inj H
     go_wp2
     repeat (go_quiet (fail); try go_wp2)
     go_ret
     exact ⟨by first | rfl | (simp; done) | (simp [*]; done), by repeat (first | exact Drawn0.refl _ | apply Drawn0.step)⟩
 ·rw [if_neg c3] at H
  have c3b0 : ((l0.length : Int) == (l1.length : Int)) = false := beq_eq_false_iff_ne.mpr c3
  have c3b1 : ((l0.length : Int) != (l1.length : Int)) = true := bne_iff_ne.mpr c3
  have c3b2 : (l0.length == l1.length) = false := by first | simpa using c3 | (simp at c3 ⊢; omega)
  obtain rfl := Option.some.inj H
  go_enter Try.func23, Try.ntmps23
  go_wp2
  repeat (go_quiet (fail); try go_wp2)
  go_ret
  exact ⟨by first | rfl | (simp; done) | (simp [*]; done), by repeat (first | exact Drawn0.refl _ | apply Drawn0.step)⟩

end Go.Proofs.Ytjdhnhfglpogmaa.P
