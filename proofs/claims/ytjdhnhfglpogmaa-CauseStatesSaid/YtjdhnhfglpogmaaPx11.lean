-- Written by a program of this session out of the translation (wip/pp: the kit's print, turned). Not trusted: Lean checks it.
import Derived.Test.YtjdhnhfglpogmaaPx0
import Derived.Test.YtjdhnhfglpogmaaPx1
import Derived.Test.YtjdhnhfglpogmaaPx4
import Derived.Test.YtjdhnhfglpogmaaPx8
import Derived.Test.YtjdhnhfglpogmaaPx10
import Derived.Test.YtjdhnhfglpogmaaXC
import Derived.Test.YtjdhnhfglpogmaaXhead
namespace Go.Proofs.Ytjdhnhfglpogmaa.P
open Go.RowKit Go.Proofs.YtjdhnhfglpogmaaW.PrintWords Go.Proofs.YtjdhnhfglpogmaaW.PrintLast Go.Proofs.YtjdhnhfglpogmaaW.PrintMore
attribute [local go_sem] max2_int min2_int max_two min_two max_three min_three max_four min_four   -- for this text's walks alone
set_option linter.unusedVariables false
set_option linter.unusedSimpArgs false

/-! ### cohousinglaw36_CauseStates: function 5 -/
mutual
def cohousinglaw36_CauseStates.j0 : Nat → List (S44) → List Bool → List (S48) → Int → Bool → Bool → Option (Bool)
 | 0, _, _, _, _, _, _ => none
 | k + 1, x0, x1, x2, x3, x9, x28 => if x28 = true then (some x9) else ((cause_States.f x0 x2 x3).bind fun bt301 => (if bt301.2 = 0 then (cohousinglaw36_CauseStates.l0 k x0 x1 x2 x3 x9 bt301.1 false bt301.1 (bt301.1.length : Int) 0) else (some false)))
def cohousinglaw36_CauseStates.l0 : Nat → List (S44) → List Bool → List (S48) → Int → Bool → List (List Bool) → Bool → List (List Bool) → Int → Int → Option (Bool)
 | 0, _, _, _, _, _, _, _, _, _, _ => none
 | k + 1, x0, x1, x2, x3, x9, x10, x12, x39, x40, x41 => if x41 < x40 then (if 0 ≤ x41 then (if x41 < (x39.length : Int) then (if ((rd_L3 x39 x41).length : Int) = (x1.length : Int) then (if x41 > 0 then (if 0 ≤ (wrap64 (x41 - 1)) then (if (wrap64 (x41 - 1)) < (x10.length : Int) then ((cohousinglaw36_less.f k (rd_L3 x10 (wrap64 (x41 - 1))) (rd_L3 x39 x41)).bind fun t308 => (if t308 = true then ((cohousinglaw36_holds.f k x0 (rd_L3 x39 x41) x2 x3).bind fun t309 => (if t309 = true then (if x12 = true then (cohousinglaw36_CauseStates.l0 k x0 x1 x2 x3 x9 x10 true x39 x40 (wrap64 (x41 + 1))) else ((cohousingref36_SameBools.f k (rd_L3 x39 x41) x1).bind fun t310 => (cohousinglaw36_CauseStates.l0 k x0 x1 x2 x3 x9 x10 t310 x39 x40 (wrap64 (x41 + 1))))) else (some false))) else (some false))) else (none)) else (none)) else ((cohousinglaw36_holds.f k x0 (rd_L3 x39 x41) x2 x3).bind fun t311 => (if t311 = true then (if x12 = true then (cohousinglaw36_CauseStates.l0 k x0 x1 x2 x3 x9 x10 true x39 x40 (wrap64 (x41 + 1))) else ((cohousingref36_SameBools.f k (rd_L3 x39 x41) x1).bind fun t312 => (cohousinglaw36_CauseStates.l0 k x0 x1 x2 x3 x9 x10 t312 x39 x40 (wrap64 (x41 + 1))))) else (some false)))) else (some false)) else (none)) else (none)) else (if x9 = true then ((cohousinglaw36_holds.f k x0 x1 x2 x3).bind fun t305 => (some (x12 == t305))) else (some false))
end
def cohousinglaw36_CauseStates.f (k : Nat) (l0 : List (S44)) (l1 : List Bool) (l2 : List (S48)) (a3 : Int) : Option (Bool) := (cohousinglaw36_head.f).bind fun t296 => ((cohousinglaw36_usable.f k l0 l2 a3).bind fun t297 => (if t297 = true then ((cohousingref36_Free.f k l0).bind fun t298 => (cohousinglaw36_CauseStates.j0 k l0 l1 l2 a3 t296 ((l1.length : Int) != (t298.length : Int)))) else (cohousinglaw36_CauseStates.j0 k l0 l1 l2 a3 t296 true)))
theorem cohousinglaw36_CauseStates.mono_l : ∀ k, (∀ y0 y1 y2 y3 y4 y5, LeO (cohousinglaw36_CauseStates.j0 k y0 y1 y2 y3 y4 y5) (cohousinglaw36_CauseStates.j0 (k + 1) y0 y1 y2 y3 y4 y5)) ∧ (∀ y0 y1 y2 y3 y4 y5 y6 y7 y8 y9, LeO (cohousinglaw36_CauseStates.l0 k y0 y1 y2 y3 y4 y5 y6 y7 y8 y9) (cohousinglaw36_CauseStates.l0 (k + 1) y0 y1 y2 y3 y4 y5 y6 y7 y8 y9))
 | 0 => ⟨fun _ _ _ _ _ _ r h => by simp [cohousinglaw36_CauseStates.j0] at h, fun _ _ _ _ _ _ _ _ _ _ r h => by simp [cohousinglaw36_CauseStates.l0] at h⟩
 | k + 1 => by
  obtain ⟨ih0, ih1⟩ := cohousinglaw36_CauseStates.mono_l k
  refine ⟨?_, ?_⟩
  ·intro y0 y1 y2 y3 y4 y5
   unfold cohousinglaw36_CauseStates.j0
   repeat' first
   | (with_reducible exact ih0 _ _ _ _ _ _)
   | (with_reducible exact ih1 _ _ _ _ _ _ _ _ _ _)
   | (with_reducible exact cohousinglaw36_holds.mono _ _ _ _ _)
   | (with_reducible exact cohousinglaw36_less.mono _ _ _)
   | (with_reducible exact cohousinglaw36_usable.mono _ _ _ _)
   | (with_reducible exact cohousingref36_Free.mono _ _)
   | (with_reducible exact cohousingref36_SameBools.mono _ _ _)
   | (with_reducible exact LeO.refl _)
   | (with_reducible exact LeO.none _)
   | (with_reducible refine LeO.ite ?_ ?_)
   | (with_reducible refine LeO.bind ?_ (fun _ => ?_))
   | exact ih0 _ _ _ _ _ _
   | exact ih1 _ _ _ _ _ _ _ _ _ _
   | exact cohousinglaw36_holds.mono _ _ _ _ _
   | exact cohousinglaw36_less.mono _ _ _
   | exact cohousinglaw36_usable.mono _ _ _ _
   | exact cohousingref36_Free.mono _ _
   | exact cohousingref36_SameBools.mono _ _ _
   | exact LeO.none _
   | refine LeO.ite ?_ ?_
   | refine LeO.bind ?_ (fun _ => ?_)
  ·intro y0 y1 y2 y3 y4 y5 y6 y7 y8 y9
   unfold cohousinglaw36_CauseStates.l0
   repeat' first
   | (with_reducible exact ih0 _ _ _ _ _ _)
   | (with_reducible exact ih1 _ _ _ _ _ _ _ _ _ _)
   | (with_reducible exact cohousinglaw36_holds.mono _ _ _ _ _)
   | (with_reducible exact cohousinglaw36_less.mono _ _ _)
   | (with_reducible exact cohousinglaw36_usable.mono _ _ _ _)
   | (with_reducible exact cohousingref36_Free.mono _ _)
   | (with_reducible exact cohousingref36_SameBools.mono _ _ _)
   | (with_reducible exact LeO.refl _)
   | (with_reducible exact LeO.none _)
   | (with_reducible refine LeO.ite ?_ ?_)
   | (with_reducible refine LeO.bind ?_ (fun _ => ?_))
   | exact ih0 _ _ _ _ _ _
   | exact ih1 _ _ _ _ _ _ _ _ _ _
   | exact cohousinglaw36_holds.mono _ _ _ _ _
   | exact cohousinglaw36_less.mono _ _ _
   | exact cohousinglaw36_usable.mono _ _ _ _
   | exact cohousingref36_Free.mono _ _
   | exact cohousingref36_SameBools.mono _ _ _
   | exact LeO.none _
   | refine LeO.ite ?_ ?_
   | refine LeO.bind ?_ (fun _ => ?_)
theorem cohousinglaw36_CauseStates.mono : ∀ a0 a1 a2 a3 k, LeO (cohousinglaw36_CauseStates.f k a0 a1 a2 a3) (cohousinglaw36_CauseStates.f (k + 1) a0 a1 a2 a3) := by
 intro a0 a1 a2 a3 k
 obtain ⟨ih0, ih1⟩ := cohousinglaw36_CauseStates.mono_l k
 unfold cohousinglaw36_CauseStates.f
 repeat' first
   | (with_reducible exact ih0 _ _ _ _ _ _)
   | (with_reducible exact ih1 _ _ _ _ _ _ _ _ _ _)
   | (with_reducible exact cohousinglaw36_holds.mono _ _ _ _ _)
   | (with_reducible exact cohousinglaw36_less.mono _ _ _)
   | (with_reducible exact cohousinglaw36_usable.mono _ _ _ _)
   | (with_reducible exact cohousingref36_Free.mono _ _)
   | (with_reducible exact cohousingref36_SameBools.mono _ _ _)
   | (with_reducible exact LeO.refl _)
   | (with_reducible exact LeO.none _)
   | (with_reducible refine LeO.ite ?_ ?_)
   | (with_reducible refine LeO.bind ?_ (fun _ => ?_))
   | exact ih0 _ _ _ _ _ _
   | exact ih1 _ _ _ _ _ _ _ _ _ _
   | exact cohousinglaw36_holds.mono _ _ _ _ _
   | exact cohousinglaw36_less.mono _ _ _
   | exact cohousinglaw36_usable.mono _ _ _ _
   | exact cohousingref36_Free.mono _ _
   | exact cohousingref36_SameBools.mono _ _ _
   | exact LeO.none _
   | refine LeO.ite ?_ ?_
   | refine LeO.bind ?_ (fun _ => ?_)
set_option maxHeartbeats 8000000 in
set_option maxRecDepth 100000 in
theorem cohousinglaw36_CauseStates.calls (k : Nat) (A0 : Option Addr) (c0 : Nat) (l0 : List (S44)) (A1 : Option Addr) (c1 : Nat) (l1 : List Bool) (A2 : Option Addr) (c2 : Nat) (l2 : List (S48)) (a3 : Int) (r : Bool) (w : World) (hr0 : Kd.C k44 w A0 l0.length l0) (hc0 : l0.length ≤ c0) (hr1 : Kd.C Kd.bool w A1 l1.length l1) (hc1 : l1.length ≤ c1) (hr2 : Kd.C k48 w A2 l2.length l2) (hc2 : l2.length ≤ c2) (h : cohousinglaw36_CauseStates.f k l0 l1 l2 a3 = some r) :
  Calls Try.prog 5 #[.slice A0 l0.length c0, .slice A1 l1.length c1, .slice A2 l2.length c2, .int .i64 a3] w fun e w' => e = .returned (.bool r) ∧ Below w.heap.size w w' := by
 have HR0 := Aside0.mk hr0
 have HC0 := Aside0.mk hc0
 clear hr0 hc0
 have HR1 := Aside0.mk hr1
 have HC1 := Aside0.mk hc1
 clear hr1 hc1
 have HR2 := Aside0.mk hr2
 have HC2 := Aside0.mk hc2
 clear hr2 hc2
 have HB := Aside0.mk (Below.refl w.heap.size w)
 have H : ((cohousinglaw36_head.f).bind fun t296 => ((cohousinglaw36_usable.f k l0 l2 a3).bind fun t297 => (if t297 = true then ((cohousingref36_Free.f k l0).bind fun t298 => (cohousinglaw36_CauseStates.j0 k l0 l1 l2 a3 t296 ((l1.length : Int) != (t298.length : Int)))) else (cohousinglaw36_CauseStates.j0 k l0 l1 l2 a3 t296 true)))) = some r := h
 clear h
 replace H := Option.bind_eq_some_iff.mp H
 obtain ⟨t296, A50, H⟩ := H
 replace H : ((cohousinglaw36_usable.f k l0 l2 a3).bind fun t297 => (if t297 = true then ((cohousingref36_Free.f k l0).bind fun t298 => (cohousinglaw36_CauseStates.j0 k l0 l1 l2 a3 t296 ((l1.length : Int) != (t298.length : Int)))) else (cohousinglaw36_CauseStates.j0 k l0 l1 l2 a3 t296 true))) = some r := H
 have A5 := Aside0.mk A50
 clear A50
 have HC6 := Aside0.mk H
 clear H
 go_enter Try.func5, Try.ntmps5
 go_upto_region 2 with (first | ((with_reducible refine gate_callee (f := 11) rfl ?_); refine goesL_ (some 15) rfl rfl Try.func11 (by kernel_rfl) rfl #[] rfl (by (try simp only [List.map_toArray, List.map_cons, List.map_nil]); first | done | rfl | (simp only [List.length_drop, List.length_take]; rfl)) ?_; (with_reducible refine (cohousinglaw36_head.calls  t296 _ A5.out).mono ?_); rintro e w7 ⟨rfl, hb⟩; refine ⟨_, rfl, ?_⟩; have n0_ := Aside0.mk (below_step (by repeat (first | (with_reducible first | exact HB.out | apply below_alloc | apply pw_below_drewN | apply below_drew1) | exact HB.out)) hb); clear HB; have HB := n0_; clear n0_; (try clear hb); (try clear hb2); (try clear hk); (try clear hi)))
 (try simp only [Act.put, List.setIfInBounds_toArray, List.set_cons_zero, List.set_cons_succ])
 go_cut [28] (fun v28 wc => ∃ (kq : Nat) (x28_5 : Bool), v28 = .bool x28_5 ∧ Aside0 (cohousinglaw36_CauseStates.j0 kq l0 l1 l2 a3 t296 x28_5 = some r) ∧ Aside0 (kq ≤ k) ∧ Aside0 (Below w.heap.size w wc))
 case first =>
  have H := HC6.out
  clear HC6
  replace H := Option.bind_eq_some_iff.mp H
  obtain ⟨t297, A80, H⟩ := H
  replace H : (if t297 = true then ((cohousingref36_Free.f k l0).bind fun t298 => (cohousinglaw36_CauseStates.j0 k l0 l1 l2 a3 t296 ((l1.length : Int) != (t298.length : Int)))) else (cohousinglaw36_CauseStates.j0 k l0 l1 l2 a3 t296 true)) = some r := H
  have A8 := Aside0.mk A80
  clear A80
  by_cases c9 : t297 = true
  ·subst c9
   have H1 : ((cohousingref36_Free.f k l0).bind fun t298 => (cohousinglaw36_CauseStates.j0 k l0 l1 l2 a3 t296 ((l1.length : Int) != (t298.length : Int)))) = some r := by rw [if_pos rfl] at H; exact H
   clear H
   have H := H1
   clear H1
   replace H := Option.bind_eq_some_iff.mp H
   obtain ⟨t298, A100, H⟩ := H
   replace H : (cohousinglaw36_CauseStates.j0 k l0 l1 l2 a3 t296 ((l1.length : Int) != (t298.length : Int))) = some r := H
   have A10 := Aside0.mk A100
   clear A100
   have H' := Aside0.mk H
   clear H
   go_wp2_with (first | ((with_reducible refine gate_callee (f := 24) rfl ?_); refine goesL_ (some 19) rfl rfl Try.func24 (by kernel_rfl) rfl #[.slice A0 l0.length c0, .slice A2 l2.length c2, .int .i64 a3] rfl (by (try simp only [List.map_toArray, List.map_cons, List.map_nil]); first | done | rfl | (simp only [List.length_drop, List.length_take]; rfl)) ?_; (with_reducible refine (cohousinglaw36_usable.calls k _ _ l0 _ _ l2 a3 true _ ?side1 ?side2 ?side3 ?side4 A8.out).mono ?_); (case side1 => repeat (first | exact (Kd.C_below HR0.out HB.out) | (with_reducible refine Kd.C_alloc ?_ _) | (with_reducible refine Kd.C_drewN ?_ _) | (with_reducible refine Kd.C_drew ?_))); (case side2 => exact HC0.out); (case side3 => repeat (first | exact (Kd.C_below HR2.out HB.out) | (with_reducible refine Kd.C_alloc ?_ _) | (with_reducible refine Kd.C_drewN ?_ _) | (with_reducible refine Kd.C_drew ?_))); (case side4 => exact HC2.out); rintro e w11 ⟨rfl, hb⟩; refine ⟨_, rfl, ?_⟩; have n0_ := Aside0.mk (below_step (by repeat (first | (with_reducible first | exact HB.out | apply below_alloc | apply pw_below_drewN | apply below_drew1) | exact HB.out)) hb); clear HB; have HB := n0_; clear n0_; (try clear hb); (try clear hb2); (try clear hk); (try clear hi)) | (go_at_call 25; (with_reducible refine (cohousingref36_Free.calls k _ _ l0 t298 _ ?side1 ?side2 A10.out).mono ?_); (case side1 => repeat (first | exact (Kd.C_below HR0.out HB.out) | (with_reducible refine Kd.C_alloc ?_ _) | (with_reducible refine Kd.C_drewN ?_ _) | (with_reducible refine Kd.C_drew ?_))); (case side2 => exact HC0.out); rintro e w12 ⟨v299, rfl, ho0, hb⟩; have n0_ := Aside0.mk (Kd.R_lower ho0 (below_size (by repeat (first | (with_reducible first | exact HB.out | apply below_alloc | apply pw_below_drewN | apply below_drew1) | exact HB.out)))); have n1_ := Aside0.mk (below_step (by repeat (first | (with_reducible first | exact HB.out | apply below_alloc | apply pw_below_drewN | apply below_drew1) | exact HB.out)) hb); clear HB; have HO300 := n0_; have HB := n1_; clear n0_ n1_; (try clear hb); (try clear hb2); (try clear hk); (try clear hi); (try clear ho0); obtain ⟨Ao13, co13, eo13⟩ := Kd.R_slice HO300.out; subst eo13))
   go_meet
   case rel => exact ⟨_, (((l1.length : Int) != (t298.length : Int))), (by first | rfl | (simp; done) | (simp [*]; done)), H', ⟨by first | omega | exact Nat.le_refl _⟩, ⟨by repeat (first | (with_reducible first | exact HB.out | apply below_alloc | apply pw_below_drewN | apply below_drew1) | exact HB.out)⟩⟩
  ·replace c9 := Bool.eq_false_iff.mpr c9
   subst c9
   have H1 : (cohousinglaw36_CauseStates.j0 k l0 l1 l2 a3 t296 true) = some r := by rw [if_neg (show ¬ (false = true) by decide)] at H; exact H
   clear H
   have H := H1
   clear H1
   have H' := Aside0.mk H
   clear H
   go_wp2_with (first | ((with_reducible refine gate_callee (f := 24) rfl ?_); refine goesL_ (some 19) rfl rfl Try.func24 (by kernel_rfl) rfl #[.slice A0 l0.length c0, .slice A2 l2.length c2, .int .i64 a3] rfl (by (try simp only [List.map_toArray, List.map_cons, List.map_nil]); first | done | rfl | (simp only [List.length_drop, List.length_take]; rfl)) ?_; (with_reducible refine (cohousinglaw36_usable.calls k _ _ l0 _ _ l2 a3 false _ ?side1 ?side2 ?side3 ?side4 A8.out).mono ?_); (case side1 => repeat (first | exact (Kd.C_below HR0.out HB.out) | (with_reducible refine Kd.C_alloc ?_ _) | (with_reducible refine Kd.C_drewN ?_ _) | (with_reducible refine Kd.C_drew ?_))); (case side2 => exact HC0.out); (case side3 => repeat (first | exact (Kd.C_below HR2.out HB.out) | (with_reducible refine Kd.C_alloc ?_ _) | (with_reducible refine Kd.C_drewN ?_ _) | (with_reducible refine Kd.C_drew ?_))); (case side4 => exact HC2.out); rintro e w14 ⟨rfl, hb⟩; refine ⟨_, rfl, ?_⟩; have n0_ := Aside0.mk (below_step (by repeat (first | (with_reducible first | exact HB.out | apply below_alloc | apply pw_below_drewN | apply below_drew1) | exact HB.out)) hb); clear HB; have HB := n0_; clear n0_; (try clear hb); (try clear hb2); (try clear hk); (try clear hi)))
   go_meet
   case rel => exact ⟨_, (true), (by first | rfl | (simp; done) | (simp [*]; done)), H', ⟨by first | omega | exact Nat.le_refl _⟩, ⟨by repeat (first | (with_reducible first | exact HB.out | apply below_alloc | apply pw_below_drewN | apply below_drew1) | exact HB.out)⟩⟩
 case rest =>
  clear HC6
  try clear c1
  try clear c2
  try clear p2
  try clear c5
  try clear c9
  try clear c11
  obtain ⟨kq, x28_5, rfl, HA, HJ5, HB⟩ := hcut
  cases kq with
  | zero => exact absurd HA.out (by simp [cohousinglaw36_CauseStates.j0])
  | succ kj5 =>
   have H := HA.out
   clear HA
   simp only [cohousinglaw36_CauseStates.j0] at H
   by_cases c15 : x28_5 = true
   ·subst c15
    have H1 : (some t296) = some r := by rw [if_pos rfl] at H; exact H
    clear H
    have H := H1
    clear H1
    obtain rfl := Option.some.inj H
    go_wp2
    go_ret
    exact ⟨by first | rfl | (simp [errW_none, errW_some] <;> rfl) | (simp [*, errW_none, errW_some] <;> rfl), by repeat (first | (with_reducible first | exact HB.out | apply below_alloc | apply pw_below_drewN | apply below_drew1) | exact HB.out)⟩
   ·replace c15 := Bool.eq_false_iff.mpr c15
    subst c15
    have H1 : ((cause_States.f l0 l2 a3).bind fun bt301 => (if bt301.2 = 0 then (cohousinglaw36_CauseStates.l0 kj5 l0 l1 l2 a3 t296 bt301.1 false bt301.1 (bt301.1.length : Int) 0) else (some false))) = some r := by rw [if_neg (show ¬ (false = true) by decide)] at H; exact H
    clear H
    have H := H1
    clear H1
    replace H := Option.bind_eq_some_iff.mp H
    obtain ⟨⟨t301, t302⟩, A160, H⟩ := H
    replace H : (if t302 = 0 then (cohousinglaw36_CauseStates.l0 kj5 l0 l1 l2 a3 t296 t301 false t301 (t301.length : Int) 0) else (some false)) = some r := H
    have A16 := Aside0.mk A160
    clear A160
    by_cases c17 : t302 = 0
    ·rw [if_pos c17] at H
     have c17b0 : (t302 == 0) = true := beq_iff_eq.mpr c17
     have c17b1 : (t302 != 0) = false := bne_eq_false_iff_eq.mpr c17
     clear c17
     have H' := Aside0.mk H
     clear H
     go_wp2_with (first | ((with_reducible refine gate_callee (f := 18) rfl ?_); refine goesL_ (some 34) rfl rfl Try.func18 (by kernel_rfl) rfl #[.slice A0 l0.length c0, .slice A2 l2.length c2, .int .i64 a3] rfl (by (try simp only [List.map_toArray, List.map_cons, List.map_nil]); first | done | rfl | (simp only [List.length_drop, List.length_take]; rfl)) ?_; (with_reducible refine (cause_States.calls _ _ l0 _ _ l2 a3 t301 t302 _ ?side1 ?side2 ?side3 ?side4 A16.out).mono ?_); (case side1 => repeat (first | exact (Kd.C_below HR0.out HB.out) | (with_reducible refine Kd.C_alloc ?_ _) | (with_reducible refine Kd.C_drewN ?_ _) | (with_reducible refine Kd.C_drew ?_))); (case side2 => exact HC0.out); (case side3 => repeat (first | exact (Kd.C_below HR2.out HB.out) | (with_reducible refine Kd.C_alloc ?_ _) | (with_reducible refine Kd.C_drewN ?_ _) | (with_reducible refine Kd.C_drew ?_))); (case side4 => exact HC2.out); rintro e w18 ⟨v303, rfl, ho0, hb⟩; refine ⟨_, rfl, ?_⟩; have n0_ := Aside0.mk (Kd.S_lower ho0 (below_size (by repeat (first | (with_reducible first | exact HB.out | apply below_alloc | apply pw_below_drewN | apply below_drew1) | exact HB.out)))); have n1_ := Aside0.mk (below_step (by repeat (first | (with_reducible first | exact HB.out | apply below_alloc | apply pw_below_drewN | apply below_drew1) | exact HB.out)) hb); clear HB; have HO304 := n0_; have HB := n1_; clear n0_ n1_; (try clear hb); (try clear hb2); (try clear hk); (try clear hi); (try clear ho0); obtain ⟨Ao19, co19, eo19⟩ := Kd.S_slice HO304.out; subst eo19))
     go_loopg [12, 41] kj5 (fun kq v12 v41 w' => ∃ (x12_2 : Bool) (x41_2 : Int), v12 = .bool x12_2 ∧ v41 = .int .i64 x41_2 ∧ Aside0 (cohousinglaw36_CauseStates.l0 kq l0 l1 l2 a3 t296 t301 x12_2 t301 (t301.length : Int) x41_2 = some r) ∧ Aside0 (kq ≤ kj5) ∧ Aside0 (Kd.S (Kd.slice 4 Kd.bool) 23 w' w.heap.size (fun _ => True) (.slice Ao19 t301.length co19) t301) ∧ Aside0 (Kd.S (Kd.slice 4 Kd.bool) 23 w' w.heap.size (fun _ => True) (.slice Ao19 t301.length co19) t301) ∧ Aside0 (Below w.heap.size w w'))
     case atStart => exact ⟨(false), (0), (by first | rfl | (simp; done) | (simp [*]; done)), (by first | rfl | (simp; done) | (simp [*]; done)), H', ⟨Nat.le_refl _⟩, ⟨by (with_reducible repeat (first | apply Kd.S_alloc | apply Kd.S_drewN | apply Kd.S_drew)); exact HO304.out⟩, ⟨by (with_reducible repeat (first | apply Kd.S_alloc | apply Kd.S_drewN | apply Kd.S_drew)); exact HO304.out⟩, ⟨by repeat (first | (with_reducible first | exact HB.out | apply below_alloc | apply pw_below_drewN | apply below_drew1) | exact HB.out)⟩⟩
     case round =>
      clear H'
      try clear c1
      try clear c2
      try clear p2
      try clear c5
      try clear c9
      try clear c11
      try clear c15
      try clear c17
      try clear c17b0
      try clear c17b1
      try clear c18
      try clear p2
      obtain ⟨x12_2, x41_2, rfl, rfl, HA, HK2, HO_10, HO_39, HB⟩ := hrel
      cases gk with
      | zero => exact absurd HA.out (by simp [cohousinglaw36_CauseStates.l0])
      | succ k2 =>
       have H := HA.out
       clear HA
       simp only [cohousinglaw36_CauseStates.l0] at H
       by_cases c20 : x41_2 < (t301.length : Int)
       ·rw [if_pos c20] at H
        have c20b0 : decide (x41_2 < (t301.length : Int)) = true := decide_eq_true c20
        clear c20
        by_cases c21 : 0 ≤ x41_2
        ·rw [if_pos c21] at H
         have c21b0 : decide (0 ≤ x41_2) = true := decide_eq_true c21
         clear c21
         by_cases c22 : x41_2 < (t301.length : Int)
         ·rw [if_pos c22] at H
          have c22b0 : decide (x41_2 < (t301.length : Int)) = true := decide_eq_true c22
          clear c22
          by_cases c23 : ((rd_L3 t301 x41_2).length : Int) = (l1.length : Int)
          ·rw [if_pos c23] at H
           have c23b0 : (((rd_L3 t301 x41_2).length : Int) == (l1.length : Int)) = true := beq_iff_eq.mpr c23
           have c23b1 : (((rd_L3 t301 x41_2).length : Int) != (l1.length : Int)) = false := bne_eq_false_iff_eq.mpr c23
           have c23b2 : ((rd_L3 t301 x41_2).length == l1.length) = true := by first | simpa using c23 | (simp at c23 ⊢; omega)
           clear c23
           by_cases c24 : x41_2 > 0
           ·rw [if_pos c24] at H
            have c24b0 : decide (0 < x41_2) = true := decide_eq_true c24
            clear c24
            obtain ⟨ji25, hji25⟩ : ∃ j_ : Int, (wrap64 (x41_2 - 1)) = j_ := ⟨_, rfl⟩
            replace H : (if 0 ≤ (ji25) then (if (ji25) < (t301.length : Int) then ((cohousinglaw36_less.f k2 (rd_L3 t301 (ji25)) (rd_L3 t301 x41_2)).bind fun t308 => (if t308 = true then ((cohousinglaw36_holds.f k2 l0 (rd_L3 t301 x41_2) l2 a3).bind fun t309 => (if t309 = true then (if x12_2 = true then (cohousinglaw36_CauseStates.l0 k2 l0 l1 l2 a3 t296 t301 true t301 (t301.length : Int) (wrap64 (x41_2 + 1))) else ((cohousingref36_SameBools.f k2 (rd_L3 t301 x41_2) l1).bind fun t310 => (cohousinglaw36_CauseStates.l0 k2 l0 l1 l2 a3 t296 t301 t310 t301 (t301.length : Int) (wrap64 (x41_2 + 1))))) else (some false))) else (some false))) else (none)) else (none)) = some r := by first | (rw [hji25] at H; exact H) | (simp only [hji25] at H ⊢; exact H)
            have hji25w : (IntKind.i64.wrap (x41_2 - 1)) = ji25 := (i64_w _).trans hji25
            by_cases c26 : 0 ≤ (ji25)
            ·rw [if_pos c26] at H
             have c26b0 : decide (0 ≤ (ji25)) = true := decide_eq_true c26
             clear c26
             by_cases c27 : (ji25) < (t301.length : Int)
             ·rw [if_pos c27] at H
              have c27b0 : decide ((ji25) < (t301.length : Int)) = true := decide_eq_true c27
              clear c27
              replace H := Option.bind_eq_some_iff.mp H
              obtain ⟨t308, A280, H⟩ := H
              replace H : (if t308 = true then ((cohousinglaw36_holds.f k2 l0 (rd_L3 t301 x41_2) l2 a3).bind fun t309 => (if t309 = true then (if x12_2 = true then (cohousinglaw36_CauseStates.l0 k2 l0 l1 l2 a3 t296 t301 true t301 (t301.length : Int) (wrap64 (x41_2 + 1))) else ((cohousingref36_SameBools.f k2 (rd_L3 t301 x41_2) l1).bind fun t310 => (cohousinglaw36_CauseStates.l0 k2 l0 l1 l2 a3 t296 t301 t310 t301 (t301.length : Int) (wrap64 (x41_2 + 1))))) else (some false))) else (some false)) = some r := H
              have A28 := Aside0.mk A280
              clear A280
              by_cases c29 : t308 = true
              ·subst c29
               have H1 : ((cohousinglaw36_holds.f k2 l0 (rd_L3 t301 x41_2) l2 a3).bind fun t309 => (if t309 = true then (if x12_2 = true then (cohousinglaw36_CauseStates.l0 k2 l0 l1 l2 a3 t296 t301 true t301 (t301.length : Int) (wrap64 (x41_2 + 1))) else ((cohousingref36_SameBools.f k2 (rd_L3 t301 x41_2) l1).bind fun t310 => (cohousinglaw36_CauseStates.l0 k2 l0 l1 l2 a3 t296 t301 t310 t301 (t301.length : Int) (wrap64 (x41_2 + 1))))) else (some false))) = some r := by rw [if_pos rfl] at H; exact H
               clear H
               have H := H1
               clear H1
               replace H := Option.bind_eq_some_iff.mp H
               obtain ⟨t309, A300, H⟩ := H
               replace H : (if t309 = true then (if x12_2 = true then (cohousinglaw36_CauseStates.l0 k2 l0 l1 l2 a3 t296 t301 true t301 (t301.length : Int) (wrap64 (x41_2 + 1))) else ((cohousingref36_SameBools.f k2 (rd_L3 t301 x41_2) l1).bind fun t310 => (cohousinglaw36_CauseStates.l0 k2 l0 l1 l2 a3 t296 t301 t310 t301 (t301.length : Int) (wrap64 (x41_2 + 1))))) else (some false)) = some r := H
               have A30 := Aside0.mk A300
               clear A300
               by_cases c31 : t309 = true
               ·subst c31
                have H1 : (if x12_2 = true then (cohousinglaw36_CauseStates.l0 k2 l0 l1 l2 a3 t296 t301 true t301 (t301.length : Int) (wrap64 (x41_2 + 1))) else ((cohousingref36_SameBools.f k2 (rd_L3 t301 x41_2) l1).bind fun t310 => (cohousinglaw36_CauseStates.l0 k2 l0 l1 l2 a3 t296 t301 t310 t301 (t301.length : Int) (wrap64 (x41_2 + 1))))) = some r := by rw [if_pos rfl] at H; exact H
                clear H
                have H := H1
                clear H1
                by_cases c32 : x12_2 = true
                ·subst c32
                 have H1 : (cohousinglaw36_CauseStates.l0 k2 l0 l1 l2 a3 t296 t301 true t301 (t301.length : Int) (wrap64 (x41_2 + 1))) = some r := by rw [if_pos rfl] at H; exact H
                 clear H
                 have H := H1
                 clear H1
                 have H' := Aside0.mk H
                 clear H
                 have p306 : 0 ≤ (x41_2 : Int) := of_decide_eq_true (by first | (with_reducible assumption) | assumption)
                 have q306 : x41_2 < (t301.length : Int) := of_decide_eq_true (by first | (with_reducible assumption) | assumption)
                 obtain ⟨ad306, A306_0, c306_0, e306, hx306_0, hl306_0, hi306_0⟩ := at_L3 (Kd.S_reads' HO_39.out).2.2 x41_2 p306 q306
                 cases e306
                 obtain ⟨ce306, hce306, hMe306, hcc306⟩ := Kd.S_get HO_39.out [] x41_2 p306 (by first | exact q306 | exact of_decide_eq_true (by first | (with_reducible assumption) | assumption) | (have e_ := (Kd.S_reads' HO_39.out).1; omega))
                 obtain ⟨ve306_0, rfl, ge306_0⟩ := hMe306
                 have hv306_0 := hcc306 0 _ rfl
                 rw [Nat.add_zero, show ((Kd.slice 4 Kd.bool)).sz = 1 from rfl, Nat.mul_one] at hv306_0
                 replace hv306_0 := Option.some.inj (hv306_0.symm.trans hx306_0)
                 rw [hv306_0] at ge306_0
                 have HL306_0 := Aside0.mk (show Kd.R Kd.bool 4 _ _ _ _ (rd_L3 t301 x41_2) from ge306_0)
                 clear hv306_0 ge306_0
                 clear hcc306 hce306
                 have HR306_0 := Aside0.mk hi306_0
                 have HC306_0 := Aside0.mk hl306_0
                 clear hi306_0 hl306_0
                 replace p306 := eq_true p306
                 replace q306 := eq_true q306
                 have p307 : 0 ≤ ((ji25) : Int) := of_decide_eq_true (by first | (with_reducible assumption) | assumption)
                 have q307 : (ji25) < (t301.length : Int) := of_decide_eq_true (by first | (with_reducible assumption) | assumption)
                 obtain ⟨ad307, A307_0, c307_0, e307, hx307_0, hl307_0, hi307_0⟩ := at_L3 (Kd.S_reads' HO_10.out).2.2 (ji25) p307 q307
                 obtain rfl : ad306 = ad307 := (by injection e307)
                 obtain ⟨ce307, hce307, hMe307, hcc307⟩ := Kd.S_get HO_10.out [] (ji25) p307 (by first | exact q307 | exact of_decide_eq_true (by first | (with_reducible assumption) | assumption) | (have e_ := (Kd.S_reads' HO_10.out).1; omega))
                 obtain ⟨ve307_0, rfl, ge307_0⟩ := hMe307
                 have hv307_0 := hcc307 0 _ rfl
                 rw [Nat.add_zero, show ((Kd.slice 4 Kd.bool)).sz = 1 from rfl, Nat.mul_one] at hv307_0
                 replace hv307_0 := Option.some.inj (hv307_0.symm.trans hx307_0)
                 rw [hv307_0] at ge307_0
                 have HL307_0 := Aside0.mk (show Kd.R Kd.bool 4 _ _ _ _ (rd_L3 t301 (ji25)) from ge307_0)
                 clear hv307_0 ge307_0
                 clear hcc307 hce307
                 have HR307_0 := Aside0.mk hi307_0
                 have HC307_0 := Aside0.mk hl307_0
                 clear hi307_0 hl307_0
                 replace p307 := eq_true p307
                 replace q307 := eq_true q307
                 go_wp2_with (first | (go_at_call 26; (with_reducible refine (cohousinglaw36_less.calls k2 _ _ (rd_L3 t301 (ji25)) _ _ (rd_L3 t301 x41_2) true _ ?side1 ?side2 ?side3 ?side4 A28.out).mono ?_); (case side1 => repeat (first | exact (by repeat (first | (with_reducible exact HR307_0.out) | (with_reducible refine Kd.C_alloc ?_ _) | (with_reducible refine Kd.C_drewN ?_ _) | (with_reducible refine Kd.C_drew ?_) | exact HR307_0.out)) | (with_reducible refine Kd.C_alloc ?_ _) | (with_reducible refine Kd.C_drewN ?_ _) | (with_reducible refine Kd.C_drew ?_))); (case side2 => exact HC307_0.out); (case side3 => repeat (first | exact (by repeat (first | (with_reducible exact HR306_0.out) | (with_reducible refine Kd.C_alloc ?_ _) | (with_reducible refine Kd.C_drewN ?_ _) | (with_reducible refine Kd.C_drew ?_) | exact HR306_0.out)) | (with_reducible refine Kd.C_alloc ?_ _) | (with_reducible refine Kd.C_drewN ?_ _) | (with_reducible refine Kd.C_drew ?_))); (case side4 => exact HC306_0.out); rintro e w' ⟨rfl, ⟨nd, rfl⟩⟩) | (go_at_call 27; (with_reducible refine (cohousinglaw36_holds.calls k2 _ _ l0 _ _ (rd_L3 t301 x41_2) _ _ l2 a3 true _ ?side1 ?side2 ?side3 ?side4 ?side5 ?side6 A30.out).mono ?_); (case side1 => repeat (first | exact (Kd.C_below HR0.out (by repeat (first | (with_reducible first | exact HB.out | apply below_alloc | apply pw_below_drewN | apply below_drew1) | exact HB.out))) | (with_reducible refine Kd.C_alloc ?_ _) | (with_reducible refine Kd.C_drewN ?_ _) | (with_reducible refine Kd.C_drew ?_))); (case side2 => exact HC0.out); (case side3 => repeat (first | exact (by repeat (first | (with_reducible exact HR306_0.out) | (with_reducible refine Kd.C_alloc ?_ _) | (with_reducible refine Kd.C_drewN ?_ _) | (with_reducible refine Kd.C_drew ?_) | exact HR306_0.out)) | (with_reducible refine Kd.C_alloc ?_ _) | (with_reducible refine Kd.C_drewN ?_ _) | (with_reducible refine Kd.C_drew ?_))); (case side4 => exact HC306_0.out); (case side5 => repeat (first | exact (Kd.C_below HR2.out (by repeat (first | (with_reducible first | exact HB.out | apply below_alloc | apply pw_below_drewN | apply below_drew1) | exact HB.out))) | (with_reducible refine Kd.C_alloc ?_ _) | (with_reducible refine Kd.C_drewN ?_ _) | (with_reducible refine Kd.C_drew ?_))); (case side6 => exact HC2.out); rintro e w33 ⟨rfl, hb⟩; have n0_ := Aside0.mk (Kd.S_below (by (with_reducible repeat (first | apply Kd.S_alloc | apply Kd.S_drewN | apply Kd.S_drew)); exact HO_10.out) hb); have n1_ := Aside0.mk (Kd.S_below (by (with_reducible repeat (first | apply Kd.S_alloc | apply Kd.S_drewN | apply Kd.S_drew)); exact HO_39.out) hb); have n2_ := Aside0.mk (Kd.R_below (by (with_reducible repeat (first | apply Kd.R_alloc | apply Kd.R_drewN | apply Kd.R_drew)); exact HL306_0.out) hb); have n3_ := Aside0.mk (Kd.R_below (by (with_reducible repeat (first | apply Kd.R_alloc | apply Kd.R_drewN | apply Kd.R_drew)); exact HL307_0.out) hb); have n4_ := Aside0.mk (Kd.C_below (by repeat (first | (with_reducible exact HR306_0.out) | (with_reducible refine Kd.C_alloc ?_ _) | (with_reducible refine Kd.C_drewN ?_ _) | (with_reducible refine Kd.C_drew ?_) | exact HR306_0.out)) hb); have n5_ := Aside0.mk (Kd.C_below (by repeat (first | (with_reducible exact HR307_0.out) | (with_reducible refine Kd.C_alloc ?_ _) | (with_reducible refine Kd.C_drewN ?_ _) | (with_reducible refine Kd.C_drew ?_) | exact HR307_0.out)) hb); have n6_ := Aside0.mk (below_step (by repeat (first | (with_reducible first | exact HB.out | apply below_alloc | apply pw_below_drewN | apply below_drew1) | exact HB.out)) hb); clear HO_10; clear HO_39; clear HL306_0; clear HL307_0; clear HR306_0; clear HR307_0; clear HB; have HO_10 := n0_; have HO_39 := n1_; have HL306_0 := n2_; have HL307_0 := n3_; have HR306_0 := n4_; have HR307_0 := n5_; have HB := n6_; clear n0_ n1_ n2_ n3_ n4_ n5_ n6_; (try clear hb); (try clear hb2); (try clear hk); (try clear hi)))
                 go_roundg k2
                 case measure => have := HJ5.out; have := HK2.out; omega
                 case rel => exact ⟨(true), (wrap64 (x41_2 + 1)), (by first | rfl | (simp; done) | (simp [*]; done)), (by first | rfl | (simp; done) | (simp [*]; done)), H', ⟨by have := HJ5.out; have := HK2.out; omega⟩, ⟨by (with_reducible repeat (first | apply Kd.S_alloc | apply Kd.S_drewN | apply Kd.S_drew)); exact HO_10.out⟩, ⟨by (with_reducible repeat (first | apply Kd.S_alloc | apply Kd.S_drewN | apply Kd.S_drew)); exact HO_39.out⟩, ⟨by repeat (first | (with_reducible first | exact HB.out | apply below_alloc | apply pw_below_drewN | apply below_drew1) | exact HB.out)⟩⟩
                ·replace c32 := Bool.eq_false_iff.mpr c32
                 subst c32
                 have H1 : ((cohousingref36_SameBools.f k2 (rd_L3 t301 x41_2) l1).bind fun t310 => (cohousinglaw36_CauseStates.l0 k2 l0 l1 l2 a3 t296 t301 t310 t301 (t301.length : Int) (wrap64 (x41_2 + 1)))) = some r := by rw [if_neg (show ¬ (false = true) by decide)] at H; exact H
                 clear H
                 have H := H1
                 clear H1
                 replace H := Option.bind_eq_some_iff.mp H
                 obtain ⟨t310, A340, H⟩ := H
                 replace H : (cohousinglaw36_CauseStates.l0 k2 l0 l1 l2 a3 t296 t301 t310 t301 (t301.length : Int) (wrap64 (x41_2 + 1))) = some r := H
                 have A34 := Aside0.mk A340
                 clear A340
                 have H' := Aside0.mk H
                 clear H
                 have p306 : 0 ≤ (x41_2 : Int) := of_decide_eq_true (by first | (with_reducible assumption) | assumption)
                 have q306 : x41_2 < (t301.length : Int) := of_decide_eq_true (by first | (with_reducible assumption) | assumption)
                 obtain ⟨ad306, A306_0, c306_0, e306, hx306_0, hl306_0, hi306_0⟩ := at_L3 (Kd.S_reads' HO_39.out).2.2 x41_2 p306 q306
                 cases e306
                 obtain ⟨ce306, hce306, hMe306, hcc306⟩ := Kd.S_get HO_39.out [] x41_2 p306 (by first | exact q306 | exact of_decide_eq_true (by first | (with_reducible assumption) | assumption) | (have e_ := (Kd.S_reads' HO_39.out).1; omega))
                 obtain ⟨ve306_0, rfl, ge306_0⟩ := hMe306
                 have hv306_0 := hcc306 0 _ rfl
                 rw [Nat.add_zero, show ((Kd.slice 4 Kd.bool)).sz = 1 from rfl, Nat.mul_one] at hv306_0
                 replace hv306_0 := Option.some.inj (hv306_0.symm.trans hx306_0)
                 rw [hv306_0] at ge306_0
                 have HL306_0 := Aside0.mk (show Kd.R Kd.bool 4 _ _ _ _ (rd_L3 t301 x41_2) from ge306_0)
                 clear hv306_0 ge306_0
                 clear hcc306 hce306
                 have HR306_0 := Aside0.mk hi306_0
                 have HC306_0 := Aside0.mk hl306_0
                 clear hi306_0 hl306_0
                 replace p306 := eq_true p306
                 replace q306 := eq_true q306
                 have p307 : 0 ≤ ((ji25) : Int) := of_decide_eq_true (by first | (with_reducible assumption) | assumption)
                 have q307 : (ji25) < (t301.length : Int) := of_decide_eq_true (by first | (with_reducible assumption) | assumption)
                 obtain ⟨ad307, A307_0, c307_0, e307, hx307_0, hl307_0, hi307_0⟩ := at_L3 (Kd.S_reads' HO_10.out).2.2 (ji25) p307 q307
                 obtain rfl : ad306 = ad307 := (by injection e307)
                 obtain ⟨ce307, hce307, hMe307, hcc307⟩ := Kd.S_get HO_10.out [] (ji25) p307 (by first | exact q307 | exact of_decide_eq_true (by first | (with_reducible assumption) | assumption) | (have e_ := (Kd.S_reads' HO_10.out).1; omega))
                 obtain ⟨ve307_0, rfl, ge307_0⟩ := hMe307
                 have hv307_0 := hcc307 0 _ rfl
                 rw [Nat.add_zero, show ((Kd.slice 4 Kd.bool)).sz = 1 from rfl, Nat.mul_one] at hv307_0
                 replace hv307_0 := Option.some.inj (hv307_0.symm.trans hx307_0)
                 rw [hv307_0] at ge307_0
                 have HL307_0 := Aside0.mk (show Kd.R Kd.bool 4 _ _ _ _ (rd_L3 t301 (ji25)) from ge307_0)
                 clear hv307_0 ge307_0
                 clear hcc307 hce307
                 have HR307_0 := Aside0.mk hi307_0
                 have HC307_0 := Aside0.mk hl307_0
                 clear hi307_0 hl307_0
                 replace p307 := eq_true p307
                 replace q307 := eq_true q307
                 go_wp2_with (first | (go_at_call 26; (with_reducible refine (cohousinglaw36_less.calls k2 _ _ (rd_L3 t301 (ji25)) _ _ (rd_L3 t301 x41_2) true _ ?side1 ?side2 ?side3 ?side4 A28.out).mono ?_); (case side1 => repeat (first | exact (by repeat (first | (with_reducible exact HR307_0.out) | (with_reducible refine Kd.C_alloc ?_ _) | (with_reducible refine Kd.C_drewN ?_ _) | (with_reducible refine Kd.C_drew ?_) | exact HR307_0.out)) | (with_reducible refine Kd.C_alloc ?_ _) | (with_reducible refine Kd.C_drewN ?_ _) | (with_reducible refine Kd.C_drew ?_))); (case side2 => exact HC307_0.out); (case side3 => repeat (first | exact (by repeat (first | (with_reducible exact HR306_0.out) | (with_reducible refine Kd.C_alloc ?_ _) | (with_reducible refine Kd.C_drewN ?_ _) | (with_reducible refine Kd.C_drew ?_) | exact HR306_0.out)) | (with_reducible refine Kd.C_alloc ?_ _) | (with_reducible refine Kd.C_drewN ?_ _) | (with_reducible refine Kd.C_drew ?_))); (case side4 => exact HC306_0.out); rintro e w' ⟨rfl, ⟨nd, rfl⟩⟩) | (go_at_call 27; (with_reducible refine (cohousinglaw36_holds.calls k2 _ _ l0 _ _ (rd_L3 t301 x41_2) _ _ l2 a3 true _ ?side1 ?side2 ?side3 ?side4 ?side5 ?side6 A30.out).mono ?_); (case side1 => repeat (first | exact (Kd.C_below HR0.out (by repeat (first | (with_reducible first | exact HB.out | apply below_alloc | apply pw_below_drewN | apply below_drew1) | exact HB.out))) | (with_reducible refine Kd.C_alloc ?_ _) | (with_reducible refine Kd.C_drewN ?_ _) | (with_reducible refine Kd.C_drew ?_))); (case side2 => exact HC0.out); (case side3 => repeat (first | exact (by repeat (first | (with_reducible exact HR306_0.out) | (with_reducible refine Kd.C_alloc ?_ _) | (with_reducible refine Kd.C_drewN ?_ _) | (with_reducible refine Kd.C_drew ?_) | exact HR306_0.out)) | (with_reducible refine Kd.C_alloc ?_ _) | (with_reducible refine Kd.C_drewN ?_ _) | (with_reducible refine Kd.C_drew ?_))); (case side4 => exact HC306_0.out); (case side5 => repeat (first | exact (Kd.C_below HR2.out (by repeat (first | (with_reducible first | exact HB.out | apply below_alloc | apply pw_below_drewN | apply below_drew1) | exact HB.out))) | (with_reducible refine Kd.C_alloc ?_ _) | (with_reducible refine Kd.C_drewN ?_ _) | (with_reducible refine Kd.C_drew ?_))); (case side6 => exact HC2.out); rintro e w35 ⟨rfl, hb⟩; have n0_ := Aside0.mk (Kd.S_below (by (with_reducible repeat (first | apply Kd.S_alloc | apply Kd.S_drewN | apply Kd.S_drew)); exact HO_10.out) hb); have n1_ := Aside0.mk (Kd.S_below (by (with_reducible repeat (first | apply Kd.S_alloc | apply Kd.S_drewN | apply Kd.S_drew)); exact HO_39.out) hb); have n2_ := Aside0.mk (Kd.R_below (by (with_reducible repeat (first | apply Kd.R_alloc | apply Kd.R_drewN | apply Kd.R_drew)); exact HL306_0.out) hb); have n3_ := Aside0.mk (Kd.R_below (by (with_reducible repeat (first | apply Kd.R_alloc | apply Kd.R_drewN | apply Kd.R_drew)); exact HL307_0.out) hb); have n4_ := Aside0.mk (Kd.C_below (by repeat (first | (with_reducible exact HR306_0.out) | (with_reducible refine Kd.C_alloc ?_ _) | (with_reducible refine Kd.C_drewN ?_ _) | (with_reducible refine Kd.C_drew ?_) | exact HR306_0.out)) hb); have n5_ := Aside0.mk (Kd.C_below (by repeat (first | (with_reducible exact HR307_0.out) | (with_reducible refine Kd.C_alloc ?_ _) | (with_reducible refine Kd.C_drewN ?_ _) | (with_reducible refine Kd.C_drew ?_) | exact HR307_0.out)) hb); have n6_ := Aside0.mk (below_step (by repeat (first | (with_reducible first | exact HB.out | apply below_alloc | apply pw_below_drewN | apply below_drew1) | exact HB.out)) hb); clear HO_10; clear HO_39; clear HL306_0; clear HL307_0; clear HR306_0; clear HR307_0; clear HB; have HO_10 := n0_; have HO_39 := n1_; have HL306_0 := n2_; have HL307_0 := n3_; have HR306_0 := n4_; have HR307_0 := n5_; have HB := n6_; clear n0_ n1_ n2_ n3_ n4_ n5_ n6_; (try clear hb); (try clear hb2); (try clear hk); (try clear hi)) | (go_at_call 17; (with_reducible refine (cohousingref36_SameBools.calls k2 _ _ (rd_L3 t301 x41_2) _ _ l1 t310 _ ?side1 ?side2 ?side3 ?side4 A34.out).mono ?_); (case side1 => repeat (first | exact (by repeat (first | (with_reducible exact HR306_0.out) | (with_reducible refine Kd.C_alloc ?_ _) | (with_reducible refine Kd.C_drewN ?_ _) | (with_reducible refine Kd.C_drew ?_) | exact HR306_0.out)) | (with_reducible refine Kd.C_alloc ?_ _) | (with_reducible refine Kd.C_drewN ?_ _) | (with_reducible refine Kd.C_drew ?_))); (case side2 => exact HC306_0.out); (case side3 => repeat (first | exact (Kd.C_below HR1.out HB.out) | (with_reducible refine Kd.C_alloc ?_ _) | (with_reducible refine Kd.C_drewN ?_ _) | (with_reducible refine Kd.C_drew ?_))); (case side4 => exact HC1.out); rintro e w' ⟨rfl, ⟨nd, rfl⟩⟩))
                 go_roundg k2
                 case measure => have := HJ5.out; have := HK2.out; omega
                 case rel => exact ⟨(t310), (wrap64 (x41_2 + 1)), (by first | rfl | (simp; done) | (simp [*]; done)), (by first | rfl | (simp; done) | (simp [*]; done)), H', ⟨by have := HJ5.out; have := HK2.out; omega⟩, ⟨by (with_reducible repeat (first | apply Kd.S_alloc | apply Kd.S_drewN | apply Kd.S_drew)); exact HO_10.out⟩, ⟨by (with_reducible repeat (first | apply Kd.S_alloc | apply Kd.S_drewN | apply Kd.S_drew)); exact HO_39.out⟩, ⟨by repeat (first | (with_reducible first | exact HB.out | apply below_alloc | apply pw_below_drewN | apply below_drew1) | exact HB.out)⟩⟩
               ·replace c31 := Bool.eq_false_iff.mpr c31
                subst c31
                have H1 : (some false) = some r := by rw [if_neg (show ¬ (false = true) by decide)] at H; exact H
                clear H
                have H := H1
                clear H1
                obtain rfl := Option.some.inj H
                have p306 : 0 ≤ (x41_2 : Int) := of_decide_eq_true (by first | (with_reducible assumption) | assumption)
                have q306 : x41_2 < (t301.length : Int) := of_decide_eq_true (by first | (with_reducible assumption) | assumption)
                obtain ⟨ad306, A306_0, c306_0, e306, hx306_0, hl306_0, hi306_0⟩ := at_L3 (Kd.S_reads' HO_39.out).2.2 x41_2 p306 q306
                cases e306
                obtain ⟨ce306, hce306, hMe306, hcc306⟩ := Kd.S_get HO_39.out [] x41_2 p306 (by first | exact q306 | exact of_decide_eq_true (by first | (with_reducible assumption) | assumption) | (have e_ := (Kd.S_reads' HO_39.out).1; omega))
                obtain ⟨ve306_0, rfl, ge306_0⟩ := hMe306
                have hv306_0 := hcc306 0 _ rfl
                rw [Nat.add_zero, show ((Kd.slice 4 Kd.bool)).sz = 1 from rfl, Nat.mul_one] at hv306_0
                replace hv306_0 := Option.some.inj (hv306_0.symm.trans hx306_0)
                rw [hv306_0] at ge306_0
                have HL306_0 := Aside0.mk (show Kd.R Kd.bool 4 _ _ _ _ (rd_L3 t301 x41_2) from ge306_0)
                clear hv306_0 ge306_0
                clear hcc306 hce306
                have HR306_0 := Aside0.mk hi306_0
                have HC306_0 := Aside0.mk hl306_0
                clear hi306_0 hl306_0
                replace p306 := eq_true p306
                replace q306 := eq_true q306
                have p307 : 0 ≤ ((ji25) : Int) := of_decide_eq_true (by first | (with_reducible assumption) | assumption)
                have q307 : (ji25) < (t301.length : Int) := of_decide_eq_true (by first | (with_reducible assumption) | assumption)
                obtain ⟨ad307, A307_0, c307_0, e307, hx307_0, hl307_0, hi307_0⟩ := at_L3 (Kd.S_reads' HO_10.out).2.2 (ji25) p307 q307
                obtain rfl : ad306 = ad307 := (by injection e307)
                obtain ⟨ce307, hce307, hMe307, hcc307⟩ := Kd.S_get HO_10.out [] (ji25) p307 (by first | exact q307 | exact of_decide_eq_true (by first | (with_reducible assumption) | assumption) | (have e_ := (Kd.S_reads' HO_10.out).1; omega))
                obtain ⟨ve307_0, rfl, ge307_0⟩ := hMe307
                have hv307_0 := hcc307 0 _ rfl
                rw [Nat.add_zero, show ((Kd.slice 4 Kd.bool)).sz = 1 from rfl, Nat.mul_one] at hv307_0
                replace hv307_0 := Option.some.inj (hv307_0.symm.trans hx307_0)
                rw [hv307_0] at ge307_0
                have HL307_0 := Aside0.mk (show Kd.R Kd.bool 4 _ _ _ _ (rd_L3 t301 (ji25)) from ge307_0)
                clear hv307_0 ge307_0
                clear hcc307 hce307
                have HR307_0 := Aside0.mk hi307_0
                have HC307_0 := Aside0.mk hl307_0
                clear hi307_0 hl307_0
                replace p307 := eq_true p307
                replace q307 := eq_true q307
                go_wp2_with (first | (go_at_call 26; (with_reducible refine (cohousinglaw36_less.calls k2 _ _ (rd_L3 t301 (ji25)) _ _ (rd_L3 t301 x41_2) true _ ?side1 ?side2 ?side3 ?side4 A28.out).mono ?_); (case side1 => repeat (first | exact (by repeat (first | (with_reducible exact HR307_0.out) | (with_reducible refine Kd.C_alloc ?_ _) | (with_reducible refine Kd.C_drewN ?_ _) | (with_reducible refine Kd.C_drew ?_) | exact HR307_0.out)) | (with_reducible refine Kd.C_alloc ?_ _) | (with_reducible refine Kd.C_drewN ?_ _) | (with_reducible refine Kd.C_drew ?_))); (case side2 => exact HC307_0.out); (case side3 => repeat (first | exact (by repeat (first | (with_reducible exact HR306_0.out) | (with_reducible refine Kd.C_alloc ?_ _) | (with_reducible refine Kd.C_drewN ?_ _) | (with_reducible refine Kd.C_drew ?_) | exact HR306_0.out)) | (with_reducible refine Kd.C_alloc ?_ _) | (with_reducible refine Kd.C_drewN ?_ _) | (with_reducible refine Kd.C_drew ?_))); (case side4 => exact HC306_0.out); rintro e w' ⟨rfl, ⟨nd, rfl⟩⟩) | (go_at_call 27; (with_reducible refine (cohousinglaw36_holds.calls k2 _ _ l0 _ _ (rd_L3 t301 x41_2) _ _ l2 a3 false _ ?side1 ?side2 ?side3 ?side4 ?side5 ?side6 A30.out).mono ?_); (case side1 => repeat (first | exact (Kd.C_below HR0.out (by repeat (first | (with_reducible first | exact HB.out | apply below_alloc | apply pw_below_drewN | apply below_drew1) | exact HB.out))) | (with_reducible refine Kd.C_alloc ?_ _) | (with_reducible refine Kd.C_drewN ?_ _) | (with_reducible refine Kd.C_drew ?_))); (case side2 => exact HC0.out); (case side3 => repeat (first | exact (by repeat (first | (with_reducible exact HR306_0.out) | (with_reducible refine Kd.C_alloc ?_ _) | (with_reducible refine Kd.C_drewN ?_ _) | (with_reducible refine Kd.C_drew ?_) | exact HR306_0.out)) | (with_reducible refine Kd.C_alloc ?_ _) | (with_reducible refine Kd.C_drewN ?_ _) | (with_reducible refine Kd.C_drew ?_))); (case side4 => exact HC306_0.out); (case side5 => repeat (first | exact (Kd.C_below HR2.out (by repeat (first | (with_reducible first | exact HB.out | apply below_alloc | apply pw_below_drewN | apply below_drew1) | exact HB.out))) | (with_reducible refine Kd.C_alloc ?_ _) | (with_reducible refine Kd.C_drewN ?_ _) | (with_reducible refine Kd.C_drew ?_))); (case side6 => exact HC2.out); rintro e w36 ⟨rfl, hb⟩; have n0_ := Aside0.mk (Kd.S_below (by (with_reducible repeat (first | apply Kd.S_alloc | apply Kd.S_drewN | apply Kd.S_drew)); exact HO_10.out) hb); have n1_ := Aside0.mk (Kd.S_below (by (with_reducible repeat (first | apply Kd.S_alloc | apply Kd.S_drewN | apply Kd.S_drew)); exact HO_39.out) hb); have n2_ := Aside0.mk (Kd.R_below (by (with_reducible repeat (first | apply Kd.R_alloc | apply Kd.R_drewN | apply Kd.R_drew)); exact HL306_0.out) hb); have n3_ := Aside0.mk (Kd.R_below (by (with_reducible repeat (first | apply Kd.R_alloc | apply Kd.R_drewN | apply Kd.R_drew)); exact HL307_0.out) hb); have n4_ := Aside0.mk (Kd.C_below (by repeat (first | (with_reducible exact HR306_0.out) | (with_reducible refine Kd.C_alloc ?_ _) | (with_reducible refine Kd.C_drewN ?_ _) | (with_reducible refine Kd.C_drew ?_) | exact HR306_0.out)) hb); have n5_ := Aside0.mk (Kd.C_below (by repeat (first | (with_reducible exact HR307_0.out) | (with_reducible refine Kd.C_alloc ?_ _) | (with_reducible refine Kd.C_drewN ?_ _) | (with_reducible refine Kd.C_drew ?_) | exact HR307_0.out)) hb); have n6_ := Aside0.mk (below_step (by repeat (first | (with_reducible first | exact HB.out | apply below_alloc | apply pw_below_drewN | apply below_drew1) | exact HB.out)) hb); clear HO_10; clear HO_39; clear HL306_0; clear HL307_0; clear HR306_0; clear HR307_0; clear HB; have HO_10 := n0_; have HO_39 := n1_; have HL306_0 := n2_; have HL307_0 := n3_; have HR306_0 := n4_; have HR307_0 := n5_; have HB := n6_; clear n0_ n1_ n2_ n3_ n4_ n5_ n6_; (try clear hb); (try clear hb2); (try clear hk); (try clear hi)))
                go_ret
                exact ⟨by first | rfl | (simp [errW_none, errW_some] <;> rfl) | (simp only [← hji25]; first | rfl | (simp [errW_none, errW_some] <;> rfl)) | (simp [*, errW_none, errW_some] <;> rfl), by repeat (first | (with_reducible first | exact HB.out | apply below_alloc | apply pw_below_drewN | apply below_drew1) | exact HB.out)⟩
              ·replace c29 := Bool.eq_false_iff.mpr c29
               subst c29
               have H1 : (some false) = some r := by rw [if_neg (show ¬ (false = true) by decide)] at H; exact H
               clear H
               have H := H1
               clear H1
               obtain rfl := Option.some.inj H
               have p306 : 0 ≤ (x41_2 : Int) := of_decide_eq_true (by first | (with_reducible assumption) | assumption)
               have q306 : x41_2 < (t301.length : Int) := of_decide_eq_true (by first | (with_reducible assumption) | assumption)
               obtain ⟨ad306, A306_0, c306_0, e306, hx306_0, hl306_0, hi306_0⟩ := at_L3 (Kd.S_reads' HO_39.out).2.2 x41_2 p306 q306
               cases e306
               obtain ⟨ce306, hce306, hMe306, hcc306⟩ := Kd.S_get HO_39.out [] x41_2 p306 (by first | exact q306 | exact of_decide_eq_true (by first | (with_reducible assumption) | assumption) | (have e_ := (Kd.S_reads' HO_39.out).1; omega))
               obtain ⟨ve306_0, rfl, ge306_0⟩ := hMe306
               have hv306_0 := hcc306 0 _ rfl
               rw [Nat.add_zero, show ((Kd.slice 4 Kd.bool)).sz = 1 from rfl, Nat.mul_one] at hv306_0
               replace hv306_0 := Option.some.inj (hv306_0.symm.trans hx306_0)
               rw [hv306_0] at ge306_0
               have HL306_0 := Aside0.mk (show Kd.R Kd.bool 4 _ _ _ _ (rd_L3 t301 x41_2) from ge306_0)
               clear hv306_0 ge306_0
               clear hcc306 hce306
               have HR306_0 := Aside0.mk hi306_0
               have HC306_0 := Aside0.mk hl306_0
               clear hi306_0 hl306_0
               replace p306 := eq_true p306
               replace q306 := eq_true q306
               have p307 : 0 ≤ ((ji25) : Int) := of_decide_eq_true (by first | (with_reducible assumption) | assumption)
               have q307 : (ji25) < (t301.length : Int) := of_decide_eq_true (by first | (with_reducible assumption) | assumption)
               obtain ⟨ad307, A307_0, c307_0, e307, hx307_0, hl307_0, hi307_0⟩ := at_L3 (Kd.S_reads' HO_10.out).2.2 (ji25) p307 q307
               obtain rfl : ad306 = ad307 := (by injection e307)
               obtain ⟨ce307, hce307, hMe307, hcc307⟩ := Kd.S_get HO_10.out [] (ji25) p307 (by first | exact q307 | exact of_decide_eq_true (by first | (with_reducible assumption) | assumption) | (have e_ := (Kd.S_reads' HO_10.out).1; omega))
               obtain ⟨ve307_0, rfl, ge307_0⟩ := hMe307
               have hv307_0 := hcc307 0 _ rfl
               rw [Nat.add_zero, show ((Kd.slice 4 Kd.bool)).sz = 1 from rfl, Nat.mul_one] at hv307_0
               replace hv307_0 := Option.some.inj (hv307_0.symm.trans hx307_0)
               rw [hv307_0] at ge307_0
               have HL307_0 := Aside0.mk (show Kd.R Kd.bool 4 _ _ _ _ (rd_L3 t301 (ji25)) from ge307_0)
               clear hv307_0 ge307_0
               clear hcc307 hce307
               have HR307_0 := Aside0.mk hi307_0
               have HC307_0 := Aside0.mk hl307_0
               clear hi307_0 hl307_0
               replace p307 := eq_true p307
               replace q307 := eq_true q307
               go_wp2_with (first | (go_at_call 26; (with_reducible refine (cohousinglaw36_less.calls k2 _ _ (rd_L3 t301 (ji25)) _ _ (rd_L3 t301 x41_2) false _ ?side1 ?side2 ?side3 ?side4 A28.out).mono ?_); (case side1 => repeat (first | exact (by repeat (first | (with_reducible exact HR307_0.out) | (with_reducible refine Kd.C_alloc ?_ _) | (with_reducible refine Kd.C_drewN ?_ _) | (with_reducible refine Kd.C_drew ?_) | exact HR307_0.out)) | (with_reducible refine Kd.C_alloc ?_ _) | (with_reducible refine Kd.C_drewN ?_ _) | (with_reducible refine Kd.C_drew ?_))); (case side2 => exact HC307_0.out); (case side3 => repeat (first | exact (by repeat (first | (with_reducible exact HR306_0.out) | (with_reducible refine Kd.C_alloc ?_ _) | (with_reducible refine Kd.C_drewN ?_ _) | (with_reducible refine Kd.C_drew ?_) | exact HR306_0.out)) | (with_reducible refine Kd.C_alloc ?_ _) | (with_reducible refine Kd.C_drewN ?_ _) | (with_reducible refine Kd.C_drew ?_))); (case side4 => exact HC306_0.out); rintro e w' ⟨rfl, ⟨nd, rfl⟩⟩))
               go_ret
               exact ⟨by first | rfl | (simp [errW_none, errW_some] <;> rfl) | (simp only [← hji25]; first | rfl | (simp [errW_none, errW_some] <;> rfl)) | (simp [*, errW_none, errW_some] <;> rfl), by repeat (first | (with_reducible first | exact HB.out | apply below_alloc | apply pw_below_drewN | apply below_drew1) | exact HB.out)⟩
             ·rw [if_neg c27] at H
              exact absurd H (by simp)
            ·rw [if_neg c26] at H
             exact absurd H (by simp)
           ·rw [if_neg c24] at H
            have c24b0 : decide (0 < x41_2) = false := decide_eq_false c24
            clear c24
            replace H := Option.bind_eq_some_iff.mp H
            obtain ⟨t311, A370, H⟩ := H
            replace H : (if t311 = true then (if x12_2 = true then (cohousinglaw36_CauseStates.l0 k2 l0 l1 l2 a3 t296 t301 true t301 (t301.length : Int) (wrap64 (x41_2 + 1))) else ((cohousingref36_SameBools.f k2 (rd_L3 t301 x41_2) l1).bind fun t312 => (cohousinglaw36_CauseStates.l0 k2 l0 l1 l2 a3 t296 t301 t312 t301 (t301.length : Int) (wrap64 (x41_2 + 1))))) else (some false)) = some r := H
            have A37 := Aside0.mk A370
            clear A370
            by_cases c38 : t311 = true
            ·subst c38
             have H1 : (if x12_2 = true then (cohousinglaw36_CauseStates.l0 k2 l0 l1 l2 a3 t296 t301 true t301 (t301.length : Int) (wrap64 (x41_2 + 1))) else ((cohousingref36_SameBools.f k2 (rd_L3 t301 x41_2) l1).bind fun t312 => (cohousinglaw36_CauseStates.l0 k2 l0 l1 l2 a3 t296 t301 t312 t301 (t301.length : Int) (wrap64 (x41_2 + 1))))) = some r := by rw [if_pos rfl] at H; exact H
             clear H
             have H := H1
             clear H1
             by_cases c39 : x12_2 = true
             ·subst c39
              have H1 : (cohousinglaw36_CauseStates.l0 k2 l0 l1 l2 a3 t296 t301 true t301 (t301.length : Int) (wrap64 (x41_2 + 1))) = some r := by rw [if_pos rfl] at H; exact H
              clear H
              have H := H1
              clear H1
              have H' := Aside0.mk H
              clear H
              have p306 : 0 ≤ (x41_2 : Int) := of_decide_eq_true (by first | (with_reducible assumption) | assumption)
              have q306 : x41_2 < (t301.length : Int) := of_decide_eq_true (by first | (with_reducible assumption) | assumption)
              obtain ⟨ad306, A306_0, c306_0, e306, hx306_0, hl306_0, hi306_0⟩ := at_L3 (Kd.S_reads' HO_39.out).2.2 x41_2 p306 q306
              cases e306
              obtain ⟨ce306, hce306, hMe306, hcc306⟩ := Kd.S_get HO_39.out [] x41_2 p306 (by first | exact q306 | exact of_decide_eq_true (by first | (with_reducible assumption) | assumption) | (have e_ := (Kd.S_reads' HO_39.out).1; omega))
              obtain ⟨ve306_0, rfl, ge306_0⟩ := hMe306
              have hv306_0 := hcc306 0 _ rfl
              rw [Nat.add_zero, show ((Kd.slice 4 Kd.bool)).sz = 1 from rfl, Nat.mul_one] at hv306_0
              replace hv306_0 := Option.some.inj (hv306_0.symm.trans hx306_0)
              rw [hv306_0] at ge306_0
              have HL306_0 := Aside0.mk (show Kd.R Kd.bool 4 _ _ _ _ (rd_L3 t301 x41_2) from ge306_0)
              clear hv306_0 ge306_0
              clear hcc306 hce306
              have HR306_0 := Aside0.mk hi306_0
              have HC306_0 := Aside0.mk hl306_0
              clear hi306_0 hl306_0
              replace p306 := eq_true p306
              replace q306 := eq_true q306
              go_wp2_with (first | (go_at_call 27; (with_reducible refine (cohousinglaw36_holds.calls k2 _ _ l0 _ _ (rd_L3 t301 x41_2) _ _ l2 a3 true _ ?side1 ?side2 ?side3 ?side4 ?side5 ?side6 A37.out).mono ?_); (case side1 => repeat (first | exact (Kd.C_below HR0.out HB.out) | (with_reducible refine Kd.C_alloc ?_ _) | (with_reducible refine Kd.C_drewN ?_ _) | (with_reducible refine Kd.C_drew ?_))); (case side2 => exact HC0.out); (case side3 => repeat (first | exact (by repeat (first | (with_reducible exact HR306_0.out) | (with_reducible refine Kd.C_alloc ?_ _) | (with_reducible refine Kd.C_drewN ?_ _) | (with_reducible refine Kd.C_drew ?_) | exact HR306_0.out)) | (with_reducible refine Kd.C_alloc ?_ _) | (with_reducible refine Kd.C_drewN ?_ _) | (with_reducible refine Kd.C_drew ?_))); (case side4 => exact HC306_0.out); (case side5 => repeat (first | exact (Kd.C_below HR2.out HB.out) | (with_reducible refine Kd.C_alloc ?_ _) | (with_reducible refine Kd.C_drewN ?_ _) | (with_reducible refine Kd.C_drew ?_))); (case side6 => exact HC2.out); rintro e w40 ⟨rfl, hb⟩; have n0_ := Aside0.mk (Kd.S_below (by (with_reducible repeat (first | apply Kd.S_alloc | apply Kd.S_drewN | apply Kd.S_drew)); exact HO_10.out) hb); have n1_ := Aside0.mk (Kd.S_below (by (with_reducible repeat (first | apply Kd.S_alloc | apply Kd.S_drewN | apply Kd.S_drew)); exact HO_39.out) hb); have n2_ := Aside0.mk (Kd.R_below (by (with_reducible repeat (first | apply Kd.R_alloc | apply Kd.R_drewN | apply Kd.R_drew)); exact HL306_0.out) hb); have n3_ := Aside0.mk (Kd.C_below (by repeat (first | (with_reducible exact HR306_0.out) | (with_reducible refine Kd.C_alloc ?_ _) | (with_reducible refine Kd.C_drewN ?_ _) | (with_reducible refine Kd.C_drew ?_) | exact HR306_0.out)) hb); have n4_ := Aside0.mk (below_step (by repeat (first | (with_reducible first | exact HB.out | apply below_alloc | apply pw_below_drewN | apply below_drew1) | exact HB.out)) hb); clear HO_10; clear HO_39; clear HL306_0; clear HR306_0; clear HB; have HO_10 := n0_; have HO_39 := n1_; have HL306_0 := n2_; have HR306_0 := n3_; have HB := n4_; clear n0_ n1_ n2_ n3_ n4_; (try clear hb); (try clear hb2); (try clear hk); (try clear hi)))
              go_roundg k2
              case measure => have := HJ5.out; have := HK2.out; omega
              case rel => exact ⟨(true), (wrap64 (x41_2 + 1)), (by first | rfl | (simp; done) | (simp [*]; done)), (by first | rfl | (simp; done) | (simp [*]; done)), H', ⟨by have := HJ5.out; have := HK2.out; omega⟩, ⟨by (with_reducible repeat (first | apply Kd.S_alloc | apply Kd.S_drewN | apply Kd.S_drew)); exact HO_10.out⟩, ⟨by (with_reducible repeat (first | apply Kd.S_alloc | apply Kd.S_drewN | apply Kd.S_drew)); exact HO_39.out⟩, ⟨by repeat (first | (with_reducible first | exact HB.out | apply below_alloc | apply pw_below_drewN | apply below_drew1) | exact HB.out)⟩⟩
             ·replace c39 := Bool.eq_false_iff.mpr c39
              subst c39
              have H1 : ((cohousingref36_SameBools.f k2 (rd_L3 t301 x41_2) l1).bind fun t312 => (cohousinglaw36_CauseStates.l0 k2 l0 l1 l2 a3 t296 t301 t312 t301 (t301.length : Int) (wrap64 (x41_2 + 1)))) = some r := by rw [if_neg (show ¬ (false = true) by decide)] at H; exact H
              clear H
              have H := H1
              clear H1
              replace H := Option.bind_eq_some_iff.mp H
              obtain ⟨t312, A410, H⟩ := H
              replace H : (cohousinglaw36_CauseStates.l0 k2 l0 l1 l2 a3 t296 t301 t312 t301 (t301.length : Int) (wrap64 (x41_2 + 1))) = some r := H
              have A41 := Aside0.mk A410
              clear A410
              have H' := Aside0.mk H
              clear H
              have p306 : 0 ≤ (x41_2 : Int) := of_decide_eq_true (by first | (with_reducible assumption) | assumption)
              have q306 : x41_2 < (t301.length : Int) := of_decide_eq_true (by first | (with_reducible assumption) | assumption)
              obtain ⟨ad306, A306_0, c306_0, e306, hx306_0, hl306_0, hi306_0⟩ := at_L3 (Kd.S_reads' HO_39.out).2.2 x41_2 p306 q306
              cases e306
              obtain ⟨ce306, hce306, hMe306, hcc306⟩ := Kd.S_get HO_39.out [] x41_2 p306 (by first | exact q306 | exact of_decide_eq_true (by first | (with_reducible assumption) | assumption) | (have e_ := (Kd.S_reads' HO_39.out).1; omega))
              obtain ⟨ve306_0, rfl, ge306_0⟩ := hMe306
              have hv306_0 := hcc306 0 _ rfl
              rw [Nat.add_zero, show ((Kd.slice 4 Kd.bool)).sz = 1 from rfl, Nat.mul_one] at hv306_0
              replace hv306_0 := Option.some.inj (hv306_0.symm.trans hx306_0)
              rw [hv306_0] at ge306_0
              have HL306_0 := Aside0.mk (show Kd.R Kd.bool 4 _ _ _ _ (rd_L3 t301 x41_2) from ge306_0)
              clear hv306_0 ge306_0
              clear hcc306 hce306
              have HR306_0 := Aside0.mk hi306_0
              have HC306_0 := Aside0.mk hl306_0
              clear hi306_0 hl306_0
              replace p306 := eq_true p306
              replace q306 := eq_true q306
              go_wp2_with (first | (go_at_call 27; (with_reducible refine (cohousinglaw36_holds.calls k2 _ _ l0 _ _ (rd_L3 t301 x41_2) _ _ l2 a3 true _ ?side1 ?side2 ?side3 ?side4 ?side5 ?side6 A37.out).mono ?_); (case side1 => repeat (first | exact (Kd.C_below HR0.out HB.out) | (with_reducible refine Kd.C_alloc ?_ _) | (with_reducible refine Kd.C_drewN ?_ _) | (with_reducible refine Kd.C_drew ?_))); (case side2 => exact HC0.out); (case side3 => repeat (first | exact (by repeat (first | (with_reducible exact HR306_0.out) | (with_reducible refine Kd.C_alloc ?_ _) | (with_reducible refine Kd.C_drewN ?_ _) | (with_reducible refine Kd.C_drew ?_) | exact HR306_0.out)) | (with_reducible refine Kd.C_alloc ?_ _) | (with_reducible refine Kd.C_drewN ?_ _) | (with_reducible refine Kd.C_drew ?_))); (case side4 => exact HC306_0.out); (case side5 => repeat (first | exact (Kd.C_below HR2.out HB.out) | (with_reducible refine Kd.C_alloc ?_ _) | (with_reducible refine Kd.C_drewN ?_ _) | (with_reducible refine Kd.C_drew ?_))); (case side6 => exact HC2.out); rintro e w42 ⟨rfl, hb⟩; have n0_ := Aside0.mk (Kd.S_below (by (with_reducible repeat (first | apply Kd.S_alloc | apply Kd.S_drewN | apply Kd.S_drew)); exact HO_10.out) hb); have n1_ := Aside0.mk (Kd.S_below (by (with_reducible repeat (first | apply Kd.S_alloc | apply Kd.S_drewN | apply Kd.S_drew)); exact HO_39.out) hb); have n2_ := Aside0.mk (Kd.R_below (by (with_reducible repeat (first | apply Kd.R_alloc | apply Kd.R_drewN | apply Kd.R_drew)); exact HL306_0.out) hb); have n3_ := Aside0.mk (Kd.C_below (by repeat (first | (with_reducible exact HR306_0.out) | (with_reducible refine Kd.C_alloc ?_ _) | (with_reducible refine Kd.C_drewN ?_ _) | (with_reducible refine Kd.C_drew ?_) | exact HR306_0.out)) hb); have n4_ := Aside0.mk (below_step (by repeat (first | (with_reducible first | exact HB.out | apply below_alloc | apply pw_below_drewN | apply below_drew1) | exact HB.out)) hb); clear HO_10; clear HO_39; clear HL306_0; clear HR306_0; clear HB; have HO_10 := n0_; have HO_39 := n1_; have HL306_0 := n2_; have HR306_0 := n3_; have HB := n4_; clear n0_ n1_ n2_ n3_ n4_; (try clear hb); (try clear hb2); (try clear hk); (try clear hi)) | (go_at_call 17; (with_reducible refine (cohousingref36_SameBools.calls k2 _ _ (rd_L3 t301 x41_2) _ _ l1 t312 _ ?side1 ?side2 ?side3 ?side4 A41.out).mono ?_); (case side1 => repeat (first | exact (by repeat (first | (with_reducible exact HR306_0.out) | (with_reducible refine Kd.C_alloc ?_ _) | (with_reducible refine Kd.C_drewN ?_ _) | (with_reducible refine Kd.C_drew ?_) | exact HR306_0.out)) | (with_reducible refine Kd.C_alloc ?_ _) | (with_reducible refine Kd.C_drewN ?_ _) | (with_reducible refine Kd.C_drew ?_))); (case side2 => exact HC306_0.out); (case side3 => repeat (first | exact (Kd.C_below HR1.out HB.out) | (with_reducible refine Kd.C_alloc ?_ _) | (with_reducible refine Kd.C_drewN ?_ _) | (with_reducible refine Kd.C_drew ?_))); (case side4 => exact HC1.out); rintro e w' ⟨rfl, ⟨nd, rfl⟩⟩))
              go_roundg k2
              case measure => have := HJ5.out; have := HK2.out; omega
              case rel => exact ⟨(t312), (wrap64 (x41_2 + 1)), (by first | rfl | (simp; done) | (simp [*]; done)), (by first | rfl | (simp; done) | (simp [*]; done)), H', ⟨by have := HJ5.out; have := HK2.out; omega⟩, ⟨by (with_reducible repeat (first | apply Kd.S_alloc | apply Kd.S_drewN | apply Kd.S_drew)); exact HO_10.out⟩, ⟨by (with_reducible repeat (first | apply Kd.S_alloc | apply Kd.S_drewN | apply Kd.S_drew)); exact HO_39.out⟩, ⟨by repeat (first | (with_reducible first | exact HB.out | apply below_alloc | apply pw_below_drewN | apply below_drew1) | exact HB.out)⟩⟩
            ·replace c38 := Bool.eq_false_iff.mpr c38
             subst c38
             have H1 : (some false) = some r := by rw [if_neg (show ¬ (false = true) by decide)] at H; exact H
             clear H
             have H := H1
             clear H1
             obtain rfl := Option.some.inj H
             have p306 : 0 ≤ (x41_2 : Int) := of_decide_eq_true (by first | (with_reducible assumption) | assumption)
             have q306 : x41_2 < (t301.length : Int) := of_decide_eq_true (by first | (with_reducible assumption) | assumption)
             obtain ⟨ad306, A306_0, c306_0, e306, hx306_0, hl306_0, hi306_0⟩ := at_L3 (Kd.S_reads' HO_39.out).2.2 x41_2 p306 q306
             cases e306
             obtain ⟨ce306, hce306, hMe306, hcc306⟩ := Kd.S_get HO_39.out [] x41_2 p306 (by first | exact q306 | exact of_decide_eq_true (by first | (with_reducible assumption) | assumption) | (have e_ := (Kd.S_reads' HO_39.out).1; omega))
             obtain ⟨ve306_0, rfl, ge306_0⟩ := hMe306
             have hv306_0 := hcc306 0 _ rfl
             rw [Nat.add_zero, show ((Kd.slice 4 Kd.bool)).sz = 1 from rfl, Nat.mul_one] at hv306_0
             replace hv306_0 := Option.some.inj (hv306_0.symm.trans hx306_0)
             rw [hv306_0] at ge306_0
             have HL306_0 := Aside0.mk (show Kd.R Kd.bool 4 _ _ _ _ (rd_L3 t301 x41_2) from ge306_0)
             clear hv306_0 ge306_0
             clear hcc306 hce306
             have HR306_0 := Aside0.mk hi306_0
             have HC306_0 := Aside0.mk hl306_0
             clear hi306_0 hl306_0
             replace p306 := eq_true p306
             replace q306 := eq_true q306
             go_wp2_with (first | (go_at_call 27; (with_reducible refine (cohousinglaw36_holds.calls k2 _ _ l0 _ _ (rd_L3 t301 x41_2) _ _ l2 a3 false _ ?side1 ?side2 ?side3 ?side4 ?side5 ?side6 A37.out).mono ?_); (case side1 => repeat (first | exact (Kd.C_below HR0.out HB.out) | (with_reducible refine Kd.C_alloc ?_ _) | (with_reducible refine Kd.C_drewN ?_ _) | (with_reducible refine Kd.C_drew ?_))); (case side2 => exact HC0.out); (case side3 => repeat (first | exact (by repeat (first | (with_reducible exact HR306_0.out) | (with_reducible refine Kd.C_alloc ?_ _) | (with_reducible refine Kd.C_drewN ?_ _) | (with_reducible refine Kd.C_drew ?_) | exact HR306_0.out)) | (with_reducible refine Kd.C_alloc ?_ _) | (with_reducible refine Kd.C_drewN ?_ _) | (with_reducible refine Kd.C_drew ?_))); (case side4 => exact HC306_0.out); (case side5 => repeat (first | exact (Kd.C_below HR2.out HB.out) | (with_reducible refine Kd.C_alloc ?_ _) | (with_reducible refine Kd.C_drewN ?_ _) | (with_reducible refine Kd.C_drew ?_))); (case side6 => exact HC2.out); rintro e w43 ⟨rfl, hb⟩; have n0_ := Aside0.mk (Kd.S_below (by (with_reducible repeat (first | apply Kd.S_alloc | apply Kd.S_drewN | apply Kd.S_drew)); exact HO_10.out) hb); have n1_ := Aside0.mk (Kd.S_below (by (with_reducible repeat (first | apply Kd.S_alloc | apply Kd.S_drewN | apply Kd.S_drew)); exact HO_39.out) hb); have n2_ := Aside0.mk (Kd.R_below (by (with_reducible repeat (first | apply Kd.R_alloc | apply Kd.R_drewN | apply Kd.R_drew)); exact HL306_0.out) hb); have n3_ := Aside0.mk (Kd.C_below (by repeat (first | (with_reducible exact HR306_0.out) | (with_reducible refine Kd.C_alloc ?_ _) | (with_reducible refine Kd.C_drewN ?_ _) | (with_reducible refine Kd.C_drew ?_) | exact HR306_0.out)) hb); have n4_ := Aside0.mk (below_step (by repeat (first | (with_reducible first | exact HB.out | apply below_alloc | apply pw_below_drewN | apply below_drew1) | exact HB.out)) hb); clear HO_10; clear HO_39; clear HL306_0; clear HR306_0; clear HB; have HO_10 := n0_; have HO_39 := n1_; have HL306_0 := n2_; have HR306_0 := n3_; have HB := n4_; clear n0_ n1_ n2_ n3_ n4_; (try clear hb); (try clear hb2); (try clear hk); (try clear hi)))
             go_ret
             exact ⟨by first | rfl | (simp [errW_none, errW_some] <;> rfl) | (simp [*, errW_none, errW_some] <;> rfl), by repeat (first | (with_reducible first | exact HB.out | apply below_alloc | apply pw_below_drewN | apply below_drew1) | exact HB.out)⟩
          ·rw [if_neg c23] at H
           have c23b0 : (((rd_L3 t301 x41_2).length : Int) == (l1.length : Int)) = false := beq_eq_false_iff_ne.mpr c23
           have c23b1 : (((rd_L3 t301 x41_2).length : Int) != (l1.length : Int)) = true := bne_iff_ne.mpr c23
           have c23b2 : ((rd_L3 t301 x41_2).length == l1.length) = false := by first | simpa using c23 | (simp at c23 ⊢; omega)
           obtain rfl := Option.some.inj H
           have p306 : 0 ≤ (x41_2 : Int) := of_decide_eq_true (by first | (with_reducible assumption) | assumption)
           have q306 : x41_2 < (t301.length : Int) := of_decide_eq_true (by first | (with_reducible assumption) | assumption)
           obtain ⟨ad306, A306_0, c306_0, e306, hx306_0, hl306_0, hi306_0⟩ := at_L3 (Kd.S_reads' HO_39.out).2.2 x41_2 p306 q306
           cases e306
           obtain ⟨ce306, hce306, hMe306, hcc306⟩ := Kd.S_get HO_39.out [] x41_2 p306 (by first | exact q306 | exact of_decide_eq_true (by first | (with_reducible assumption) | assumption) | (have e_ := (Kd.S_reads' HO_39.out).1; omega))
           obtain ⟨ve306_0, rfl, ge306_0⟩ := hMe306
           have hv306_0 := hcc306 0 _ rfl
           rw [Nat.add_zero, show ((Kd.slice 4 Kd.bool)).sz = 1 from rfl, Nat.mul_one] at hv306_0
           replace hv306_0 := Option.some.inj (hv306_0.symm.trans hx306_0)
           rw [hv306_0] at ge306_0
           have HL306_0 := Aside0.mk (show Kd.R Kd.bool 4 _ _ _ _ (rd_L3 t301 x41_2) from ge306_0)
           clear hv306_0 ge306_0
           clear hcc306 hce306
           have HR306_0 := Aside0.mk hi306_0
           have HC306_0 := Aside0.mk hl306_0
           clear hi306_0 hl306_0
           replace p306 := eq_true p306
           replace q306 := eq_true q306
           go_wp2
           go_ret
           exact ⟨by first | rfl | (simp [errW_none, errW_some] <;> rfl) | (simp [*, errW_none, errW_some] <;> rfl), by repeat (first | (with_reducible first | exact HB.out | apply below_alloc | apply pw_below_drewN | apply below_drew1) | exact HB.out)⟩
         ·rw [if_neg c22] at H
          exact absurd H (by simp)
        ·rw [if_neg c21] at H
         exact absurd H (by simp)
       ·rw [if_neg c20] at H
        have c20b0 : decide (x41_2 < (t301.length : Int)) = false := decide_eq_false c20
        clear c20
        by_cases c44 : t296 = true
        ·subst c44
         have H1 : ((cohousinglaw36_holds.f k2 l0 l1 l2 a3).bind fun t305 => (some (x12_2 == t305))) = some r := by rw [if_pos rfl] at H; exact H
         clear H
         have H := H1
         clear H1
         replace H := Option.bind_eq_some_iff.mp H
         obtain ⟨t305, A450, H⟩ := H
         replace H : (some (x12_2 == t305)) = some r := H
         have A45 := Aside0.mk A450
         clear A450
         obtain rfl := Option.some.inj H
         go_wp2_with (first | (go_at_call 27; (with_reducible refine (cohousinglaw36_holds.calls k2 _ _ l0 _ _ l1 _ _ l2 a3 t305 _ ?side1 ?side2 ?side3 ?side4 ?side5 ?side6 A45.out).mono ?_); (case side1 => repeat (first | exact (Kd.C_below HR0.out HB.out) | (with_reducible refine Kd.C_alloc ?_ _) | (with_reducible refine Kd.C_drewN ?_ _) | (with_reducible refine Kd.C_drew ?_))); (case side2 => exact HC0.out); (case side3 => repeat (first | exact (Kd.C_below HR1.out HB.out) | (with_reducible refine Kd.C_alloc ?_ _) | (with_reducible refine Kd.C_drewN ?_ _) | (with_reducible refine Kd.C_drew ?_))); (case side4 => exact HC1.out); (case side5 => repeat (first | exact (Kd.C_below HR2.out HB.out) | (with_reducible refine Kd.C_alloc ?_ _) | (with_reducible refine Kd.C_drewN ?_ _) | (with_reducible refine Kd.C_drew ?_))); (case side6 => exact HC2.out); rintro e w46 ⟨rfl, hb⟩; have n0_ := Aside0.mk (Kd.S_below (by (with_reducible repeat (first | apply Kd.S_alloc | apply Kd.S_drewN | apply Kd.S_drew)); exact HO_10.out) hb); have n1_ := Aside0.mk (Kd.S_below (by (with_reducible repeat (first | apply Kd.S_alloc | apply Kd.S_drewN | apply Kd.S_drew)); exact HO_39.out) hb); have n2_ := Aside0.mk (below_step (by repeat (first | (with_reducible first | exact HB.out | apply below_alloc | apply pw_below_drewN | apply below_drew1) | exact HB.out)) hb); clear HO_10; clear HO_39; clear HB; have HO_10 := n0_; have HO_39 := n1_; have HB := n2_; clear n0_ n1_ n2_; (try clear hb); (try clear hb2); (try clear hk); (try clear hi)))
         go_ret
         exact ⟨by first | rfl | (simp [errW_none, errW_some] <;> rfl) | (simp [*, errW_none, errW_some] <;> rfl), by repeat (first | (with_reducible first | exact HB.out | apply below_alloc | apply pw_below_drewN | apply below_drew1) | exact HB.out)⟩
        ·replace c44 := Bool.eq_false_iff.mpr c44
         subst c44
         have H1 : (some false) = some r := by rw [if_neg (show ¬ (false = true) by decide)] at H; exact H
         clear H
         have H := H1
         clear H1
         obtain rfl := Option.some.inj H
         go_wp2
         go_ret
         exact ⟨by first | rfl | (simp [errW_none, errW_some] <;> rfl) | (simp [*, errW_none, errW_some] <;> rfl), by repeat (first | (with_reducible first | exact HB.out | apply below_alloc | apply pw_below_drewN | apply below_drew1) | exact HB.out)⟩
    ·rw [if_neg c17] at H
     have c17b0 : (t302 == 0) = false := beq_eq_false_iff_ne.mpr c17
     have c17b1 : (t302 != 0) = true := bne_iff_ne.mpr c17
     obtain rfl := Option.some.inj H
     go_wp2_with (first | ((with_reducible refine gate_callee (f := 18) rfl ?_); refine goesL_ (some 34) rfl rfl Try.func18 (by kernel_rfl) rfl #[.slice A0 l0.length c0, .slice A2 l2.length c2, .int .i64 a3] rfl (by (try simp only [List.map_toArray, List.map_cons, List.map_nil]); first | done | rfl | (simp only [List.length_drop, List.length_take]; rfl)) ?_; (with_reducible refine (cause_States.calls _ _ l0 _ _ l2 a3 t301 t302 _ ?side1 ?side2 ?side3 ?side4 A16.out).mono ?_); (case side1 => repeat (first | exact (Kd.C_below HR0.out HB.out) | (with_reducible refine Kd.C_alloc ?_ _) | (with_reducible refine Kd.C_drewN ?_ _) | (with_reducible refine Kd.C_drew ?_))); (case side2 => exact HC0.out); (case side3 => repeat (first | exact (Kd.C_below HR2.out HB.out) | (with_reducible refine Kd.C_alloc ?_ _) | (with_reducible refine Kd.C_drewN ?_ _) | (with_reducible refine Kd.C_drew ?_))); (case side4 => exact HC2.out); rintro e w47 ⟨v303, rfl, ho0, hb⟩; refine ⟨_, rfl, ?_⟩; have n0_ := Aside0.mk (Kd.S_lower ho0 (below_size (by repeat (first | (with_reducible first | exact HB.out | apply below_alloc | apply pw_below_drewN | apply below_drew1) | exact HB.out)))); have n1_ := Aside0.mk (below_step (by repeat (first | (with_reducible first | exact HB.out | apply below_alloc | apply pw_below_drewN | apply below_drew1) | exact HB.out)) hb); clear HB; have HO304 := n0_; have HB := n1_; clear n0_ n1_; (try clear hb); (try clear hb2); (try clear hk); (try clear hi); (try clear ho0)))
     go_ret
     exact ⟨by first | rfl | (simp [errW_none, errW_some] <;> rfl) | (simp [*, errW_none, errW_some] <;> rfl), by repeat (first | (with_reducible first | exact HB.out | apply below_alloc | apply pw_below_drewN | apply below_drew1) | exact HB.out)⟩

end Go.Proofs.Ytjdhnhfglpogmaa.P
