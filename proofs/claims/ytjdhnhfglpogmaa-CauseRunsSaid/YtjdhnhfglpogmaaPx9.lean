-- Written by a program of this session out of the translation (wip/pp: the kit's print, turned). Not trusted: Lean checks it.
import Derived.Test.YtjdhnhfglpogmaaPx0
import Derived.Test.YtjdhnhfglpogmaaPx1
import Derived.Test.YtjdhnhfglpogmaaPx8
import Derived.Test.YtjdhnhfglpogmaaXRun
import Derived.Test.YtjdhnhfglpogmaaXhead
namespace Go.Proofs.Ytjdhnhfglpogmaa.P
open Go.RowKit Go.Proofs.YtjdhnhfglpogmaaW.PrintWords Go.Proofs.YtjdhnhfglpogmaaW.PrintLast Go.Proofs.YtjdhnhfglpogmaaW.PrintMore
attribute [local go_sem] max2_int min2_int max_two min_two max_three min_three max_four min_four   -- for this text's walks alone
set_option linter.unusedVariables false
set_option linter.unusedSimpArgs false

/-! ### cohousinglaw36_CauseRuns: function 4 -/
mutual
def cohousinglaw36_CauseRuns.j0 : Nat → List (S44) → List Bool → Bool → Bool → Option (Bool)
 | 0, _, _, _, _ => none
 | k + 1, x0, x1, x5, x25 => if x25 = true then (some x5) else ((cause_Run.f x0 x1).bind fun bt274 => (if bt274.2 = 0 then (cohousinglaw36_CauseRuns.j1 k x0 x1 x5 bt274.1 ((bt274.1.length : Int) != (x0.length : Int))) else (cohousinglaw36_CauseRuns.j1 k x0 x1 x5 bt274.1 true)))
def cohousinglaw36_CauseRuns.j1 : Nat → List (S44) → List Bool → Bool → List Bool → Bool → Option (Bool)
 | 0, _, _, _, _, _ => none
 | k + 1, x0, x1, x5, x6, x41 => if x41 = true then (some false) else (cohousinglaw36_CauseRuns.l0 k x1 x5 x6 0 x0 (x0.length : Int) 0)
def cohousinglaw36_CauseRuns.l0 : Nat → List Bool → Bool → List Bool → Int → List (S44) → Int → Int → Option (Bool)
 | 0, _, _, _, _, _, _, _ => none
 | k + 1, x1, x5, x6, x8, x42, x43, x44 => if x44 < x43 then (if 0 ≤ x44 then (if x44 < (x42.length : Int) then (if (((rd_T44 x42 x44).f1).length : Int) = 0 then (if x44 < (x6.length : Int) then (if 0 ≤ x8 then (if x8 < (x1.length : Int) then (if ((rdOf false x6 x44) != (rdOf false x1 x8)) = true then (some false) else (cohousinglaw36_CauseRuns.l0 k x1 x5 x6 (wrap64 (x8 + 1)) x42 x43 (wrap64 (x44 + 1)))) else (none)) else (none)) else (none)) else (cohousinglaw36_CauseRuns.l1 k x1 x5 x6 x8 x44 0 x42 x43 x44 ((rd_T44 x42 x44).f1) (((rd_T44 x42 x44).f1).length : Int) 0 ((rd_T44 x42 x44).f0) ((rd_T44 x42 x44).f1) ((rd_T44 x42 x44).f2))) else (none)) else (none)) else (some x5)
def cohousinglaw36_CauseRuns.l1 : Nat → List Bool → Bool → List Bool → Int → Int → Int → List (S44) → Int → Int → List Int → Int → Int → Int → List Int → List Bool → Option (Bool)
 | 0, _, _, _, _, _, _, _, _, _, _, _, _, _, _, _ => none
 | k + 1, x1, x5, x6, x8, x9, x11, x42, x43, x44, x65, x66, x67, x280000, x280001, x280002 => if x67 < x66 then (if 0 ≤ x67 then (if x67 < (x65.length : Int) then (if 0 ≤ (rd x65 x67) then (if (rd x65 x67) < (x6.length : Int) then (if rdOf false x6 (rd x65 x67) = true then (cohousinglaw36_CauseRuns.l1 k x1 x5 x6 x8 x9 (Go.bits .or .i64 x11 (shl .i64 1 x67)) x42 x43 x44 x65 x66 (wrap64 (x67 + 1)) x280000 x280001 x280002) else (cohousinglaw36_CauseRuns.l1 k x1 x5 x6 x8 x9 x11 x42 x43 x44 x65 x66 (wrap64 (x67 + 1)) x280000 x280001 x280002)) else (none)) else (none)) else (none)) else (none)) else (if 0 ≤ x9 then (if x9 < (x6.length : Int) then (if 0 ≤ x11 then (if x11 < (x280002.length : Int) then (if ((rdOf false x6 x9) != (rdOf false x280002 x11)) = true then (some false) else (cohousinglaw36_CauseRuns.l0 k x1 x5 x6 x8 x42 x43 (wrap64 (x44 + 1)))) else (none)) else (none)) else (none)) else (none))
end
def cohousinglaw36_CauseRuns.f (k : Nat) (l0 : List (S44)) (l1 : List Bool) : Option (Bool) := (cohousinglaw36_head.f).bind fun t269 => ((cohousinglaw36_usable.f k l0 ([] : List (S48)) 0).bind fun t270 => (if t270 = true then ((cohousingref36_Free.f k l0).bind fun t271 => (cohousinglaw36_CauseRuns.j0 k l0 l1 t269 ((l1.length : Int) != (t271.length : Int)))) else (cohousinglaw36_CauseRuns.j0 k l0 l1 t269 true)))
theorem cohousinglaw36_CauseRuns.mono_l : ∀ k, (∀ y0 y1 y2 y3, LeO (cohousinglaw36_CauseRuns.j0 k y0 y1 y2 y3) (cohousinglaw36_CauseRuns.j0 (k + 1) y0 y1 y2 y3)) ∧ (∀ y0 y1 y2 y3 y4, LeO (cohousinglaw36_CauseRuns.j1 k y0 y1 y2 y3 y4) (cohousinglaw36_CauseRuns.j1 (k + 1) y0 y1 y2 y3 y4)) ∧ (∀ y0 y1 y2 y3 y4 y5 y6, LeO (cohousinglaw36_CauseRuns.l0 k y0 y1 y2 y3 y4 y5 y6) (cohousinglaw36_CauseRuns.l0 (k + 1) y0 y1 y2 y3 y4 y5 y6)) ∧ (∀ y0 y1 y2 y3 y4 y5 y6 y7 y8 y9 y10 y11 y12 y13 y14, LeO (cohousinglaw36_CauseRuns.l1 k y0 y1 y2 y3 y4 y5 y6 y7 y8 y9 y10 y11 y12 y13 y14) (cohousinglaw36_CauseRuns.l1 (k + 1) y0 y1 y2 y3 y4 y5 y6 y7 y8 y9 y10 y11 y12 y13 y14))
 | 0 => ⟨fun _ _ _ _ r h => by simp [cohousinglaw36_CauseRuns.j0] at h, fun _ _ _ _ _ r h => by simp [cohousinglaw36_CauseRuns.j1] at h, fun _ _ _ _ _ _ _ r h => by simp [cohousinglaw36_CauseRuns.l0] at h, fun _ _ _ _ _ _ _ _ _ _ _ _ _ _ _ r h => by simp [cohousinglaw36_CauseRuns.l1] at h⟩
 | k + 1 => by
  obtain ⟨ih0, ih1, ih2, ih3⟩ := cohousinglaw36_CauseRuns.mono_l k
  refine ⟨?_, ?_, ?_, ?_⟩
  ·intro y0 y1 y2 y3
   unfold cohousinglaw36_CauseRuns.j0
   repeat' first
   | (with_reducible exact ih0 _ _ _ _)
   | (with_reducible exact ih1 _ _ _ _ _)
   | (with_reducible exact ih2 _ _ _ _ _ _ _)
   | (with_reducible exact ih3 _ _ _ _ _ _ _ _ _ _ _ _ _ _ _)
   | (with_reducible exact cohousinglaw36_usable.mono _ _ _ _)
   | (with_reducible exact cohousingref36_Free.mono _ _)
   | (with_reducible exact LeO.refl _)
   | (with_reducible exact LeO.none _)
   | (with_reducible refine LeO.ite ?_ ?_)
   | (with_reducible refine LeO.bind ?_ (fun _ => ?_))
   | exact ih0 _ _ _ _
   | exact ih1 _ _ _ _ _
   | exact ih2 _ _ _ _ _ _ _
   | exact ih3 _ _ _ _ _ _ _ _ _ _ _ _ _ _ _
   | exact cohousinglaw36_usable.mono _ _ _ _
   | exact cohousingref36_Free.mono _ _
   | exact LeO.none _
   | refine LeO.ite ?_ ?_
   | refine LeO.bind ?_ (fun _ => ?_)
  ·intro y0 y1 y2 y3 y4
   unfold cohousinglaw36_CauseRuns.j1
   repeat' first
   | (with_reducible exact ih0 _ _ _ _)
   | (with_reducible exact ih1 _ _ _ _ _)
   | (with_reducible exact ih2 _ _ _ _ _ _ _)
   | (with_reducible exact ih3 _ _ _ _ _ _ _ _ _ _ _ _ _ _ _)
   | (with_reducible exact cohousinglaw36_usable.mono _ _ _ _)
   | (with_reducible exact cohousingref36_Free.mono _ _)
   | (with_reducible exact LeO.refl _)
   | (with_reducible exact LeO.none _)
   | (with_reducible refine LeO.ite ?_ ?_)
   | (with_reducible refine LeO.bind ?_ (fun _ => ?_))
   | exact ih0 _ _ _ _
   | exact ih1 _ _ _ _ _
   | exact ih2 _ _ _ _ _ _ _
   | exact ih3 _ _ _ _ _ _ _ _ _ _ _ _ _ _ _
   | exact cohousinglaw36_usable.mono _ _ _ _
   | exact cohousingref36_Free.mono _ _
   | exact LeO.none _
   | refine LeO.ite ?_ ?_
   | refine LeO.bind ?_ (fun _ => ?_)
  ·intro y0 y1 y2 y3 y4 y5 y6
   unfold cohousinglaw36_CauseRuns.l0
   repeat' first
   | (with_reducible exact ih0 _ _ _ _)
   | (with_reducible exact ih1 _ _ _ _ _)
   | (with_reducible exact ih2 _ _ _ _ _ _ _)
   | (with_reducible exact ih3 _ _ _ _ _ _ _ _ _ _ _ _ _ _ _)
   | (with_reducible exact cohousinglaw36_usable.mono _ _ _ _)
   | (with_reducible exact cohousingref36_Free.mono _ _)
   | (with_reducible exact LeO.refl _)
   | (with_reducible exact LeO.none _)
   | (with_reducible refine LeO.ite ?_ ?_)
   | (with_reducible refine LeO.bind ?_ (fun _ => ?_))
   | exact ih0 _ _ _ _
   | exact ih1 _ _ _ _ _
   | exact ih2 _ _ _ _ _ _ _
   | exact ih3 _ _ _ _ _ _ _ _ _ _ _ _ _ _ _
   | exact cohousinglaw36_usable.mono _ _ _ _
   | exact cohousingref36_Free.mono _ _
   | exact LeO.none _
   | refine LeO.ite ?_ ?_
   | refine LeO.bind ?_ (fun _ => ?_)
  ·intro y0 y1 y2 y3 y4 y5 y6 y7 y8 y9 y10 y11 y12 y13 y14
   unfold cohousinglaw36_CauseRuns.l1
   repeat' first
   | (with_reducible exact ih0 _ _ _ _)
   | (with_reducible exact ih1 _ _ _ _ _)
   | (with_reducible exact ih2 _ _ _ _ _ _ _)
   | (with_reducible exact ih3 _ _ _ _ _ _ _ _ _ _ _ _ _ _ _)
   | (with_reducible exact cohousinglaw36_usable.mono _ _ _ _)
   | (with_reducible exact cohousingref36_Free.mono _ _)
   | (with_reducible exact LeO.refl _)
   | (with_reducible exact LeO.none _)
   | (with_reducible refine LeO.ite ?_ ?_)
   | (with_reducible refine LeO.bind ?_ (fun _ => ?_))
   | exact ih0 _ _ _ _
   | exact ih1 _ _ _ _ _
   | exact ih2 _ _ _ _ _ _ _
   | exact ih3 _ _ _ _ _ _ _ _ _ _ _ _ _ _ _
   | exact cohousinglaw36_usable.mono _ _ _ _
   | exact cohousingref36_Free.mono _ _
   | exact LeO.none _
   | refine LeO.ite ?_ ?_
   | refine LeO.bind ?_ (fun _ => ?_)
theorem cohousinglaw36_CauseRuns.mono : ∀ a0 a1 k, LeO (cohousinglaw36_CauseRuns.f k a0 a1) (cohousinglaw36_CauseRuns.f (k + 1) a0 a1) := by
 intro a0 a1 k
 obtain ⟨ih0, ih1, ih2, ih3⟩ := cohousinglaw36_CauseRuns.mono_l k
 unfold cohousinglaw36_CauseRuns.f
 repeat' first
   | (with_reducible exact ih0 _ _ _ _)
   | (with_reducible exact ih1 _ _ _ _ _)
   | (with_reducible exact ih2 _ _ _ _ _ _ _)
   | (with_reducible exact ih3 _ _ _ _ _ _ _ _ _ _ _ _ _ _ _)
   | (with_reducible exact cohousinglaw36_usable.mono _ _ _ _)
   | (with_reducible exact cohousingref36_Free.mono _ _)
   | (with_reducible exact LeO.refl _)
   | (with_reducible exact LeO.none _)
   | (with_reducible refine LeO.ite ?_ ?_)
   | (with_reducible refine LeO.bind ?_ (fun _ => ?_))
   | exact ih0 _ _ _ _
   | exact ih1 _ _ _ _ _
   | exact ih2 _ _ _ _ _ _ _
   | exact ih3 _ _ _ _ _ _ _ _ _ _ _ _ _ _ _
   | exact cohousinglaw36_usable.mono _ _ _ _
   | exact cohousingref36_Free.mono _ _
   | exact LeO.none _
   | refine LeO.ite ?_ ?_
   | refine LeO.bind ?_ (fun _ => ?_)
set_option maxHeartbeats 8000000 in
set_option maxRecDepth 100000 in
theorem cohousinglaw36_CauseRuns.calls (k : Nat) (A0 : Option Addr) (c0 : Nat) (l0 : List (S44)) (A1 : Option Addr) (c1 : Nat) (l1 : List Bool) (r : Bool) (w : World) (hr0 : Kd.C k44 w A0 l0.length l0) (hc0 : l0.length ≤ c0) (hr1 : Kd.C Kd.bool w A1 l1.length l1) (hc1 : l1.length ≤ c1) (h : cohousinglaw36_CauseRuns.f k l0 l1 = some r) :
  Calls Try.prog 4 #[.slice A0 l0.length c0, .slice A1 l1.length c1] w fun e w' => e = .returned (.bool r) ∧ Below w.heap.size w w' := by
 have hu44 := Try.underlying44
 have HR0 := Aside0.mk hr0
 have HC0 := Aside0.mk hc0
 clear hr0 hc0
 have HR1 := Aside0.mk hr1
 have HC1 := Aside0.mk hc1
 clear hr1 hc1
 have HB := Aside0.mk (Below.refl w.heap.size w)
 have H : ((cohousinglaw36_head.f).bind fun t269 => ((cohousinglaw36_usable.f k l0 ([] : List (S48)) 0).bind fun t270 => (if t270 = true then ((cohousingref36_Free.f k l0).bind fun t271 => (cohousinglaw36_CauseRuns.j0 k l0 l1 t269 ((l1.length : Int) != (t271.length : Int)))) else (cohousinglaw36_CauseRuns.j0 k l0 l1 t269 true)))) = some r := h
 clear h
 replace H := Option.bind_eq_some_iff.mp H
 obtain ⟨t269, A30, H⟩ := H
 replace H : ((cohousinglaw36_usable.f k l0 ([] : List (S48)) 0).bind fun t270 => (if t270 = true then ((cohousingref36_Free.f k l0).bind fun t271 => (cohousinglaw36_CauseRuns.j0 k l0 l1 t269 ((l1.length : Int) != (t271.length : Int)))) else (cohousinglaw36_CauseRuns.j0 k l0 l1 t269 true))) = some r := H
 have A3 := Aside0.mk A30
 clear A30
 have HC4 := Aside0.mk H
 clear H
 go_enter Try.func4, Try.ntmps4
 go_upto_region 2 with (first | (go_at_call 11; (with_reducible refine (cohousinglaw36_head.calls  t269 _ A3.out).mono ?_); rintro e w5 ⟨rfl, hb⟩; have n0_ := Aside0.mk (below_step (by repeat (first | (with_reducible first | exact HB.out | apply below_alloc | apply pw_below_drewN | apply below_drew1) | exact HB.out)) hb); clear HB; have HB := n0_; clear n0_; (try clear hb); (try clear hb2); (try clear hk); (try clear hi)))
 repeat (go_quiet (first | (go_at_call 11; (with_reducible refine (cohousinglaw36_head.calls  t269 _ A3.out).mono ?_); rintro e w5 ⟨rfl, hb⟩; have n0_ := Aside0.mk (below_step (by repeat (first | (with_reducible first | exact HB.out | apply below_alloc | apply pw_below_drewN | apply below_drew1) | exact HB.out)) hb); clear HB; have HB := n0_; clear n0_; (try clear hb); (try clear hb2); (try clear hk); (try clear hi))); go_upto_region 2 with (first | (go_at_call 11; (with_reducible refine (cohousinglaw36_head.calls  t269 _ A3.out).mono ?_); rintro e w5 ⟨rfl, hb⟩; have n0_ := Aside0.mk (below_step (by repeat (first | (with_reducible first | exact HB.out | apply below_alloc | apply pw_below_drewN | apply below_drew1) | exact HB.out)) hb); clear HB; have HB := n0_; clear n0_; (try clear hb); (try clear hb2); (try clear hk); (try clear hi))))
 (try simp only [Act.put, List.setIfInBounds_toArray, List.set_cons_zero, List.set_cons_succ])
 go_cut [25] (fun v25 wc => ∃ (kq : Nat) (x25_3 : Bool), v25 = .bool x25_3 ∧ Aside0 (cohousinglaw36_CauseRuns.j0 kq l0 l1 t269 x25_3 = some r) ∧ Aside0 (kq ≤ k) ∧ Aside0 (Below w.heap.size w wc))
 case first =>
  have H := HC4.out
  clear HC4
  replace H := Option.bind_eq_some_iff.mp H
  obtain ⟨t270, A60, H⟩ := H
  replace H : (if t270 = true then ((cohousingref36_Free.f k l0).bind fun t271 => (cohousinglaw36_CauseRuns.j0 k l0 l1 t269 ((l1.length : Int) != (t271.length : Int)))) else (cohousinglaw36_CauseRuns.j0 k l0 l1 t269 true)) = some r := H
  have A6 := Aside0.mk A60
  clear A60
  by_cases c7 : t270 = true
  ·subst c7
   have H1 : ((cohousingref36_Free.f k l0).bind fun t271 => (cohousinglaw36_CauseRuns.j0 k l0 l1 t269 ((l1.length : Int) != (t271.length : Int)))) = some r := by rw [if_pos rfl] at H; exact H
   clear H
   have H := H1
   clear H1
   replace H := Option.bind_eq_some_iff.mp H
   obtain ⟨t271, A80, H⟩ := H
   replace H : (cohousinglaw36_CauseRuns.j0 k l0 l1 t269 ((l1.length : Int) != (t271.length : Int))) = some r := H
   have A8 := Aside0.mk A80
   clear A80
   have H' := Aside0.mk H
   clear H
   go_wp2_with (first | (go_at_call 24; (refine (cohousinglaw36_usable.calls k _ _ l0 _ _ ([] : List (S48)) 0 true _ ?side1 ?side2 ?side3 ?side4 A6.out).mono ?_); (case side1 => repeat (first | exact (Kd.C_below HR0.out HB.out) | (with_reducible refine Kd.C_alloc ?_ _) | (with_reducible refine Kd.C_drewN ?_ _) | (with_reducible refine Kd.C_drew ?_))); (case side2 => exact HC0.out); (case side3 => exact Kd.C_nil _ _); (case side4 => exact Nat.le_refl _); rintro e w9 ⟨rfl, hb⟩; have n0_ := Aside0.mk (below_step (by repeat (first | (with_reducible first | exact HB.out | apply below_alloc | apply pw_below_drewN | apply below_drew1) | exact HB.out)) hb); clear HB; have HB := n0_; clear n0_; (try clear hb); (try clear hb2); (try clear hk); (try clear hi)) | (go_at_call 25; (with_reducible refine (cohousingref36_Free.calls k _ _ l0 t271 _ ?side1 ?side2 A8.out).mono ?_); (case side1 => repeat (first | exact (Kd.C_below HR0.out HB.out) | (with_reducible refine Kd.C_alloc ?_ _) | (with_reducible refine Kd.C_drewN ?_ _) | (with_reducible refine Kd.C_drew ?_))); (case side2 => exact HC0.out); rintro e w10 ⟨v272, rfl, ho0, hb⟩; have n0_ := Aside0.mk (Kd.R_lower ho0 (below_size (by repeat (first | (with_reducible first | exact HB.out | apply below_alloc | apply pw_below_drewN | apply below_drew1) | exact HB.out)))); have n1_ := Aside0.mk (below_step (by repeat (first | (with_reducible first | exact HB.out | apply below_alloc | apply pw_below_drewN | apply below_drew1) | exact HB.out)) hb); clear HB; have HO273 := n0_; have HB := n1_; clear n0_ n1_; (try clear hb); (try clear hb2); (try clear hk); (try clear hi); (try clear ho0); obtain ⟨Ao11, co11, eo11⟩ := Kd.R_slice HO273.out; subst eo11))
   repeat (go_quiet (first | (go_at_call 24; (refine (cohousinglaw36_usable.calls k _ _ l0 _ _ ([] : List (S48)) 0 true _ ?side1 ?side2 ?side3 ?side4 A6.out).mono ?_); (case side1 => repeat (first | exact (Kd.C_below HR0.out HB.out) | (with_reducible refine Kd.C_alloc ?_ _) | (with_reducible refine Kd.C_drewN ?_ _) | (with_reducible refine Kd.C_drew ?_))); (case side2 => exact HC0.out); (case side3 => exact Kd.C_nil _ _); (case side4 => exact Nat.le_refl _); rintro e w9 ⟨rfl, hb⟩; have n0_ := Aside0.mk (below_step (by repeat (first | (with_reducible first | exact HB.out | apply below_alloc | apply pw_below_drewN | apply below_drew1) | exact HB.out)) hb); clear HB; have HB := n0_; clear n0_; (try clear hb); (try clear hb2); (try clear hk); (try clear hi)) | (go_at_call 25; (with_reducible refine (cohousingref36_Free.calls k _ _ l0 t271 _ ?side1 ?side2 A8.out).mono ?_); (case side1 => repeat (first | exact (Kd.C_below HR0.out HB.out) | (with_reducible refine Kd.C_alloc ?_ _) | (with_reducible refine Kd.C_drewN ?_ _) | (with_reducible refine Kd.C_drew ?_))); (case side2 => exact HC0.out); rintro e w10 ⟨v272, rfl, ho0, hb⟩; have n0_ := Aside0.mk (Kd.R_lower ho0 (below_size (by repeat (first | (with_reducible first | exact HB.out | apply below_alloc | apply pw_below_drewN | apply below_drew1) | exact HB.out)))); have n1_ := Aside0.mk (below_step (by repeat (first | (with_reducible first | exact HB.out | apply below_alloc | apply pw_below_drewN | apply below_drew1) | exact HB.out)) hb); clear HB; have HO273 := n0_; have HB := n1_; clear n0_ n1_; (try clear hb); (try clear hb2); (try clear hk); (try clear hi); (try clear ho0); obtain ⟨Ao11, co11, eo11⟩ := Kd.R_slice HO273.out; subst eo11)); try go_wp2_with (first | (go_at_call 24; (refine (cohousinglaw36_usable.calls k _ _ l0 _ _ ([] : List (S48)) 0 true _ ?side1 ?side2 ?side3 ?side4 A6.out).mono ?_); (case side1 => repeat (first | exact (Kd.C_below HR0.out HB.out) | (with_reducible refine Kd.C_alloc ?_ _) | (with_reducible refine Kd.C_drewN ?_ _) | (with_reducible refine Kd.C_drew ?_))); (case side2 => exact HC0.out); (case side3 => exact Kd.C_nil _ _); (case side4 => exact Nat.le_refl _); rintro e w9 ⟨rfl, hb⟩; have n0_ := Aside0.mk (below_step (by repeat (first | (with_reducible first | exact HB.out | apply below_alloc | apply pw_below_drewN | apply below_drew1) | exact HB.out)) hb); clear HB; have HB := n0_; clear n0_; (try clear hb); (try clear hb2); (try clear hk); (try clear hi)) | (go_at_call 25; (with_reducible refine (cohousingref36_Free.calls k _ _ l0 t271 _ ?side1 ?side2 A8.out).mono ?_); (case side1 => repeat (first | exact (Kd.C_below HR0.out HB.out) | (with_reducible refine Kd.C_alloc ?_ _) | (with_reducible refine Kd.C_drewN ?_ _) | (with_reducible refine Kd.C_drew ?_))); (case side2 => exact HC0.out); rintro e w10 ⟨v272, rfl, ho0, hb⟩; have n0_ := Aside0.mk (Kd.R_lower ho0 (below_size (by repeat (first | (with_reducible first | exact HB.out | apply below_alloc | apply pw_below_drewN | apply below_drew1) | exact HB.out)))); have n1_ := Aside0.mk (below_step (by repeat (first | (with_reducible first | exact HB.out | apply below_alloc | apply pw_below_drewN | apply below_drew1) | exact HB.out)) hb); clear HB; have HO273 := n0_; have HB := n1_; clear n0_ n1_; (try clear hb); (try clear hb2); (try clear hk); (try clear hi); (try clear ho0); obtain ⟨Ao11, co11, eo11⟩ := Kd.R_slice HO273.out; subst eo11)))
   go_meet
   case rel => exact ⟨_, (((l1.length : Int) != (t271.length : Int))), (by first | rfl | (simp; done) | (simp [*]; done)), H', ⟨by first | omega | exact Nat.le_refl _⟩, ⟨by repeat (first | (with_reducible first | exact HB.out | apply below_alloc | apply pw_below_drewN | apply below_drew1) | exact HB.out)⟩⟩
  ·replace c7 := Bool.eq_false_iff.mpr c7
   subst c7
   have H1 : (cohousinglaw36_CauseRuns.j0 k l0 l1 t269 true) = some r := by rw [if_neg (show ¬ (false = true) by decide)] at H; exact H
   clear H
   have H := H1
   clear H1
   have H' := Aside0.mk H
   clear H
   go_wp2_with (first | (go_at_call 24; (refine (cohousinglaw36_usable.calls k _ _ l0 _ _ ([] : List (S48)) 0 false _ ?side1 ?side2 ?side3 ?side4 A6.out).mono ?_); (case side1 => repeat (first | exact (Kd.C_below HR0.out HB.out) | (with_reducible refine Kd.C_alloc ?_ _) | (with_reducible refine Kd.C_drewN ?_ _) | (with_reducible refine Kd.C_drew ?_))); (case side2 => exact HC0.out); (case side3 => exact Kd.C_nil _ _); (case side4 => exact Nat.le_refl _); rintro e w12 ⟨rfl, hb⟩; have n0_ := Aside0.mk (below_step (by repeat (first | (with_reducible first | exact HB.out | apply below_alloc | apply pw_below_drewN | apply below_drew1) | exact HB.out)) hb); clear HB; have HB := n0_; clear n0_; (try clear hb); (try clear hb2); (try clear hk); (try clear hi)))
   repeat (go_quiet (first | (go_at_call 24; (refine (cohousinglaw36_usable.calls k _ _ l0 _ _ ([] : List (S48)) 0 false _ ?side1 ?side2 ?side3 ?side4 A6.out).mono ?_); (case side1 => repeat (first | exact (Kd.C_below HR0.out HB.out) | (with_reducible refine Kd.C_alloc ?_ _) | (with_reducible refine Kd.C_drewN ?_ _) | (with_reducible refine Kd.C_drew ?_))); (case side2 => exact HC0.out); (case side3 => exact Kd.C_nil _ _); (case side4 => exact Nat.le_refl _); rintro e w12 ⟨rfl, hb⟩; have n0_ := Aside0.mk (below_step (by repeat (first | (with_reducible first | exact HB.out | apply below_alloc | apply pw_below_drewN | apply below_drew1) | exact HB.out)) hb); clear HB; have HB := n0_; clear n0_; (try clear hb); (try clear hb2); (try clear hk); (try clear hi))); try go_wp2_with (first | (go_at_call 24; (refine (cohousinglaw36_usable.calls k _ _ l0 _ _ ([] : List (S48)) 0 false _ ?side1 ?side2 ?side3 ?side4 A6.out).mono ?_); (case side1 => repeat (first | exact (Kd.C_below HR0.out HB.out) | (with_reducible refine Kd.C_alloc ?_ _) | (with_reducible refine Kd.C_drewN ?_ _) | (with_reducible refine Kd.C_drew ?_))); (case side2 => exact HC0.out); (case side3 => exact Kd.C_nil _ _); (case side4 => exact Nat.le_refl _); rintro e w12 ⟨rfl, hb⟩; have n0_ := Aside0.mk (below_step (by repeat (first | (with_reducible first | exact HB.out | apply below_alloc | apply pw_below_drewN | apply below_drew1) | exact HB.out)) hb); clear HB; have HB := n0_; clear n0_; (try clear hb); (try clear hb2); (try clear hk); (try clear hi))))
   go_meet
   case rel => exact ⟨_, (true), (by first | rfl | (simp; done) | (simp [*]; done)), H', ⟨by first | omega | exact Nat.le_refl _⟩, ⟨by repeat (first | (with_reducible first | exact HB.out | apply below_alloc | apply pw_below_drewN | apply below_drew1) | exact HB.out)⟩⟩
 case rest =>
  clear HC4
  try clear c1
  try clear p2
  try clear c4
  try clear c7
  obtain ⟨kq, x25_3, rfl, HA, HJ3, HB⟩ := hcut
  cases kq with
  | zero => exact absurd HA.out (by simp [cohousinglaw36_CauseRuns.j0])
  | succ kj3 =>
   have H := HA.out
   clear HA
   simp only [cohousinglaw36_CauseRuns.j0] at H
   by_cases c13 : x25_3 = true
   ·subst c13
    have H1 : (some t269) = some r := by rw [if_pos rfl] at H; exact H
    clear H
    have H := H1
    clear H1
    obtain rfl := Option.some.inj H
    go_wp2
    repeat (go_quiet (fail); try go_wp2)
    go_ret
    exact ⟨by first | rfl | (simp [errW_none, errW_some] <;> rfl) | (simp [*, errW_none, errW_some] <;> rfl), by repeat (first | (with_reducible first | exact HB.out | apply below_alloc | apply pw_below_drewN | apply below_drew1) | exact HB.out)⟩
   ·replace c13 := Bool.eq_false_iff.mpr c13
    subst c13
    have H1 : ((cause_Run.f l0 l1).bind fun bt274 => (if bt274.2 = 0 then (cohousinglaw36_CauseRuns.j1 kj3 l0 l1 t269 bt274.1 ((bt274.1.length : Int) != (l0.length : Int))) else (cohousinglaw36_CauseRuns.j1 kj3 l0 l1 t269 bt274.1 true))) = some r := by rw [if_neg (show ¬ (false = true) by decide)] at H; exact H
    clear H
    have H := H1
    clear H1
    replace H := Option.bind_eq_some_iff.mp H
    obtain ⟨⟨t274, t275⟩, A140, H⟩ := H
    replace H : (if t275 = 0 then (cohousinglaw36_CauseRuns.j1 kj3 l0 l1 t269 t274 ((t274.length : Int) != (l0.length : Int))) else (cohousinglaw36_CauseRuns.j1 kj3 l0 l1 t269 t274 true)) = some r := H
    have A14 := Aside0.mk A140
    clear A140
    have HC15 := Aside0.mk H
    clear H
    go_upto_region 5 with (first | (go_at_call 13; (with_reducible refine (cause_Run.calls _ _ l0 _ _ l1 t274 t275 _ ?side1 ?side2 ?side3 ?side4 A14.out).mono ?_); (case side1 => repeat (first | exact (Kd.C_below HR0.out HB.out) | (with_reducible refine Kd.C_alloc ?_ _) | (with_reducible refine Kd.C_drewN ?_ _) | (with_reducible refine Kd.C_drew ?_))); (case side2 => exact HC0.out); (case side3 => repeat (first | exact (Kd.C_below HR1.out HB.out) | (with_reducible refine Kd.C_alloc ?_ _) | (with_reducible refine Kd.C_drewN ?_ _) | (with_reducible refine Kd.C_drew ?_))); (case side4 => exact HC1.out); rintro e w16 ⟨v276, rfl, ho0, hb⟩; have n0_ := Aside0.mk (Kd.R_lower ho0 (below_size (by repeat (first | (with_reducible first | exact HB.out | apply below_alloc | apply pw_below_drewN | apply below_drew1) | exact HB.out)))); have n1_ := Aside0.mk (below_step (by repeat (first | (with_reducible first | exact HB.out | apply below_alloc | apply pw_below_drewN | apply below_drew1) | exact HB.out)) hb); clear HB; have HO277 := n0_; have HB := n1_; clear n0_ n1_; (try clear hb); (try clear hb2); (try clear hk); (try clear hi); (try clear ho0)))
    repeat (go_quiet (first | (go_at_call 13; (with_reducible refine (cause_Run.calls _ _ l0 _ _ l1 t274 t275 _ ?side1 ?side2 ?side3 ?side4 A14.out).mono ?_); (case side1 => repeat (first | exact (Kd.C_below HR0.out HB.out) | (with_reducible refine Kd.C_alloc ?_ _) | (with_reducible refine Kd.C_drewN ?_ _) | (with_reducible refine Kd.C_drew ?_))); (case side2 => exact HC0.out); (case side3 => repeat (first | exact (Kd.C_below HR1.out HB.out) | (with_reducible refine Kd.C_alloc ?_ _) | (with_reducible refine Kd.C_drewN ?_ _) | (with_reducible refine Kd.C_drew ?_))); (case side4 => exact HC1.out); rintro e w16 ⟨v276, rfl, ho0, hb⟩; have n0_ := Aside0.mk (Kd.R_lower ho0 (below_size (by repeat (first | (with_reducible first | exact HB.out | apply below_alloc | apply pw_below_drewN | apply below_drew1) | exact HB.out)))); have n1_ := Aside0.mk (below_step (by repeat (first | (with_reducible first | exact HB.out | apply below_alloc | apply pw_below_drewN | apply below_drew1) | exact HB.out)) hb); clear HB; have HO277 := n0_; have HB := n1_; clear n0_ n1_; (try clear hb); (try clear hb2); (try clear hk); (try clear hi); (try clear ho0))); go_upto_region 5 with (first | (go_at_call 13; (with_reducible refine (cause_Run.calls _ _ l0 _ _ l1 t274 t275 _ ?side1 ?side2 ?side3 ?side4 A14.out).mono ?_); (case side1 => repeat (first | exact (Kd.C_below HR0.out HB.out) | (with_reducible refine Kd.C_alloc ?_ _) | (with_reducible refine Kd.C_drewN ?_ _) | (with_reducible refine Kd.C_drew ?_))); (case side2 => exact HC0.out); (case side3 => repeat (first | exact (Kd.C_below HR1.out HB.out) | (with_reducible refine Kd.C_alloc ?_ _) | (with_reducible refine Kd.C_drewN ?_ _) | (with_reducible refine Kd.C_drew ?_))); (case side4 => exact HC1.out); rintro e w16 ⟨v276, rfl, ho0, hb⟩; have n0_ := Aside0.mk (Kd.R_lower ho0 (below_size (by repeat (first | (with_reducible first | exact HB.out | apply below_alloc | apply pw_below_drewN | apply below_drew1) | exact HB.out)))); have n1_ := Aside0.mk (below_step (by repeat (first | (with_reducible first | exact HB.out | apply below_alloc | apply pw_below_drewN | apply below_drew1) | exact HB.out)) hb); clear HB; have HO277 := n0_; have HB := n1_; clear n0_ n1_; (try clear hb); (try clear hb2); (try clear hk); (try clear hi); (try clear ho0))))
    (try simp only [Act.put, List.setIfInBounds_toArray, List.set_cons_zero, List.set_cons_succ])
    go_cut [41] (fun v41 wc => ∃ (kq : Nat) (x41_14 : Bool), v41 = .bool x41_14 ∧ Aside0 (cohousinglaw36_CauseRuns.j1 kq l0 l1 t269 t274 x41_14 = some r) ∧ Aside0 (kq ≤ kj3) ∧ Aside0 (Kd.R Kd.bool 4 wc w.heap.size (fun _ => True) v276 t274) ∧ Aside0 (Below w.heap.size w wc))
    case first =>
     have H := HC15.out
     clear HC15
     by_cases c17 : t275 = 0
     ·rw [if_pos c17] at H
      have c17b0 : (t275 == 0) = true := beq_iff_eq.mpr c17
      have c17b1 : (t275 != 0) = false := bne_eq_false_iff_eq.mpr c17
      clear c17
      (first | rw [c17b0] | (simp only [i64_w, i32_w]; rw [c17b0]) | skip)
      have H' := Aside0.mk H
      clear H
      obtain ⟨Ao18, co18, eo18⟩ := Kd.R_slice HO277.out
      subst eo18
      go_wp2
      repeat (go_quiet (fail); try go_wp2)
      go_meet
      case rel => exact ⟨_, (((t274.length : Int) != (l0.length : Int))), (by first | rfl | (simp; done) | (simp [*]; done)), H', ⟨by have := HJ3.out; first | omega | exact Nat.le_refl _⟩, ⟨by (with_reducible repeat (first | apply Kd.R_alloc | apply Kd.R_drewN | apply Kd.R_drew)); exact HO277.out⟩, ⟨by repeat (first | (with_reducible first | exact HB.out | apply below_alloc | apply pw_below_drewN | apply below_drew1) | exact HB.out)⟩⟩
     ·rw [if_neg c17] at H
      have c17b0 : (t275 == 0) = false := beq_eq_false_iff_ne.mpr c17
      have c17b1 : (t275 != 0) = true := bne_iff_ne.mpr c17
      (first | rw [c17b0] | (simp only [i64_w, i32_w]; rw [c17b0]) | skip)
      have H' := Aside0.mk H
      clear H
      go_wp2
      repeat (go_quiet (fail); try go_wp2)
      go_meet
      case rel => exact ⟨_, (true), (by first | rfl | (simp; done) | (simp [*]; done)), H', ⟨by have := HJ3.out; first | omega | exact Nat.le_refl _⟩, ⟨by (with_reducible repeat (first | apply Kd.R_alloc | apply Kd.R_drewN | apply Kd.R_drew)); exact HO277.out⟩, ⟨by repeat (first | (with_reducible first | exact HB.out | apply below_alloc | apply pw_below_drewN | apply below_drew1) | exact HB.out)⟩⟩
    case rest =>
     clear HC15
     try clear c1
     try clear p2
     try clear c4
     try clear c7
     try clear c13
     try clear c17
     try clear c17b0
     try clear c17b1
     try clear p2
     obtain ⟨kq, x41_14, rfl, HA, HJ14, HO_6, HB⟩ := hcut
     cases kq with
     | zero => exact absurd HA.out (by simp [cohousinglaw36_CauseRuns.j1])
     | succ kj14 =>
      have H := HA.out
      clear HA
      simp only [cohousinglaw36_CauseRuns.j1] at H
      by_cases c19 : x41_14 = true
      ·subst c19
       have H1 : (some false) = some r := by rw [if_pos rfl] at H; exact H
       clear H
       have H := H1
       clear H1
       obtain rfl := Option.some.inj H
       go_wp2
       repeat (go_quiet (fail); try go_wp2)
       go_ret
       exact ⟨by first | rfl | (simp [errW_none, errW_some] <;> rfl) | (simp [*, errW_none, errW_some] <;> rfl), by repeat (first | (with_reducible first | exact HB.out | apply below_alloc | apply pw_below_drewN | apply below_drew1) | exact HB.out)⟩
      ·replace c19 := Bool.eq_false_iff.mpr c19
       subst c19
       have H1 : (cohousinglaw36_CauseRuns.l0 kj14 l1 t269 t274 0 l0 (l0.length : Int) 0) = some r := by rw [if_neg (show ¬ (false = true) by decide)] at H; exact H
       clear H
       have H := H1
       clear H1
       have H' := Aside0.mk H
       clear H
       go_wp2
       repeat (go_quiet (fail); try go_wp2)
       go_loopg [8, 44] kj14 (fun kq v8 v44 w' => ∃ (x8_3 : Int) (x44_3 : Int), v8 = .int .i64 x8_3 ∧ v44 = .int .i64 x44_3 ∧ Aside0 (cohousinglaw36_CauseRuns.l0 kq l1 t269 t274 x8_3 l0 (l0.length : Int) x44_3 = some r) ∧ Aside0 (kq ≤ kj14) ∧ Aside0 (Kd.R Kd.bool 4 w' w.heap.size (fun _ => True) v276 t274) ∧ Aside0 (Below w.heap.size w w'))
       case atStart => exact ⟨(0), (0), (by first | rfl | (simp; done) | (simp [*]; done)), (by first | rfl | (simp; done) | (simp [*]; done)), H', ⟨Nat.le_refl _⟩, ⟨by (with_reducible repeat (first | apply Kd.R_alloc | apply Kd.R_drewN | apply Kd.R_drew)); exact HO_6.out⟩, ⟨by repeat (first | (with_reducible first | exact HB.out | apply below_alloc | apply pw_below_drewN | apply below_drew1) | exact HB.out)⟩⟩
       case round =>
        clear H'
        try clear c1
        try clear p2
        try clear c4
        try clear c7
        try clear c13
        try clear c17
        try clear c17b0
        try clear c17b1
        try clear c19
        try clear p2
        obtain ⟨x8_3, x44_3, rfl, rfl, HA, HK3, HO_6, HB⟩ := hrel
        cases gk with
        | zero => exact absurd HA.out (by simp [cohousinglaw36_CauseRuns.l0])
        | succ k3 =>
         have H := HA.out
         clear HA
         simp only [cohousinglaw36_CauseRuns.l0] at H
         by_cases c20 : x44_3 < (l0.length : Int)
         ·rw [if_pos c20] at H
          have c20b0 : decide (x44_3 < (l0.length : Int)) = true := decide_eq_true c20
          clear c20
          by_cases c21 : 0 ≤ x44_3
          ·rw [if_pos c21] at H
           have c21b0 : decide (0 ≤ x44_3) = true := decide_eq_true c21
           clear c21
           by_cases c22 : x44_3 < (l0.length : Int)
           ·rw [if_pos c22] at H
            have c22b0 : decide (x44_3 < (l0.length : Int)) = true := decide_eq_true c22
            clear c22
            by_cases c23 : (((rd_T44 l0 x44_3).f1).length : Int) = 0
            ·rw [if_pos c23] at H
             have c23b0 : ((((rd_T44 l0 x44_3).f1).length : Int) == 0) = true := beq_iff_eq.mpr c23
             have c23b1 : ((((rd_T44 l0 x44_3).f1).length : Int) != 0) = false := bne_eq_false_iff_eq.mpr c23
             clear c23
             by_cases c24 : x44_3 < (t274.length : Int)
             ·rw [if_pos c24] at H
              have c24b0 : decide (x44_3 < (t274.length : Int)) = true := decide_eq_true c24
              clear c24
              by_cases c25 : 0 ≤ x8_3
              ·rw [if_pos c25] at H
               have c25b0 : decide (0 ≤ x8_3) = true := decide_eq_true c25
               clear c25
               by_cases c26 : x8_3 < (l1.length : Int)
               ·rw [if_pos c26] at H
                have c26b0 : decide (x8_3 < (l1.length : Int)) = true := decide_eq_true c26
                clear c26
                by_cases c27 : ((rdOf false t274 x44_3) != (rdOf false l1 x8_3)) = true
                ·rw [if_pos c27] at H
                 have c27b0 : ((rdOf false t274 x44_3) != (rdOf false l1 x8_3)) = true := c27
                 (try (have c27b1 : decide ((rdOf false t274 x44_3) = (rdOf false l1 x8_3)) = false := by simpa using c27))
                 (try (have c27b2 : ((rdOf false t274 x44_3) == (rdOf false l1 x8_3)) = false := by simpa using c27))
                 (try (have c27b3 : ¬ ((rdOf false t274 x44_3) = (rdOf false l1 x8_3)) := by simpa using c27))
                 clear c27
                 obtain rfl := Option.some.inj H
                 have p278 : 0 ≤ (x44_3 : Int) := of_decide_eq_true (by first | (with_reducible assumption) | assumption)
                 have q278 : x44_3 < (l0.length : Int) := of_decide_eq_true (by first | (with_reducible assumption) | assumption)
                 obtain ⟨ad278, A278_1, c278_1, A278_2, c278_2, e278, hx278_0, hx278_1, hx278_2, hl278_1, hi278_1, hl278_2, hi278_2⟩ := at_T44 HR0.out x44_3 p278 q278
                 cases e278
                 replace hx278_0 := (HB.out.cell (World.block_lt_of_cell? w _ hx278_0)).trans hx278_0
                 replace hx278_1 := (HB.out.cell (World.block_lt_of_cell? w _ hx278_1)).trans hx278_1
                 replace hx278_2 := (HB.out.cell (World.block_lt_of_cell? w _ hx278_2)).trans hx278_2
                 have HR278_1 := Aside0.mk hi278_1
                 have HC278_1 := Aside0.mk hl278_1
                 clear hi278_1 hl278_1
                 have HR278_2 := Aside0.mk hi278_2
                 have HC278_2 := Aside0.mk hl278_2
                 clear hi278_2 hl278_2
                 replace p278 := eq_true p278
                 replace q278 := eq_true q278
                 go_wp2_with (first | ((with_reducible refine gate_dst (N := 10) rfl ?_); (try (refine gate_guard (by rfl) ?_; dsimp only)); refine box_event ?hg (N := 10) ?hd (cs := #[.int .i64 0, .slice none 0 0, .slice none 0 0]) (t := 44) ?hr ?_; (case hd => rfl); (case hg => rfl); (case hr => first | (go_simp; done) | (go_simp; rfl)); intro gb279 hg w28 hbox hb; have n0_ := Aside0.mk (Kd.R_below (by (with_reducible repeat (first | apply Kd.R_alloc | apply Kd.R_drewN | apply Kd.R_drew)); exact HO_6.out) hb); have n1_ := Aside0.mk (below_step (by repeat (first | (with_reducible first | exact HB.out | apply below_alloc | apply pw_below_drewN | apply below_drew1) | exact HB.out)) hb); have n2_ := Aside0.mk (hbox); have n3_ := Aside0.mk ((by rw [hg]; exact (below_size (by repeat (first | (with_reducible first | exact HB.out | apply below_alloc | apply pw_below_drewN | apply below_drew1) | exact HB.out))) : w.heap.size ≤ gb279)); have n4_ := Aside0.mk ((by rw [hg]; exact (below_size (by repeat (first | (with_reducible first | exact HB.out | apply below_alloc | apply pw_below_drewN | apply below_drew1) | exact HB.out))) : w.heap.size ≤ gb279)); clear HO_6; clear HB; have HO_6 := n0_; have HB := n1_; have BK279 := n2_; have GW279 := n3_; have GE279 := n4_; clear n0_ n1_ n2_ n3_ n4_; clear hb hbox hg; have hcz29_0 : w28.cell? ⟨gb279, 0, none⟩ = some (.int .i64 0) := (blk_cell BK279.out 0).trans rfl; have hcz29_1 : w28.cell? ⟨gb279, 1, none⟩ = some (.slice none 0 0) := (blk_cell BK279.out 1).trans rfl; have hcz29_2 : w28.cell? ⟨gb279, 2, none⟩ = some (.slice none 0 0) := (blk_cell BK279.out 2).trans rfl; have hfz29_0 := blk_frozen BK279.out 0; have hfz29_1 := blk_frozen BK279.out 1; have hfz29_2 := blk_frozen BK279.out 2; obtain ⟨Ao30, co30, eo30⟩ := Kd.R_slice HO_6.out; subst eo30; have p280 : 0 ≤ (x44_3 : Int) := of_decide_eq_true (by first | (with_reducible assumption) | assumption); have q280 : x44_3 < (t274.length : Int) := of_decide_eq_true (by first | (with_reducible assumption) | assumption); obtain ⟨ad280, e280, hx280_0⟩ := Kd.at_bool (Kd.R_reads' HO_6.out).2.2 x44_3 p280 q280; cases e280; have hn280_0 : ad280.block ≠ gb279 := Kd.own_blk (Kd.R_ne HO_6.out BK279.out (by decide)); have hn280_1 : ad280.block ≠ gb279 := Kd.own_blk (Kd.R_ne HO_6.out BK279.out (by decide)); have hn280_2 : ad280.block ≠ gb279 := Kd.own_blk (Kd.R_ne HO_6.out BK279.out (by decide)); replace hx280_0 := (cell_far (p := ⟨gb279, 0, none⟩) (by first | (rw [add_block]; exact hn280_0) | (show (Addr.add _ _).block ≠ _; rw [add_block]; exact hn280_0) | exact hn280_0) (.int .i64 ((rd_T44 l0 x44_3).f0))).trans hx280_0; replace hx280_0 := (cell_far (p := ⟨gb279, 1, none⟩) (by first | (rw [add_block]; exact hn280_1) | (show (Addr.add _ _).block ≠ _; rw [add_block]; exact hn280_1) | exact hn280_1) (.slice A278_1 ((rd_T44 l0 x44_3).f1).length c278_1)).trans hx280_0; replace hx280_0 := (cell_far (p := ⟨gb279, 2, none⟩) (by first | (rw [add_block]; exact hn280_2) | (show (Addr.add _ _).block ≠ _; rw [add_block]; exact hn280_2) | exact hn280_2) (.slice A278_2 ((rd_T44 l0 x44_3).f2).length c278_2)).trans hx280_0; (try have hy280_0 := fun (n_ : Nat) => (show (((((w28.drewN n_).setCell ⟨gb279, 0, none⟩ (.int .i64 ((rd_T44 l0 x44_3).f0))).setCell ⟨gb279, 1, none⟩ (.slice A278_1 ((rd_T44 l0 x44_3).f1).length c278_1)).setCell ⟨gb279, 2, none⟩ (.slice A278_2 ((rd_T44 l0 x44_3).f2).length c278_2))).cell? _ = some _ from hx280_0)); clear hn280_0; clear hn280_1; clear hn280_2; replace p280 := eq_true p280; replace q280 := eq_true q280; have p281 : 0 ≤ (x8_3 : Int) := of_decide_eq_true (by first | (with_reducible assumption) | assumption); have q281 : x8_3 < (l1.length : Int) := of_decide_eq_true (by first | (with_reducible assumption) | assumption); obtain ⟨ad281, e281, hx281_0⟩ := Kd.at_bool HR1.out x8_3 p281 q281; cases e281; have hn281_0 : ad281.block ≠ gb279 := Nat.ne_of_lt (Nat.lt_of_lt_of_le (by have := World.block_lt_of_cell? _ _ hx281_0; first | rwa [add_block] at this | exact this) GW279.out); have hn281_1 : ad281.block ≠ gb279 := Nat.ne_of_lt (Nat.lt_of_lt_of_le (by have := World.block_lt_of_cell? _ _ hx281_0; first | rwa [add_block] at this | exact this) GW279.out); have hn281_2 : ad281.block ≠ gb279 := Nat.ne_of_lt (Nat.lt_of_lt_of_le (by have := World.block_lt_of_cell? _ _ hx281_0; first | rwa [add_block] at this | exact this) GW279.out); replace hx281_0 := (HB.out.cell (World.block_lt_of_cell? w _ hx281_0)).trans hx281_0; replace hx281_0 := (cell_far (p := ⟨gb279, 0, none⟩) (by first | (rw [add_block]; exact hn281_0) | (show (Addr.add _ _).block ≠ _; rw [add_block]; exact hn281_0) | exact hn281_0) (.int .i64 ((rd_T44 l0 x44_3).f0))).trans hx281_0; replace hx281_0 := (cell_far (p := ⟨gb279, 1, none⟩) (by first | (rw [add_block]; exact hn281_1) | (show (Addr.add _ _).block ≠ _; rw [add_block]; exact hn281_1) | exact hn281_1) (.slice A278_1 ((rd_T44 l0 x44_3).f1).length c278_1)).trans hx281_0; replace hx281_0 := (cell_far (p := ⟨gb279, 2, none⟩) (by first | (rw [add_block]; exact hn281_2) | (show (Addr.add _ _).block ≠ _; rw [add_block]; exact hn281_2) | exact hn281_2) (.slice A278_2 ((rd_T44 l0 x44_3).f2).length c278_2)).trans hx281_0; (try have hy281_0 := fun (n_ : Nat) => (show (((((w28.drewN n_).setCell ⟨gb279, 0, none⟩ (.int .i64 ((rd_T44 l0 x44_3).f0))).setCell ⟨gb279, 1, none⟩ (.slice A278_1 ((rd_T44 l0 x44_3).f1).length c278_1)).setCell ⟨gb279, 2, none⟩ (.slice A278_2 ((rd_T44 l0 x44_3).f2).length c278_2))).cell? _ = some _ from hx281_0)); clear hn281_0; clear hn281_1; clear hn281_2; replace p281 := eq_true p281; replace q281 := eq_true q281))
                 repeat (go_quiet (first | ((with_reducible refine gate_dst (N := 10) rfl ?_); (try (refine gate_guard (by rfl) ?_; dsimp only)); refine box_event ?hg (N := 10) ?hd (cs := #[.int .i64 0, .slice none 0 0, .slice none 0 0]) (t := 44) ?hr ?_; (case hd => rfl); (case hg => rfl); (case hr => first | (go_simp; done) | (go_simp; rfl)); intro gb279 hg w28 hbox hb; have n0_ := Aside0.mk (Kd.R_below (by (with_reducible repeat (first | apply Kd.R_alloc | apply Kd.R_drewN | apply Kd.R_drew)); exact HO_6.out) hb); have n1_ := Aside0.mk (below_step (by repeat (first | (with_reducible first | exact HB.out | apply below_alloc | apply pw_below_drewN | apply below_drew1) | exact HB.out)) hb); have n2_ := Aside0.mk (hbox); have n3_ := Aside0.mk ((by rw [hg]; exact (below_size (by repeat (first | (with_reducible first | exact HB.out | apply below_alloc | apply pw_below_drewN | apply below_drew1) | exact HB.out))) : w.heap.size ≤ gb279)); have n4_ := Aside0.mk ((by rw [hg]; exact (below_size (by repeat (first | (with_reducible first | exact HB.out | apply below_alloc | apply pw_below_drewN | apply below_drew1) | exact HB.out))) : w.heap.size ≤ gb279)); clear HO_6; clear HB; have HO_6 := n0_; have HB := n1_; have BK279 := n2_; have GW279 := n3_; have GE279 := n4_; clear n0_ n1_ n2_ n3_ n4_; clear hb hbox hg; have hcz29_0 : w28.cell? ⟨gb279, 0, none⟩ = some (.int .i64 0) := (blk_cell BK279.out 0).trans rfl; have hcz29_1 : w28.cell? ⟨gb279, 1, none⟩ = some (.slice none 0 0) := (blk_cell BK279.out 1).trans rfl; have hcz29_2 : w28.cell? ⟨gb279, 2, none⟩ = some (.slice none 0 0) := (blk_cell BK279.out 2).trans rfl; have hfz29_0 := blk_frozen BK279.out 0; have hfz29_1 := blk_frozen BK279.out 1; have hfz29_2 := blk_frozen BK279.out 2; obtain ⟨Ao30, co30, eo30⟩ := Kd.R_slice HO_6.out; subst eo30; have p280 : 0 ≤ (x44_3 : Int) := of_decide_eq_true (by first | (with_reducible assumption) | assumption); have q280 : x44_3 < (t274.length : Int) := of_decide_eq_true (by first | (with_reducible assumption) | assumption); obtain ⟨ad280, e280, hx280_0⟩ := Kd.at_bool (Kd.R_reads' HO_6.out).2.2 x44_3 p280 q280; cases e280; have hn280_0 : ad280.block ≠ gb279 := Kd.own_blk (Kd.R_ne HO_6.out BK279.out (by decide)); have hn280_1 : ad280.block ≠ gb279 := Kd.own_blk (Kd.R_ne HO_6.out BK279.out (by decide)); have hn280_2 : ad280.block ≠ gb279 := Kd.own_blk (Kd.R_ne HO_6.out BK279.out (by decide)); replace hx280_0 := (cell_far (p := ⟨gb279, 0, none⟩) (by first | (rw [add_block]; exact hn280_0) | (show (Addr.add _ _).block ≠ _; rw [add_block]; exact hn280_0) | exact hn280_0) (.int .i64 ((rd_T44 l0 x44_3).f0))).trans hx280_0; replace hx280_0 := (cell_far (p := ⟨gb279, 1, none⟩) (by first | (rw [add_block]; exact hn280_1) | (show (Addr.add _ _).block ≠ _; rw [add_block]; exact hn280_1) | exact hn280_1) (.slice A278_1 ((rd_T44 l0 x44_3).f1).length c278_1)).trans hx280_0; replace hx280_0 := (cell_far (p := ⟨gb279, 2, none⟩) (by first | (rw [add_block]; exact hn280_2) | (show (Addr.add _ _).block ≠ _; rw [add_block]; exact hn280_2) | exact hn280_2) (.slice A278_2 ((rd_T44 l0 x44_3).f2).length c278_2)).trans hx280_0; (try have hy280_0 := fun (n_ : Nat) => (show (((((w28.drewN n_).setCell ⟨gb279, 0, none⟩ (.int .i64 ((rd_T44 l0 x44_3).f0))).setCell ⟨gb279, 1, none⟩ (.slice A278_1 ((rd_T44 l0 x44_3).f1).length c278_1)).setCell ⟨gb279, 2, none⟩ (.slice A278_2 ((rd_T44 l0 x44_3).f2).length c278_2))).cell? _ = some _ from hx280_0)); clear hn280_0; clear hn280_1; clear hn280_2; replace p280 := eq_true p280; replace q280 := eq_true q280; have p281 : 0 ≤ (x8_3 : Int) := of_decide_eq_true (by first | (with_reducible assumption) | assumption); have q281 : x8_3 < (l1.length : Int) := of_decide_eq_true (by first | (with_reducible assumption) | assumption); obtain ⟨ad281, e281, hx281_0⟩ := Kd.at_bool HR1.out x8_3 p281 q281; cases e281; have hn281_0 : ad281.block ≠ gb279 := Nat.ne_of_lt (Nat.lt_of_lt_of_le (by have := World.block_lt_of_cell? _ _ hx281_0; first | rwa [add_block] at this | exact this) GW279.out); have hn281_1 : ad281.block ≠ gb279 := Nat.ne_of_lt (Nat.lt_of_lt_of_le (by have := World.block_lt_of_cell? _ _ hx281_0; first | rwa [add_block] at this | exact this) GW279.out); have hn281_2 : ad281.block ≠ gb279 := Nat.ne_of_lt (Nat.lt_of_lt_of_le (by have := World.block_lt_of_cell? _ _ hx281_0; first | rwa [add_block] at this | exact this) GW279.out); replace hx281_0 := (HB.out.cell (World.block_lt_of_cell? w _ hx281_0)).trans hx281_0; replace hx281_0 := (cell_far (p := ⟨gb279, 0, none⟩) (by first | (rw [add_block]; exact hn281_0) | (show (Addr.add _ _).block ≠ _; rw [add_block]; exact hn281_0) | exact hn281_0) (.int .i64 ((rd_T44 l0 x44_3).f0))).trans hx281_0; replace hx281_0 := (cell_far (p := ⟨gb279, 1, none⟩) (by first | (rw [add_block]; exact hn281_1) | (show (Addr.add _ _).block ≠ _; rw [add_block]; exact hn281_1) | exact hn281_1) (.slice A278_1 ((rd_T44 l0 x44_3).f1).length c278_1)).trans hx281_0; replace hx281_0 := (cell_far (p := ⟨gb279, 2, none⟩) (by first | (rw [add_block]; exact hn281_2) | (show (Addr.add _ _).block ≠ _; rw [add_block]; exact hn281_2) | exact hn281_2) (.slice A278_2 ((rd_T44 l0 x44_3).f2).length c278_2)).trans hx281_0; (try have hy281_0 := fun (n_ : Nat) => (show (((((w28.drewN n_).setCell ⟨gb279, 0, none⟩ (.int .i64 ((rd_T44 l0 x44_3).f0))).setCell ⟨gb279, 1, none⟩ (.slice A278_1 ((rd_T44 l0 x44_3).f1).length c278_1)).setCell ⟨gb279, 2, none⟩ (.slice A278_2 ((rd_T44 l0 x44_3).f2).length c278_2))).cell? _ = some _ from hx281_0)); clear hn281_0; clear hn281_1; clear hn281_2; replace p281 := eq_true p281; replace q281 := eq_true q281)); try go_wp2_with (first | ((with_reducible refine gate_dst (N := 10) rfl ?_); (try (refine gate_guard (by rfl) ?_; dsimp only)); refine box_event ?hg (N := 10) ?hd (cs := #[.int .i64 0, .slice none 0 0, .slice none 0 0]) (t := 44) ?hr ?_; (case hd => rfl); (case hg => rfl); (case hr => first | (go_simp; done) | (go_simp; rfl)); intro gb279 hg w28 hbox hb; have n0_ := Aside0.mk (Kd.R_below (by (with_reducible repeat (first | apply Kd.R_alloc | apply Kd.R_drewN | apply Kd.R_drew)); exact HO_6.out) hb); have n1_ := Aside0.mk (below_step (by repeat (first | (with_reducible first | exact HB.out | apply below_alloc | apply pw_below_drewN | apply below_drew1) | exact HB.out)) hb); have n2_ := Aside0.mk (hbox); have n3_ := Aside0.mk ((by rw [hg]; exact (below_size (by repeat (first | (with_reducible first | exact HB.out | apply below_alloc | apply pw_below_drewN | apply below_drew1) | exact HB.out))) : w.heap.size ≤ gb279)); have n4_ := Aside0.mk ((by rw [hg]; exact (below_size (by repeat (first | (with_reducible first | exact HB.out | apply below_alloc | apply pw_below_drewN | apply below_drew1) | exact HB.out))) : w.heap.size ≤ gb279)); clear HO_6; clear HB; have HO_6 := n0_; have HB := n1_; have BK279 := n2_; have GW279 := n3_; have GE279 := n4_; clear n0_ n1_ n2_ n3_ n4_; clear hb hbox hg; have hcz29_0 : w28.cell? ⟨gb279, 0, none⟩ = some (.int .i64 0) := (blk_cell BK279.out 0).trans rfl; have hcz29_1 : w28.cell? ⟨gb279, 1, none⟩ = some (.slice none 0 0) := (blk_cell BK279.out 1).trans rfl; have hcz29_2 : w28.cell? ⟨gb279, 2, none⟩ = some (.slice none 0 0) := (blk_cell BK279.out 2).trans rfl; have hfz29_0 := blk_frozen BK279.out 0; have hfz29_1 := blk_frozen BK279.out 1; have hfz29_2 := blk_frozen BK279.out 2; obtain ⟨Ao30, co30, eo30⟩ := Kd.R_slice HO_6.out; subst eo30; have p280 : 0 ≤ (x44_3 : Int) := of_decide_eq_true (by first | (with_reducible assumption) | assumption); have q280 : x44_3 < (t274.length : Int) := of_decide_eq_true (by first | (with_reducible assumption) | assumption); obtain ⟨ad280, e280, hx280_0⟩ := Kd.at_bool (Kd.R_reads' HO_6.out).2.2 x44_3 p280 q280; cases e280; have hn280_0 : ad280.block ≠ gb279 := Kd.own_blk (Kd.R_ne HO_6.out BK279.out (by decide)); have hn280_1 : ad280.block ≠ gb279 := Kd.own_blk (Kd.R_ne HO_6.out BK279.out (by decide)); have hn280_2 : ad280.block ≠ gb279 := Kd.own_blk (Kd.R_ne HO_6.out BK279.out (by decide)); replace hx280_0 := (cell_far (p := ⟨gb279, 0, none⟩) (by first | (rw [add_block]; exact hn280_0) | (show (Addr.add _ _).block ≠ _; rw [add_block]; exact hn280_0) | exact hn280_0) (.int .i64 ((rd_T44 l0 x44_3).f0))).trans hx280_0; replace hx280_0 := (cell_far (p := ⟨gb279, 1, none⟩) (by first | (rw [add_block]; exact hn280_1) | (show (Addr.add _ _).block ≠ _; rw [add_block]; exact hn280_1) | exact hn280_1) (.slice A278_1 ((rd_T44 l0 x44_3).f1).length c278_1)).trans hx280_0; replace hx280_0 := (cell_far (p := ⟨gb279, 2, none⟩) (by first | (rw [add_block]; exact hn280_2) | (show (Addr.add _ _).block ≠ _; rw [add_block]; exact hn280_2) | exact hn280_2) (.slice A278_2 ((rd_T44 l0 x44_3).f2).length c278_2)).trans hx280_0; (try have hy280_0 := fun (n_ : Nat) => (show (((((w28.drewN n_).setCell ⟨gb279, 0, none⟩ (.int .i64 ((rd_T44 l0 x44_3).f0))).setCell ⟨gb279, 1, none⟩ (.slice A278_1 ((rd_T44 l0 x44_3).f1).length c278_1)).setCell ⟨gb279, 2, none⟩ (.slice A278_2 ((rd_T44 l0 x44_3).f2).length c278_2))).cell? _ = some _ from hx280_0)); clear hn280_0; clear hn280_1; clear hn280_2; replace p280 := eq_true p280; replace q280 := eq_true q280; have p281 : 0 ≤ (x8_3 : Int) := of_decide_eq_true (by first | (with_reducible assumption) | assumption); have q281 : x8_3 < (l1.length : Int) := of_decide_eq_true (by first | (with_reducible assumption) | assumption); obtain ⟨ad281, e281, hx281_0⟩ := Kd.at_bool HR1.out x8_3 p281 q281; cases e281; have hn281_0 : ad281.block ≠ gb279 := Nat.ne_of_lt (Nat.lt_of_lt_of_le (by have := World.block_lt_of_cell? _ _ hx281_0; first | rwa [add_block] at this | exact this) GW279.out); have hn281_1 : ad281.block ≠ gb279 := Nat.ne_of_lt (Nat.lt_of_lt_of_le (by have := World.block_lt_of_cell? _ _ hx281_0; first | rwa [add_block] at this | exact this) GW279.out); have hn281_2 : ad281.block ≠ gb279 := Nat.ne_of_lt (Nat.lt_of_lt_of_le (by have := World.block_lt_of_cell? _ _ hx281_0; first | rwa [add_block] at this | exact this) GW279.out); replace hx281_0 := (HB.out.cell (World.block_lt_of_cell? w _ hx281_0)).trans hx281_0; replace hx281_0 := (cell_far (p := ⟨gb279, 0, none⟩) (by first | (rw [add_block]; exact hn281_0) | (show (Addr.add _ _).block ≠ _; rw [add_block]; exact hn281_0) | exact hn281_0) (.int .i64 ((rd_T44 l0 x44_3).f0))).trans hx281_0; replace hx281_0 := (cell_far (p := ⟨gb279, 1, none⟩) (by first | (rw [add_block]; exact hn281_1) | (show (Addr.add _ _).block ≠ _; rw [add_block]; exact hn281_1) | exact hn281_1) (.slice A278_1 ((rd_T44 l0 x44_3).f1).length c278_1)).trans hx281_0; replace hx281_0 := (cell_far (p := ⟨gb279, 2, none⟩) (by first | (rw [add_block]; exact hn281_2) | (show (Addr.add _ _).block ≠ _; rw [add_block]; exact hn281_2) | exact hn281_2) (.slice A278_2 ((rd_T44 l0 x44_3).f2).length c278_2)).trans hx281_0; (try have hy281_0 := fun (n_ : Nat) => (show (((((w28.drewN n_).setCell ⟨gb279, 0, none⟩ (.int .i64 ((rd_T44 l0 x44_3).f0))).setCell ⟨gb279, 1, none⟩ (.slice A278_1 ((rd_T44 l0 x44_3).f1).length c278_1)).setCell ⟨gb279, 2, none⟩ (.slice A278_2 ((rd_T44 l0 x44_3).f2).length c278_2))).cell? _ = some _ from hx281_0)); clear hn281_0; clear hn281_1; clear hn281_2; replace p281 := eq_true p281; replace q281 := eq_true q281)))
                 go_ret
                 exact ⟨by first | rfl | (simp [errW_none, errW_some] <;> rfl) | (simp [*, errW_none, errW_some] <;> rfl), by repeat (first | (with_reducible first | exact HB.out | apply below_alloc | apply pw_below_drewN | apply below_drew1 | refine below_set ?_ GE279.out) | exact HB.out)⟩
                ·rw [if_neg c27] at H
                 have c27b0 : ((rdOf false t274 x44_3) != (rdOf false l1 x8_3)) = false := by simpa using c27
                 (try (have c27b1 : decide ((rdOf false t274 x44_3) = (rdOf false l1 x8_3)) = true := by simpa using c27))
                 (try (have c27b2 : ((rdOf false t274 x44_3) == (rdOf false l1 x8_3)) = true := by simpa using c27))
                 clear c27
                 have H' := Aside0.mk H
                 clear H
                 have p278 : 0 ≤ (x44_3 : Int) := of_decide_eq_true (by first | (with_reducible assumption) | assumption)
                 have q278 : x44_3 < (l0.length : Int) := of_decide_eq_true (by first | (with_reducible assumption) | assumption)
                 obtain ⟨ad278, A278_1, c278_1, A278_2, c278_2, e278, hx278_0, hx278_1, hx278_2, hl278_1, hi278_1, hl278_2, hi278_2⟩ := at_T44 HR0.out x44_3 p278 q278
                 cases e278
                 replace hx278_0 := (HB.out.cell (World.block_lt_of_cell? w _ hx278_0)).trans hx278_0
                 replace hx278_1 := (HB.out.cell (World.block_lt_of_cell? w _ hx278_1)).trans hx278_1
                 replace hx278_2 := (HB.out.cell (World.block_lt_of_cell? w _ hx278_2)).trans hx278_2
                 have HR278_1 := Aside0.mk hi278_1
                 have HC278_1 := Aside0.mk hl278_1
                 clear hi278_1 hl278_1
                 have HR278_2 := Aside0.mk hi278_2
                 have HC278_2 := Aside0.mk hl278_2
                 clear hi278_2 hl278_2
                 replace p278 := eq_true p278
                 replace q278 := eq_true q278
                 go_wp2_with (first | ((with_reducible refine gate_dst (N := 10) rfl ?_); (try (refine gate_guard (by rfl) ?_; dsimp only)); refine box_event ?hg (N := 10) ?hd (cs := #[.int .i64 0, .slice none 0 0, .slice none 0 0]) (t := 44) ?hr ?_; (case hd => rfl); (case hg => rfl); (case hr => first | (go_simp; done) | (go_simp; rfl)); intro gb279 hg w31 hbox hb; have n0_ := Aside0.mk (Kd.R_below (by (with_reducible repeat (first | apply Kd.R_alloc | apply Kd.R_drewN | apply Kd.R_drew)); exact HO_6.out) hb); have n1_ := Aside0.mk (below_step (by repeat (first | (with_reducible first | exact HB.out | apply below_alloc | apply pw_below_drewN | apply below_drew1) | exact HB.out)) hb); have n2_ := Aside0.mk (hbox); have n3_ := Aside0.mk ((by rw [hg]; exact (below_size (by repeat (first | (with_reducible first | exact HB.out | apply below_alloc | apply pw_below_drewN | apply below_drew1) | exact HB.out))) : w.heap.size ≤ gb279)); have n4_ := Aside0.mk ((by rw [hg]; exact (below_size (by repeat (first | (with_reducible first | exact HB.out | apply below_alloc | apply pw_below_drewN | apply below_drew1) | exact HB.out))) : w.heap.size ≤ gb279)); clear HO_6; clear HB; have HO_6 := n0_; have HB := n1_; have BK279 := n2_; have GW279 := n3_; have GE279 := n4_; clear n0_ n1_ n2_ n3_ n4_; clear hb hbox hg; have hcz32_0 : w31.cell? ⟨gb279, 0, none⟩ = some (.int .i64 0) := (blk_cell BK279.out 0).trans rfl; have hcz32_1 : w31.cell? ⟨gb279, 1, none⟩ = some (.slice none 0 0) := (blk_cell BK279.out 1).trans rfl; have hcz32_2 : w31.cell? ⟨gb279, 2, none⟩ = some (.slice none 0 0) := (blk_cell BK279.out 2).trans rfl; have hfz32_0 := blk_frozen BK279.out 0; have hfz32_1 := blk_frozen BK279.out 1; have hfz32_2 := blk_frozen BK279.out 2; obtain ⟨Ao33, co33, eo33⟩ := Kd.R_slice HO_6.out; subst eo33; have p280 : 0 ≤ (x44_3 : Int) := of_decide_eq_true (by first | (with_reducible assumption) | assumption); have q280 : x44_3 < (t274.length : Int) := of_decide_eq_true (by first | (with_reducible assumption) | assumption); obtain ⟨ad280, e280, hx280_0⟩ := Kd.at_bool (Kd.R_reads' HO_6.out).2.2 x44_3 p280 q280; cases e280; have hn280_0 : ad280.block ≠ gb279 := Kd.own_blk (Kd.R_ne HO_6.out BK279.out (by decide)); have hn280_1 : ad280.block ≠ gb279 := Kd.own_blk (Kd.R_ne HO_6.out BK279.out (by decide)); have hn280_2 : ad280.block ≠ gb279 := Kd.own_blk (Kd.R_ne HO_6.out BK279.out (by decide)); replace hx280_0 := (cell_far (p := ⟨gb279, 0, none⟩) (by first | (rw [add_block]; exact hn280_0) | (show (Addr.add _ _).block ≠ _; rw [add_block]; exact hn280_0) | exact hn280_0) (.int .i64 ((rd_T44 l0 x44_3).f0))).trans hx280_0; replace hx280_0 := (cell_far (p := ⟨gb279, 1, none⟩) (by first | (rw [add_block]; exact hn280_1) | (show (Addr.add _ _).block ≠ _; rw [add_block]; exact hn280_1) | exact hn280_1) (.slice A278_1 ((rd_T44 l0 x44_3).f1).length c278_1)).trans hx280_0; replace hx280_0 := (cell_far (p := ⟨gb279, 2, none⟩) (by first | (rw [add_block]; exact hn280_2) | (show (Addr.add _ _).block ≠ _; rw [add_block]; exact hn280_2) | exact hn280_2) (.slice A278_2 ((rd_T44 l0 x44_3).f2).length c278_2)).trans hx280_0; (try have hy280_0 := fun (n_ : Nat) => (show (((((w31.drewN n_).setCell ⟨gb279, 0, none⟩ (.int .i64 ((rd_T44 l0 x44_3).f0))).setCell ⟨gb279, 1, none⟩ (.slice A278_1 ((rd_T44 l0 x44_3).f1).length c278_1)).setCell ⟨gb279, 2, none⟩ (.slice A278_2 ((rd_T44 l0 x44_3).f2).length c278_2))).cell? _ = some _ from hx280_0)); clear hn280_0; clear hn280_1; clear hn280_2; replace p280 := eq_true p280; replace q280 := eq_true q280; have p281 : 0 ≤ (x8_3 : Int) := of_decide_eq_true (by first | (with_reducible assumption) | assumption); have q281 : x8_3 < (l1.length : Int) := of_decide_eq_true (by first | (with_reducible assumption) | assumption); obtain ⟨ad281, e281, hx281_0⟩ := Kd.at_bool HR1.out x8_3 p281 q281; cases e281; have hn281_0 : ad281.block ≠ gb279 := Nat.ne_of_lt (Nat.lt_of_lt_of_le (by have := World.block_lt_of_cell? _ _ hx281_0; first | rwa [add_block] at this | exact this) GW279.out); have hn281_1 : ad281.block ≠ gb279 := Nat.ne_of_lt (Nat.lt_of_lt_of_le (by have := World.block_lt_of_cell? _ _ hx281_0; first | rwa [add_block] at this | exact this) GW279.out); have hn281_2 : ad281.block ≠ gb279 := Nat.ne_of_lt (Nat.lt_of_lt_of_le (by have := World.block_lt_of_cell? _ _ hx281_0; first | rwa [add_block] at this | exact this) GW279.out); replace hx281_0 := (HB.out.cell (World.block_lt_of_cell? w _ hx281_0)).trans hx281_0; replace hx281_0 := (cell_far (p := ⟨gb279, 0, none⟩) (by first | (rw [add_block]; exact hn281_0) | (show (Addr.add _ _).block ≠ _; rw [add_block]; exact hn281_0) | exact hn281_0) (.int .i64 ((rd_T44 l0 x44_3).f0))).trans hx281_0; replace hx281_0 := (cell_far (p := ⟨gb279, 1, none⟩) (by first | (rw [add_block]; exact hn281_1) | (show (Addr.add _ _).block ≠ _; rw [add_block]; exact hn281_1) | exact hn281_1) (.slice A278_1 ((rd_T44 l0 x44_3).f1).length c278_1)).trans hx281_0; replace hx281_0 := (cell_far (p := ⟨gb279, 2, none⟩) (by first | (rw [add_block]; exact hn281_2) | (show (Addr.add _ _).block ≠ _; rw [add_block]; exact hn281_2) | exact hn281_2) (.slice A278_2 ((rd_T44 l0 x44_3).f2).length c278_2)).trans hx281_0; (try have hy281_0 := fun (n_ : Nat) => (show (((((w31.drewN n_).setCell ⟨gb279, 0, none⟩ (.int .i64 ((rd_T44 l0 x44_3).f0))).setCell ⟨gb279, 1, none⟩ (.slice A278_1 ((rd_T44 l0 x44_3).f1).length c278_1)).setCell ⟨gb279, 2, none⟩ (.slice A278_2 ((rd_T44 l0 x44_3).f2).length c278_2))).cell? _ = some _ from hx281_0)); clear hn281_0; clear hn281_1; clear hn281_2; replace p281 := eq_true p281; replace q281 := eq_true q281))
                 repeat (go_quiet (first | ((with_reducible refine gate_dst (N := 10) rfl ?_); (try (refine gate_guard (by rfl) ?_; dsimp only)); refine box_event ?hg (N := 10) ?hd (cs := #[.int .i64 0, .slice none 0 0, .slice none 0 0]) (t := 44) ?hr ?_; (case hd => rfl); (case hg => rfl); (case hr => first | (go_simp; done) | (go_simp; rfl)); intro gb279 hg w31 hbox hb; have n0_ := Aside0.mk (Kd.R_below (by (with_reducible repeat (first | apply Kd.R_alloc | apply Kd.R_drewN | apply Kd.R_drew)); exact HO_6.out) hb); have n1_ := Aside0.mk (below_step (by repeat (first | (with_reducible first | exact HB.out | apply below_alloc | apply pw_below_drewN | apply below_drew1) | exact HB.out)) hb); have n2_ := Aside0.mk (hbox); have n3_ := Aside0.mk ((by rw [hg]; exact (below_size (by repeat (first | (with_reducible first | exact HB.out | apply below_alloc | apply pw_below_drewN | apply below_drew1) | exact HB.out))) : w.heap.size ≤ gb279)); have n4_ := Aside0.mk ((by rw [hg]; exact (below_size (by repeat (first | (with_reducible first | exact HB.out | apply below_alloc | apply pw_below_drewN | apply below_drew1) | exact HB.out))) : w.heap.size ≤ gb279)); clear HO_6; clear HB; have HO_6 := n0_; have HB := n1_; have BK279 := n2_; have GW279 := n3_; have GE279 := n4_; clear n0_ n1_ n2_ n3_ n4_; clear hb hbox hg; have hcz32_0 : w31.cell? ⟨gb279, 0, none⟩ = some (.int .i64 0) := (blk_cell BK279.out 0).trans rfl; have hcz32_1 : w31.cell? ⟨gb279, 1, none⟩ = some (.slice none 0 0) := (blk_cell BK279.out 1).trans rfl; have hcz32_2 : w31.cell? ⟨gb279, 2, none⟩ = some (.slice none 0 0) := (blk_cell BK279.out 2).trans rfl; have hfz32_0 := blk_frozen BK279.out 0; have hfz32_1 := blk_frozen BK279.out 1; have hfz32_2 := blk_frozen BK279.out 2; obtain ⟨Ao33, co33, eo33⟩ := Kd.R_slice HO_6.out; subst eo33; have p280 : 0 ≤ (x44_3 : Int) := of_decide_eq_true (by first | (with_reducible assumption) | assumption); have q280 : x44_3 < (t274.length : Int) := of_decide_eq_true (by first | (with_reducible assumption) | assumption); obtain ⟨ad280, e280, hx280_0⟩ := Kd.at_bool (Kd.R_reads' HO_6.out).2.2 x44_3 p280 q280; cases e280; have hn280_0 : ad280.block ≠ gb279 := Kd.own_blk (Kd.R_ne HO_6.out BK279.out (by decide)); have hn280_1 : ad280.block ≠ gb279 := Kd.own_blk (Kd.R_ne HO_6.out BK279.out (by decide)); have hn280_2 : ad280.block ≠ gb279 := Kd.own_blk (Kd.R_ne HO_6.out BK279.out (by decide)); replace hx280_0 := (cell_far (p := ⟨gb279, 0, none⟩) (by first | (rw [add_block]; exact hn280_0) | (show (Addr.add _ _).block ≠ _; rw [add_block]; exact hn280_0) | exact hn280_0) (.int .i64 ((rd_T44 l0 x44_3).f0))).trans hx280_0; replace hx280_0 := (cell_far (p := ⟨gb279, 1, none⟩) (by first | (rw [add_block]; exact hn280_1) | (show (Addr.add _ _).block ≠ _; rw [add_block]; exact hn280_1) | exact hn280_1) (.slice A278_1 ((rd_T44 l0 x44_3).f1).length c278_1)).trans hx280_0; replace hx280_0 := (cell_far (p := ⟨gb279, 2, none⟩) (by first | (rw [add_block]; exact hn280_2) | (show (Addr.add _ _).block ≠ _; rw [add_block]; exact hn280_2) | exact hn280_2) (.slice A278_2 ((rd_T44 l0 x44_3).f2).length c278_2)).trans hx280_0; (try have hy280_0 := fun (n_ : Nat) => (show (((((w31.drewN n_).setCell ⟨gb279, 0, none⟩ (.int .i64 ((rd_T44 l0 x44_3).f0))).setCell ⟨gb279, 1, none⟩ (.slice A278_1 ((rd_T44 l0 x44_3).f1).length c278_1)).setCell ⟨gb279, 2, none⟩ (.slice A278_2 ((rd_T44 l0 x44_3).f2).length c278_2))).cell? _ = some _ from hx280_0)); clear hn280_0; clear hn280_1; clear hn280_2; replace p280 := eq_true p280; replace q280 := eq_true q280; have p281 : 0 ≤ (x8_3 : Int) := of_decide_eq_true (by first | (with_reducible assumption) | assumption); have q281 : x8_3 < (l1.length : Int) := of_decide_eq_true (by first | (with_reducible assumption) | assumption); obtain ⟨ad281, e281, hx281_0⟩ := Kd.at_bool HR1.out x8_3 p281 q281; cases e281; have hn281_0 : ad281.block ≠ gb279 := Nat.ne_of_lt (Nat.lt_of_lt_of_le (by have := World.block_lt_of_cell? _ _ hx281_0; first | rwa [add_block] at this | exact this) GW279.out); have hn281_1 : ad281.block ≠ gb279 := Nat.ne_of_lt (Nat.lt_of_lt_of_le (by have := World.block_lt_of_cell? _ _ hx281_0; first | rwa [add_block] at this | exact this) GW279.out); have hn281_2 : ad281.block ≠ gb279 := Nat.ne_of_lt (Nat.lt_of_lt_of_le (by have := World.block_lt_of_cell? _ _ hx281_0; first | rwa [add_block] at this | exact this) GW279.out); replace hx281_0 := (HB.out.cell (World.block_lt_of_cell? w _ hx281_0)).trans hx281_0; replace hx281_0 := (cell_far (p := ⟨gb279, 0, none⟩) (by first | (rw [add_block]; exact hn281_0) | (show (Addr.add _ _).block ≠ _; rw [add_block]; exact hn281_0) | exact hn281_0) (.int .i64 ((rd_T44 l0 x44_3).f0))).trans hx281_0; replace hx281_0 := (cell_far (p := ⟨gb279, 1, none⟩) (by first | (rw [add_block]; exact hn281_1) | (show (Addr.add _ _).block ≠ _; rw [add_block]; exact hn281_1) | exact hn281_1) (.slice A278_1 ((rd_T44 l0 x44_3).f1).length c278_1)).trans hx281_0; replace hx281_0 := (cell_far (p := ⟨gb279, 2, none⟩) (by first | (rw [add_block]; exact hn281_2) | (show (Addr.add _ _).block ≠ _; rw [add_block]; exact hn281_2) | exact hn281_2) (.slice A278_2 ((rd_T44 l0 x44_3).f2).length c278_2)).trans hx281_0; (try have hy281_0 := fun (n_ : Nat) => (show (((((w31.drewN n_).setCell ⟨gb279, 0, none⟩ (.int .i64 ((rd_T44 l0 x44_3).f0))).setCell ⟨gb279, 1, none⟩ (.slice A278_1 ((rd_T44 l0 x44_3).f1).length c278_1)).setCell ⟨gb279, 2, none⟩ (.slice A278_2 ((rd_T44 l0 x44_3).f2).length c278_2))).cell? _ = some _ from hx281_0)); clear hn281_0; clear hn281_1; clear hn281_2; replace p281 := eq_true p281; replace q281 := eq_true q281)); try go_wp2_with (first | ((with_reducible refine gate_dst (N := 10) rfl ?_); (try (refine gate_guard (by rfl) ?_; dsimp only)); refine box_event ?hg (N := 10) ?hd (cs := #[.int .i64 0, .slice none 0 0, .slice none 0 0]) (t := 44) ?hr ?_; (case hd => rfl); (case hg => rfl); (case hr => first | (go_simp; done) | (go_simp; rfl)); intro gb279 hg w31 hbox hb; have n0_ := Aside0.mk (Kd.R_below (by (with_reducible repeat (first | apply Kd.R_alloc | apply Kd.R_drewN | apply Kd.R_drew)); exact HO_6.out) hb); have n1_ := Aside0.mk (below_step (by repeat (first | (with_reducible first | exact HB.out | apply below_alloc | apply pw_below_drewN | apply below_drew1) | exact HB.out)) hb); have n2_ := Aside0.mk (hbox); have n3_ := Aside0.mk ((by rw [hg]; exact (below_size (by repeat (first | (with_reducible first | exact HB.out | apply below_alloc | apply pw_below_drewN | apply below_drew1) | exact HB.out))) : w.heap.size ≤ gb279)); have n4_ := Aside0.mk ((by rw [hg]; exact (below_size (by repeat (first | (with_reducible first | exact HB.out | apply below_alloc | apply pw_below_drewN | apply below_drew1) | exact HB.out))) : w.heap.size ≤ gb279)); clear HO_6; clear HB; have HO_6 := n0_; have HB := n1_; have BK279 := n2_; have GW279 := n3_; have GE279 := n4_; clear n0_ n1_ n2_ n3_ n4_; clear hb hbox hg; have hcz32_0 : w31.cell? ⟨gb279, 0, none⟩ = some (.int .i64 0) := (blk_cell BK279.out 0).trans rfl; have hcz32_1 : w31.cell? ⟨gb279, 1, none⟩ = some (.slice none 0 0) := (blk_cell BK279.out 1).trans rfl; have hcz32_2 : w31.cell? ⟨gb279, 2, none⟩ = some (.slice none 0 0) := (blk_cell BK279.out 2).trans rfl; have hfz32_0 := blk_frozen BK279.out 0; have hfz32_1 := blk_frozen BK279.out 1; have hfz32_2 := blk_frozen BK279.out 2; obtain ⟨Ao33, co33, eo33⟩ := Kd.R_slice HO_6.out; subst eo33; have p280 : 0 ≤ (x44_3 : Int) := of_decide_eq_true (by first | (with_reducible assumption) | assumption); have q280 : x44_3 < (t274.length : Int) := of_decide_eq_true (by first | (with_reducible assumption) | assumption); obtain ⟨ad280, e280, hx280_0⟩ := Kd.at_bool (Kd.R_reads' HO_6.out).2.2 x44_3 p280 q280; cases e280; have hn280_0 : ad280.block ≠ gb279 := Kd.own_blk (Kd.R_ne HO_6.out BK279.out (by decide)); have hn280_1 : ad280.block ≠ gb279 := Kd.own_blk (Kd.R_ne HO_6.out BK279.out (by decide)); have hn280_2 : ad280.block ≠ gb279 := Kd.own_blk (Kd.R_ne HO_6.out BK279.out (by decide)); replace hx280_0 := (cell_far (p := ⟨gb279, 0, none⟩) (by first | (rw [add_block]; exact hn280_0) | (show (Addr.add _ _).block ≠ _; rw [add_block]; exact hn280_0) | exact hn280_0) (.int .i64 ((rd_T44 l0 x44_3).f0))).trans hx280_0; replace hx280_0 := (cell_far (p := ⟨gb279, 1, none⟩) (by first | (rw [add_block]; exact hn280_1) | (show (Addr.add _ _).block ≠ _; rw [add_block]; exact hn280_1) | exact hn280_1) (.slice A278_1 ((rd_T44 l0 x44_3).f1).length c278_1)).trans hx280_0; replace hx280_0 := (cell_far (p := ⟨gb279, 2, none⟩) (by first | (rw [add_block]; exact hn280_2) | (show (Addr.add _ _).block ≠ _; rw [add_block]; exact hn280_2) | exact hn280_2) (.slice A278_2 ((rd_T44 l0 x44_3).f2).length c278_2)).trans hx280_0; (try have hy280_0 := fun (n_ : Nat) => (show (((((w31.drewN n_).setCell ⟨gb279, 0, none⟩ (.int .i64 ((rd_T44 l0 x44_3).f0))).setCell ⟨gb279, 1, none⟩ (.slice A278_1 ((rd_T44 l0 x44_3).f1).length c278_1)).setCell ⟨gb279, 2, none⟩ (.slice A278_2 ((rd_T44 l0 x44_3).f2).length c278_2))).cell? _ = some _ from hx280_0)); clear hn280_0; clear hn280_1; clear hn280_2; replace p280 := eq_true p280; replace q280 := eq_true q280; have p281 : 0 ≤ (x8_3 : Int) := of_decide_eq_true (by first | (with_reducible assumption) | assumption); have q281 : x8_3 < (l1.length : Int) := of_decide_eq_true (by first | (with_reducible assumption) | assumption); obtain ⟨ad281, e281, hx281_0⟩ := Kd.at_bool HR1.out x8_3 p281 q281; cases e281; have hn281_0 : ad281.block ≠ gb279 := Nat.ne_of_lt (Nat.lt_of_lt_of_le (by have := World.block_lt_of_cell? _ _ hx281_0; first | rwa [add_block] at this | exact this) GW279.out); have hn281_1 : ad281.block ≠ gb279 := Nat.ne_of_lt (Nat.lt_of_lt_of_le (by have := World.block_lt_of_cell? _ _ hx281_0; first | rwa [add_block] at this | exact this) GW279.out); have hn281_2 : ad281.block ≠ gb279 := Nat.ne_of_lt (Nat.lt_of_lt_of_le (by have := World.block_lt_of_cell? _ _ hx281_0; first | rwa [add_block] at this | exact this) GW279.out); replace hx281_0 := (HB.out.cell (World.block_lt_of_cell? w _ hx281_0)).trans hx281_0; replace hx281_0 := (cell_far (p := ⟨gb279, 0, none⟩) (by first | (rw [add_block]; exact hn281_0) | (show (Addr.add _ _).block ≠ _; rw [add_block]; exact hn281_0) | exact hn281_0) (.int .i64 ((rd_T44 l0 x44_3).f0))).trans hx281_0; replace hx281_0 := (cell_far (p := ⟨gb279, 1, none⟩) (by first | (rw [add_block]; exact hn281_1) | (show (Addr.add _ _).block ≠ _; rw [add_block]; exact hn281_1) | exact hn281_1) (.slice A278_1 ((rd_T44 l0 x44_3).f1).length c278_1)).trans hx281_0; replace hx281_0 := (cell_far (p := ⟨gb279, 2, none⟩) (by first | (rw [add_block]; exact hn281_2) | (show (Addr.add _ _).block ≠ _; rw [add_block]; exact hn281_2) | exact hn281_2) (.slice A278_2 ((rd_T44 l0 x44_3).f2).length c278_2)).trans hx281_0; (try have hy281_0 := fun (n_ : Nat) => (show (((((w31.drewN n_).setCell ⟨gb279, 0, none⟩ (.int .i64 ((rd_T44 l0 x44_3).f0))).setCell ⟨gb279, 1, none⟩ (.slice A278_1 ((rd_T44 l0 x44_3).f1).length c278_1)).setCell ⟨gb279, 2, none⟩ (.slice A278_2 ((rd_T44 l0 x44_3).f2).length c278_2))).cell? _ = some _ from hx281_0)); clear hn281_0; clear hn281_1; clear hn281_2; replace p281 := eq_true p281; replace q281 := eq_true q281)))
                 go_roundg k3
                 case measure => have := HJ3.out; have := HJ14.out; have := HK3.out; omega
                 case rel => exact ⟨(wrap64 (x8_3 + 1)), (wrap64 (x44_3 + 1)), (by first | rfl | (simp; done) | (simp [*]; done)), (by first | rfl | (simp; done) | (simp [*]; done)), H', ⟨by have := HJ3.out; have := HJ14.out; have := HK3.out; omega⟩, ⟨by (with_reducible repeat (first | apply Kd.R_alloc | apply Kd.R_drewN | apply Kd.R_drew)); exact Kd.R_mono (Kd.R_far (p := ⟨gb279, 2, none⟩) (Kd.R_far (p := ⟨gb279, 1, none⟩) (Kd.R_far (p := ⟨gb279, 0, none⟩) (Kd.R_types HO_6.out BK279.out (by decide)) (fun _ hk => hk.2) (.int .i64 ((rd_T44 l0 x44_3).f0))) (fun _ hk => hk.2) (.slice A278_1 ((rd_T44 l0 x44_3).f1).length c278_1)) (fun _ hk => hk.2) (.slice A278_2 ((rd_T44 l0 x44_3).f2).length c278_2)) (fun _ hk => trivial)⟩, ⟨by repeat (first | (with_reducible first | exact HB.out | apply below_alloc | apply pw_below_drewN | apply below_drew1 | refine below_set ?_ GE279.out) | exact HB.out)⟩⟩
               ·rw [if_neg c26] at H
                exact absurd H (by simp)
              ·rw [if_neg c25] at H
               exact absurd H (by simp)
             ·rw [if_neg c24] at H
              exact absurd H (by simp)
            ·rw [if_neg c23] at H
             have c23b0 : ((((rd_T44 l0 x44_3).f1).length : Int) == 0) = false := beq_eq_false_iff_ne.mpr c23
             have c23b1 : ((((rd_T44 l0 x44_3).f1).length : Int) != 0) = true := bne_iff_ne.mpr c23
             have c23b2 : ¬ (((rd_T44 l0 x44_3).f1) = []) := fun h_ => c23 (by rw [h_]; rfl)
             have H' := Aside0.mk H
             clear H
             have p278 : 0 ≤ (x44_3 : Int) := of_decide_eq_true (by first | (with_reducible assumption) | assumption)
             have q278 : x44_3 < (l0.length : Int) := of_decide_eq_true (by first | (with_reducible assumption) | assumption)
             obtain ⟨ad278, A278_1, c278_1, A278_2, c278_2, e278, hx278_0, hx278_1, hx278_2, hl278_1, hi278_1, hl278_2, hi278_2⟩ := at_T44 HR0.out x44_3 p278 q278
             cases e278
             replace hx278_0 := (HB.out.cell (World.block_lt_of_cell? w _ hx278_0)).trans hx278_0
             replace hx278_1 := (HB.out.cell (World.block_lt_of_cell? w _ hx278_1)).trans hx278_1
             replace hx278_2 := (HB.out.cell (World.block_lt_of_cell? w _ hx278_2)).trans hx278_2
             have HR278_1 := Aside0.mk hi278_1
             have HC278_1 := Aside0.mk hl278_1
             clear hi278_1 hl278_1
             have HR278_2 := Aside0.mk hi278_2
             have HC278_2 := Aside0.mk hl278_2
             clear hi278_2 hl278_2
             replace p278 := eq_true p278
             replace q278 := eq_true q278
             go_wp2_with (first | ((with_reducible refine gate_dst (N := 10) rfl ?_); (try (refine gate_guard (by rfl) ?_; dsimp only)); refine box_event ?hg (N := 10) ?hd (cs := #[.int .i64 0, .slice none 0 0, .slice none 0 0]) (t := 44) ?hr ?_; (case hd => rfl); (case hg => rfl); (case hr => first | (go_simp; done) | (go_simp; rfl)); intro gb279 hg w34 hbox hb; have n0_ := Aside0.mk (Kd.R_below (by (with_reducible repeat (first | apply Kd.R_alloc | apply Kd.R_drewN | apply Kd.R_drew)); exact HO_6.out) hb); have n1_ := Aside0.mk (below_step (by repeat (first | (with_reducible first | exact HB.out | apply below_alloc | apply pw_below_drewN | apply below_drew1) | exact HB.out)) hb); have n2_ := Aside0.mk (hbox); have n3_ := Aside0.mk ((by rw [hg]; exact (below_size (by repeat (first | (with_reducible first | exact HB.out | apply below_alloc | apply pw_below_drewN | apply below_drew1) | exact HB.out))) : w.heap.size ≤ gb279)); have n4_ := Aside0.mk ((by rw [hg]; exact (below_size (by repeat (first | (with_reducible first | exact HB.out | apply below_alloc | apply pw_below_drewN | apply below_drew1) | exact HB.out))) : w.heap.size ≤ gb279)); clear HO_6; clear HB; have HO_6 := n0_; have HB := n1_; have BK279 := n2_; have GW279 := n3_; have GE279 := n4_; clear n0_ n1_ n2_ n3_ n4_; clear hb hbox hg; have hcz35_0 : w34.cell? ⟨gb279, 0, none⟩ = some (.int .i64 0) := (blk_cell BK279.out 0).trans rfl; have hcz35_1 : w34.cell? ⟨gb279, 1, none⟩ = some (.slice none 0 0) := (blk_cell BK279.out 1).trans rfl; have hcz35_2 : w34.cell? ⟨gb279, 2, none⟩ = some (.slice none 0 0) := (blk_cell BK279.out 2).trans rfl; have hfz35_0 := blk_frozen BK279.out 0; have hfz35_1 := blk_frozen BK279.out 1; have hfz35_2 := blk_frozen BK279.out 2))
             repeat (go_quiet (first | ((with_reducible refine gate_dst (N := 10) rfl ?_); (try (refine gate_guard (by rfl) ?_; dsimp only)); refine box_event ?hg (N := 10) ?hd (cs := #[.int .i64 0, .slice none 0 0, .slice none 0 0]) (t := 44) ?hr ?_; (case hd => rfl); (case hg => rfl); (case hr => first | (go_simp; done) | (go_simp; rfl)); intro gb279 hg w34 hbox hb; have n0_ := Aside0.mk (Kd.R_below (by (with_reducible repeat (first | apply Kd.R_alloc | apply Kd.R_drewN | apply Kd.R_drew)); exact HO_6.out) hb); have n1_ := Aside0.mk (below_step (by repeat (first | (with_reducible first | exact HB.out | apply below_alloc | apply pw_below_drewN | apply below_drew1) | exact HB.out)) hb); have n2_ := Aside0.mk (hbox); have n3_ := Aside0.mk ((by rw [hg]; exact (below_size (by repeat (first | (with_reducible first | exact HB.out | apply below_alloc | apply pw_below_drewN | apply below_drew1) | exact HB.out))) : w.heap.size ≤ gb279)); have n4_ := Aside0.mk ((by rw [hg]; exact (below_size (by repeat (first | (with_reducible first | exact HB.out | apply below_alloc | apply pw_below_drewN | apply below_drew1) | exact HB.out))) : w.heap.size ≤ gb279)); clear HO_6; clear HB; have HO_6 := n0_; have HB := n1_; have BK279 := n2_; have GW279 := n3_; have GE279 := n4_; clear n0_ n1_ n2_ n3_ n4_; clear hb hbox hg; have hcz35_0 : w34.cell? ⟨gb279, 0, none⟩ = some (.int .i64 0) := (blk_cell BK279.out 0).trans rfl; have hcz35_1 : w34.cell? ⟨gb279, 1, none⟩ = some (.slice none 0 0) := (blk_cell BK279.out 1).trans rfl; have hcz35_2 : w34.cell? ⟨gb279, 2, none⟩ = some (.slice none 0 0) := (blk_cell BK279.out 2).trans rfl; have hfz35_0 := blk_frozen BK279.out 0; have hfz35_1 := blk_frozen BK279.out 1; have hfz35_2 := blk_frozen BK279.out 2)); try go_wp2_with (first | ((with_reducible refine gate_dst (N := 10) rfl ?_); (try (refine gate_guard (by rfl) ?_; dsimp only)); refine box_event ?hg (N := 10) ?hd (cs := #[.int .i64 0, .slice none 0 0, .slice none 0 0]) (t := 44) ?hr ?_; (case hd => rfl); (case hg => rfl); (case hr => first | (go_simp; done) | (go_simp; rfl)); intro gb279 hg w34 hbox hb; have n0_ := Aside0.mk (Kd.R_below (by (with_reducible repeat (first | apply Kd.R_alloc | apply Kd.R_drewN | apply Kd.R_drew)); exact HO_6.out) hb); have n1_ := Aside0.mk (below_step (by repeat (first | (with_reducible first | exact HB.out | apply below_alloc | apply pw_below_drewN | apply below_drew1) | exact HB.out)) hb); have n2_ := Aside0.mk (hbox); have n3_ := Aside0.mk ((by rw [hg]; exact (below_size (by repeat (first | (with_reducible first | exact HB.out | apply below_alloc | apply pw_below_drewN | apply below_drew1) | exact HB.out))) : w.heap.size ≤ gb279)); have n4_ := Aside0.mk ((by rw [hg]; exact (below_size (by repeat (first | (with_reducible first | exact HB.out | apply below_alloc | apply pw_below_drewN | apply below_drew1) | exact HB.out))) : w.heap.size ≤ gb279)); clear HO_6; clear HB; have HO_6 := n0_; have HB := n1_; have BK279 := n2_; have GW279 := n3_; have GE279 := n4_; clear n0_ n1_ n2_ n3_ n4_; clear hb hbox hg; have hcz35_0 : w34.cell? ⟨gb279, 0, none⟩ = some (.int .i64 0) := (blk_cell BK279.out 0).trans rfl; have hcz35_1 : w34.cell? ⟨gb279, 1, none⟩ = some (.slice none 0 0) := (blk_cell BK279.out 1).trans rfl; have hcz35_2 : w34.cell? ⟨gb279, 2, none⟩ = some (.slice none 0 0) := (blk_cell BK279.out 2).trans rfl; have hfz35_0 := blk_frozen BK279.out 0; have hfz35_1 := blk_frozen BK279.out 1; have hfz35_2 := blk_frozen BK279.out 2)))
             go_loopg [11, 67] k3 (fun kq v11 v67 w' => ∃ (x11_4 : Int) (x67_4 : Int), v11 = .int .i64 x11_4 ∧ v67 = .int .i64 x67_4 ∧ Aside0 (cohousinglaw36_CauseRuns.l1 kq l1 t269 t274 x8_3 x44_3 x11_4 l0 (l0.length : Int) x44_3 ((rd_T44 l0 x44_3).f1) (((rd_T44 l0 x44_3).f1).length : Int) x67_4 ((rd_T44 l0 x44_3).f0) ((rd_T44 l0 x44_3).f1) ((rd_T44 l0 x44_3).f2) = some r) ∧ Aside0 (kq ≤ k3) ∧ Aside0 (Kd.R Kd.bool 4 w' w.heap.size (fun _ => True) v276 t274) ∧ Aside0 (w'.heap[gb279]? = some (.cells #[.int .i64 ((rd_T44 l0 x44_3).f0), (.slice A278_1 ((rd_T44 l0 x44_3).f1).length c278_1), (.slice A278_2 ((rd_T44 l0 x44_3).f2).length c278_2)] 44 (0, 0))) ∧ Aside0 (Below w.heap.size w w'))
             case atStart => exact ⟨(0), (0), (by first | rfl | (simp; done) | (simp [*]; done)), (by first | rfl | (simp; done) | (simp [*]; done)), H', ⟨Nat.le_refl _⟩, ⟨by (with_reducible repeat (first | apply Kd.R_alloc | apply Kd.R_drewN | apply Kd.R_drew)); exact Kd.R_mono (Kd.R_far (p := ⟨gb279, 2, none⟩) (Kd.R_far (p := ⟨gb279, 1, none⟩) (Kd.R_far (p := ⟨gb279, 0, none⟩) (Kd.R_types HO_6.out BK279.out (by decide)) (fun _ hk => hk.2) (.int .i64 ((rd_T44 l0 x44_3).f0))) (fun _ hk => hk.2) (.slice A278_1 ((rd_T44 l0 x44_3).f1).length c278_1)) (fun _ hk => hk.2) (.slice A278_2 ((rd_T44 l0 x44_3).f2).length c278_2)) (fun _ hk => trivial)⟩, ⟨by (with_reducible repeat (first | refine blk_drewN ?_ _ | refine blk_drew ?_ | refine blk_alloc ?_ _)); refine blk_put (cs := #[.int .i64 ((rd_T44 l0 x44_3).f0), .slice A278_1 ((rd_T44 l0 x44_3).f1).length c278_1, .slice none 0 0]) ?_ 2 _ rfl; (with_reducible repeat (first | refine blk_drewN ?_ _ | refine blk_drew ?_ | refine blk_alloc ?_ _)); refine blk_put (cs := #[.int .i64 ((rd_T44 l0 x44_3).f0), .slice none 0 0, .slice none 0 0]) ?_ 1 _ rfl; (with_reducible repeat (first | refine blk_drewN ?_ _ | refine blk_drew ?_ | refine blk_alloc ?_ _)); refine blk_put (cs := #[.int .i64 0, .slice none 0 0, .slice none 0 0]) ?_ 0 _ rfl; (with_reducible repeat (first | refine blk_drewN ?_ _ | refine blk_drew ?_ | refine blk_alloc ?_ _)); exact BK279.out⟩, ⟨by repeat (first | (with_reducible first | exact HB.out | apply below_alloc | apply pw_below_drewN | apply below_drew1 | refine below_set ?_ GE279.out) | exact HB.out)⟩⟩
             case round =>
              clear H'
              try clear c1
              try clear c2
              try clear p2
              try clear q2
              try clear hx2
              try clear c4
              try clear p6
              try clear c7
              try clear c13
              try clear c17
              try clear c17b0
              try clear c17b1
              try clear c19
              try clear c20
              try clear c20b0
              try clear c21
              try clear c21b0
              try clear c22
              try clear c22b0
              try clear c23
              try clear c23b0
              try clear c23b1
              try clear c23b2
              try clear c24
              try clear c24b0
              try clear c25
              try clear c25b0
              try clear c26
              try clear c26b0
              try clear c27
              try clear c27b0
              try clear c27b1
              try clear c27b2
              try clear p27
              try clear q27
              try clear hx27
              try clear p28
              try clear q28
              try clear hx28
              try clear hcz29_0
              try clear hcz29_1
              try clear hcz29_2
              try clear hcz32_0
              try clear hcz32_1
              try clear hcz32_2
              try clear hcz35_0
              try clear hcz35_1
              try clear hcz35_2
              try clear hfz29_0
              try clear hfz29_1
              try clear hfz29_2
              try clear hfz32_0
              try clear hfz32_1
              try clear hfz32_2
              try clear hfz35_0
              try clear hfz35_1
              try clear hfz35_2
              try clear hx278_0
              try clear hx278_1
              try clear hx278_2
              try clear hx280_0
              try clear hx281_0
              try clear p2
              try clear p278
              try clear p280
              try clear p281
              try clear q278
              try clear q280
              try clear q281
              obtain ⟨x11_4, x67_4, rfl, rfl, HA, HK4, HO_6, BK279, HB⟩ := hrel
              cases gk with
              | zero => exact absurd HA.out (by simp [cohousinglaw36_CauseRuns.l1])
              | succ k4 =>
               have H := HA.out
               clear HA
               simp only [cohousinglaw36_CauseRuns.l1] at H
               by_cases c36 : x67_4 < (((rd_T44 l0 x44_3).f1).length : Int)
               ·rw [if_pos c36] at H
                have c36b0 : decide (x67_4 < (((rd_T44 l0 x44_3).f1).length : Int)) = true := decide_eq_true c36
                clear c36
                by_cases c37 : 0 ≤ x67_4
                ·rw [if_pos c37] at H
                 have c37b0 : decide (0 ≤ x67_4) = true := decide_eq_true c37
                 clear c37
                 by_cases c38 : x67_4 < (((rd_T44 l0 x44_3).f1).length : Int)
                 ·rw [if_pos c38] at H
                  have c38b0 : decide (x67_4 < (((rd_T44 l0 x44_3).f1).length : Int)) = true := decide_eq_true c38
                  clear c38
                  by_cases c39 : 0 ≤ (rd ((rd_T44 l0 x44_3).f1) x67_4)
                  ·rw [if_pos c39] at H
                   have c39b0 : decide (0 ≤ (rd ((rd_T44 l0 x44_3).f1) x67_4)) = true := decide_eq_true c39
                   clear c39
                   by_cases c40 : (rd ((rd_T44 l0 x44_3).f1) x67_4) < (t274.length : Int)
                   ·rw [if_pos c40] at H
                    have c40b0 : decide ((rd ((rd_T44 l0 x44_3).f1) x67_4) < (t274.length : Int)) = true := decide_eq_true c40
                    clear c40
                    obtain ⟨bq41, hbq41⟩ : ∃ b_ : Bool, b_ = (rdOf false t274 (rd ((rd_T44 l0 x44_3).f1) x67_4)) := ⟨_, rfl⟩
                    replace H : (if bq41 = true then (cohousinglaw36_CauseRuns.l1 k4 l1 t269 t274 x8_3 x44_3 (Go.bits .or .i64 x11_4 (shl .i64 1 x67_4)) l0 (l0.length : Int) x44_3 ((rd_T44 l0 x44_3).f1) (((rd_T44 l0 x44_3).f1).length : Int) (wrap64 (x67_4 + 1)) ((rd_T44 l0 x44_3).f0) ((rd_T44 l0 x44_3).f1) ((rd_T44 l0 x44_3).f2)) else (cohousinglaw36_CauseRuns.l1 k4 l1 t269 t274 x8_3 x44_3 x11_4 l0 (l0.length : Int) x44_3 ((rd_T44 l0 x44_3).f1) (((rd_T44 l0 x44_3).f1).length : Int) (wrap64 (x67_4 + 1)) ((rd_T44 l0 x44_3).f0) ((rd_T44 l0 x44_3).f1) ((rd_T44 l0 x44_3).f2))) = some r := by rw [← hbq41] at H; exact H
                    have Nbq41 := Aside0.mk hbq41
                    clear hbq41
                    by_cases c42 : bq41 = true
                    ·subst c42
                     have H1 : (cohousinglaw36_CauseRuns.l1 k4 l1 t269 t274 x8_3 x44_3 (Go.bits .or .i64 x11_4 (shl .i64 1 x67_4)) l0 (l0.length : Int) x44_3 ((rd_T44 l0 x44_3).f1) (((rd_T44 l0 x44_3).f1).length : Int) (wrap64 (x67_4 + 1)) ((rd_T44 l0 x44_3).f0) ((rd_T44 l0 x44_3).f1) ((rd_T44 l0 x44_3).f2)) = some r := by rw [if_pos rfl] at H; exact H
                     clear H
                     have H := H1
                     clear H1
                     have c43b0 := eq_true (of_decide_eq_true (by first | (with_reducible assumption) | assumption) : 0 ≤ x67_4)
                     obtain ⟨ji44, hji44⟩ : ∃ j_ : Int, (shl .i64 1 x67_4) = j_ := ⟨_, rfl⟩
                     replace H : (cohousinglaw36_CauseRuns.l1 k4 l1 t269 t274 x8_3 x44_3 (Go.bits .or .i64 x11_4 (ji44)) l0 (l0.length : Int) x44_3 ((rd_T44 l0 x44_3).f1) (((rd_T44 l0 x44_3).f1).length : Int) (wrap64 (x67_4 + 1)) ((rd_T44 l0 x44_3).f0) ((rd_T44 l0 x44_3).f1) ((rd_T44 l0 x44_3).f2)) = some r := by first | (rw [hji44] at H; exact H) | (simp only [hji44] at H ⊢; exact H)
                     have hji44_ : (IntKind.i64.wrap (1 * 2 ^ min x67_4.toNat 64)) = ji44 := hji44
                     have hji44z : x67_4 ≤ 64 → (IntKind.i64.wrap (1 * 2 ^ x67_4.toNat)) = ji44 := shl_small hji44
                     have hji44u : (IntKind.i64.wrap (2 ^ min x67_4.toNat 64)) = ji44 := by have h_ := hji44_; rw [Int.one_mul] at h_; exact h_
                     have hji44v : x67_4 ≤ 64 → (IntKind.i64.wrap (2 ^ x67_4.toNat)) = ji44 := fun hle_ => by have h_ := hji44z hle_; rw [Int.one_mul] at h_; exact h_
                     have hji44y : (wrap64 (1 * 2 ^ min x67_4.toNat 64)) = ji44 := (i64_w _).symm.trans hji44_
                     have hji44x : x67_4 ≤ 64 → (wrap64 (1 * 2 ^ x67_4.toNat)) = ji44 := fun h_ => (i64_w _).symm.trans (hji44z h_)
                     have H' := Aside0.mk H
                     clear H
                     have p282 : 0 ≤ (x67_4 : Int) := of_decide_eq_true (by first | (with_reducible assumption) | assumption)
                     have q282 : x67_4 < (((rd_T44 l0 x44_3).f1).length : Int) := of_decide_eq_true (by first | (with_reducible assumption) | assumption)
                     obtain ⟨ad282, e282, hx282_0⟩ := Kd.at_int HR278_1.out x67_4 p282 q282
                     cases e282
                     replace hx282_0 := (HB.out.cell (World.block_lt_of_cell? w _ hx282_0)).trans hx282_0
                     replace p282 := eq_true p282
                     replace q282 := eq_true q282
                     obtain ⟨Ao45, co45, eo45⟩ := Kd.R_slice HO_6.out
                     subst eo45
                     have p283 : 0 ≤ ((rd ((rd_T44 l0 x44_3).f1) x67_4) : Int) := of_decide_eq_true (by first | (with_reducible assumption) | assumption)
                     have q283 : (rd ((rd_T44 l0 x44_3).f1) x67_4) < (t274.length : Int) := of_decide_eq_true (by first | (with_reducible assumption) | assumption)
                     obtain ⟨ad283, e283, hx283_0⟩ := Kd.at_bool (Kd.R_reads' HO_6.out).2.2 (rd ((rd_T44 l0 x44_3).f1) x67_4) p283 q283
                     (try rw [← Nbq41.out] at hx283_0)
                     cases e283
                     replace p283 := eq_true p283
                     replace q283 := eq_true q283
                     go_wp2
                     repeat (go_quiet (fail); try go_wp2)
                     go_roundg k4
                     case measure => have := HJ3.out; have := HJ14.out; have := HK3.out; have := HK4.out; omega
                     case rel => exact ⟨(Go.bits .or .i64 x11_4 (ji44)), (wrap64 (x67_4 + 1)), (by first | rfl | (simp; done) | (simp only [← hji44] <;> (first | rfl | simp)) | (simp [*]; done)), (by first | rfl | (simp; done) | (simp [*]; done)), H', ⟨by have := HJ3.out; have := HJ14.out; have := HK3.out; have := HK4.out; omega⟩, ⟨by (with_reducible repeat (first | apply Kd.R_alloc | apply Kd.R_drewN | apply Kd.R_drew)); exact HO_6.out⟩, ⟨by (with_reducible repeat (first | refine blk_drewN ?_ _ | refine blk_drew ?_ | refine blk_alloc ?_ _)); exact BK279.out⟩, ⟨by repeat (first | (with_reducible first | exact HB.out | apply below_alloc | apply pw_below_drewN | apply below_drew1 | refine below_set ?_ GE279.out) | exact HB.out)⟩⟩
                    ·replace c42 := Bool.eq_false_iff.mpr c42
                     subst c42
                     have H1 : (cohousinglaw36_CauseRuns.l1 k4 l1 t269 t274 x8_3 x44_3 x11_4 l0 (l0.length : Int) x44_3 ((rd_T44 l0 x44_3).f1) (((rd_T44 l0 x44_3).f1).length : Int) (wrap64 (x67_4 + 1)) ((rd_T44 l0 x44_3).f0) ((rd_T44 l0 x44_3).f1) ((rd_T44 l0 x44_3).f2)) = some r := by rw [if_neg (show ¬ (false = true) by decide)] at H; exact H
                     clear H
                     have H := H1
                     clear H1
                     have H' := Aside0.mk H
                     clear H
                     have p282 : 0 ≤ (x67_4 : Int) := of_decide_eq_true (by first | (with_reducible assumption) | assumption)
                     have q282 : x67_4 < (((rd_T44 l0 x44_3).f1).length : Int) := of_decide_eq_true (by first | (with_reducible assumption) | assumption)
                     obtain ⟨ad282, e282, hx282_0⟩ := Kd.at_int HR278_1.out x67_4 p282 q282
                     cases e282
                     replace hx282_0 := (HB.out.cell (World.block_lt_of_cell? w _ hx282_0)).trans hx282_0
                     replace p282 := eq_true p282
                     replace q282 := eq_true q282
                     obtain ⟨Ao46, co46, eo46⟩ := Kd.R_slice HO_6.out
                     subst eo46
                     have p283 : 0 ≤ ((rd ((rd_T44 l0 x44_3).f1) x67_4) : Int) := of_decide_eq_true (by first | (with_reducible assumption) | assumption)
                     have q283 : (rd ((rd_T44 l0 x44_3).f1) x67_4) < (t274.length : Int) := of_decide_eq_true (by first | (with_reducible assumption) | assumption)
                     obtain ⟨ad283, e283, hx283_0⟩ := Kd.at_bool (Kd.R_reads' HO_6.out).2.2 (rd ((rd_T44 l0 x44_3).f1) x67_4) p283 q283
                     (try rw [← Nbq41.out] at hx283_0)
                     cases e283
                     replace p283 := eq_true p283
                     replace q283 := eq_true q283
                     go_wp2
                     repeat (go_quiet (fail); try go_wp2)
                     go_roundg k4
                     case measure => have := HJ3.out; have := HJ14.out; have := HK3.out; have := HK4.out; omega
                     case rel => exact ⟨(x11_4), (wrap64 (x67_4 + 1)), (by first | rfl | (simp; done) | (simp [*]; done)), (by first | rfl | (simp; done) | (simp [*]; done)), H', ⟨by have := HJ3.out; have := HJ14.out; have := HK3.out; have := HK4.out; omega⟩, ⟨by (with_reducible repeat (first | apply Kd.R_alloc | apply Kd.R_drewN | apply Kd.R_drew)); exact HO_6.out⟩, ⟨by (with_reducible repeat (first | refine blk_drewN ?_ _ | refine blk_drew ?_ | refine blk_alloc ?_ _)); exact BK279.out⟩, ⟨by repeat (first | (with_reducible first | exact HB.out | apply below_alloc | apply pw_below_drewN | apply below_drew1 | refine below_set ?_ GE279.out) | exact HB.out)⟩⟩
                   ·rw [if_neg c40] at H
                    exact absurd H (by simp)
                  ·rw [if_neg c39] at H
                   exact absurd H (by simp)
                 ·rw [if_neg c38] at H
                  exact absurd H (by simp)
                ·rw [if_neg c37] at H
                 exact absurd H (by simp)
               ·rw [if_neg c36] at H
                have c36b0 : decide (x67_4 < (((rd_T44 l0 x44_3).f1).length : Int)) = false := decide_eq_false c36
                clear c36
                by_cases c47 : 0 ≤ x44_3
                ·rw [if_pos c47] at H
                 have c47b0 : decide (0 ≤ x44_3) = true := decide_eq_true c47
                 clear c47
                 by_cases c48 : x44_3 < (t274.length : Int)
                 ·rw [if_pos c48] at H
                  have c48b0 : decide (x44_3 < (t274.length : Int)) = true := decide_eq_true c48
                  clear c48
                  by_cases c49 : 0 ≤ x11_4
                  ·rw [if_pos c49] at H
                   have c49b0 : decide (0 ≤ x11_4) = true := decide_eq_true c49
                   clear c49
                   by_cases c50 : x11_4 < (((rd_T44 l0 x44_3).f2).length : Int)
                   ·rw [if_pos c50] at H
                    have c50b0 : decide (x11_4 < (((rd_T44 l0 x44_3).f2).length : Int)) = true := decide_eq_true c50
                    clear c50
                    by_cases c51 : ((rdOf false t274 x44_3) != (rdOf false ((rd_T44 l0 x44_3).f2) x11_4)) = true
                    ·rw [if_pos c51] at H
                     have c51b0 : ((rdOf false t274 x44_3) != (rdOf false ((rd_T44 l0 x44_3).f2) x11_4)) = true := c51
                     (try (have c51b1 : decide ((rdOf false t274 x44_3) = (rdOf false ((rd_T44 l0 x44_3).f2) x11_4)) = false := by simpa using c51))
                     (try (have c51b2 : ((rdOf false t274 x44_3) == (rdOf false ((rd_T44 l0 x44_3).f2) x11_4)) = false := by simpa using c51))
                     (try (have c51b3 : ¬ ((rdOf false t274 x44_3) = (rdOf false ((rd_T44 l0 x44_3).f2) x11_4)) := by simpa using c51))
                     clear c51
                     obtain rfl := Option.some.inj H
                     obtain ⟨Ao52, co52, eo52⟩ := Kd.R_slice HO_6.out
                     subst eo52
                     have p284 : 0 ≤ (x44_3 : Int) := of_decide_eq_true (by first | (with_reducible assumption) | assumption)
                     have q284 : x44_3 < (t274.length : Int) := of_decide_eq_true (by first | (with_reducible assumption) | assumption)
                     obtain ⟨ad284, e284, hx284_0⟩ := Kd.at_bool (Kd.R_reads' HO_6.out).2.2 x44_3 p284 q284
                     cases e284
                     replace p284 := eq_true p284
                     replace q284 := eq_true q284
                     have hcz53_0 : wr.cell? ⟨gb279, 0, none⟩ = some (.int .i64 ((rd_T44 l0 x44_3).f0)) := (blk_cell BK279.out 0).trans rfl
                     have hcz53_1 : wr.cell? ⟨gb279, 1, none⟩ = some (.slice A278_1 ((rd_T44 l0 x44_3).f1).length c278_1) := (blk_cell BK279.out 1).trans rfl
                     have hcz53_2 : wr.cell? ⟨gb279, 2, none⟩ = some (.slice A278_2 ((rd_T44 l0 x44_3).f2).length c278_2) := (blk_cell BK279.out 2).trans rfl
                     have hfz53_0 := blk_frozen BK279.out 0
                     have hfz53_1 := blk_frozen BK279.out 1
                     have hfz53_2 := blk_frozen BK279.out 2
                     have p285 : 0 ≤ (x11_4 : Int) := of_decide_eq_true (by first | (with_reducible assumption) | assumption)
                     have q285 : x11_4 < (((rd_T44 l0 x44_3).f2).length : Int) := of_decide_eq_true (by first | (with_reducible assumption) | assumption)
                     obtain ⟨ad285, e285, hx285_0⟩ := Kd.at_bool HR278_2.out x11_4 p285 q285
                     cases e285
                     replace hx285_0 := (HB.out.cell (World.block_lt_of_cell? w _ hx285_0)).trans hx285_0
                     replace p285 := eq_true p285
                     replace q285 := eq_true q285
                     go_wp2
                     repeat (go_quiet (fail); try go_wp2)
                     go_ret
                     exact ⟨by first | rfl | (simp [errW_none, errW_some] <;> rfl) | (simp [*, errW_none, errW_some] <;> rfl), by repeat (first | (with_reducible first | exact HB.out | apply below_alloc | apply pw_below_drewN | apply below_drew1 | refine below_set ?_ GE279.out) | exact HB.out)⟩
                    ·rw [if_neg c51] at H
                     have c51b0 : ((rdOf false t274 x44_3) != (rdOf false ((rd_T44 l0 x44_3).f2) x11_4)) = false := by simpa using c51
                     (try (have c51b1 : decide ((rdOf false t274 x44_3) = (rdOf false ((rd_T44 l0 x44_3).f2) x11_4)) = true := by simpa using c51))
                     (try (have c51b2 : ((rdOf false t274 x44_3) == (rdOf false ((rd_T44 l0 x44_3).f2) x11_4)) = true := by simpa using c51))
                     clear c51
                     have H' := Aside0.mk H
                     clear H
                     obtain ⟨Ao54, co54, eo54⟩ := Kd.R_slice HO_6.out
                     subst eo54
                     have p284 : 0 ≤ (x44_3 : Int) := of_decide_eq_true (by first | (with_reducible assumption) | assumption)
                     have q284 : x44_3 < (t274.length : Int) := of_decide_eq_true (by first | (with_reducible assumption) | assumption)
                     obtain ⟨ad284, e284, hx284_0⟩ := Kd.at_bool (Kd.R_reads' HO_6.out).2.2 x44_3 p284 q284
                     cases e284
                     replace p284 := eq_true p284
                     replace q284 := eq_true q284
                     have hcz55_0 : wr.cell? ⟨gb279, 0, none⟩ = some (.int .i64 ((rd_T44 l0 x44_3).f0)) := (blk_cell BK279.out 0).trans rfl
                     have hcz55_1 : wr.cell? ⟨gb279, 1, none⟩ = some (.slice A278_1 ((rd_T44 l0 x44_3).f1).length c278_1) := (blk_cell BK279.out 1).trans rfl
                     have hcz55_2 : wr.cell? ⟨gb279, 2, none⟩ = some (.slice A278_2 ((rd_T44 l0 x44_3).f2).length c278_2) := (blk_cell BK279.out 2).trans rfl
                     have hfz55_0 := blk_frozen BK279.out 0
                     have hfz55_1 := blk_frozen BK279.out 1
                     have hfz55_2 := blk_frozen BK279.out 2
                     have p285 : 0 ≤ (x11_4 : Int) := of_decide_eq_true (by first | (with_reducible assumption) | assumption)
                     have q285 : x11_4 < (((rd_T44 l0 x44_3).f2).length : Int) := of_decide_eq_true (by first | (with_reducible assumption) | assumption)
                     obtain ⟨ad285, e285, hx285_0⟩ := Kd.at_bool HR278_2.out x11_4 p285 q285
                     cases e285
                     replace hx285_0 := (HB.out.cell (World.block_lt_of_cell? w _ hx285_0)).trans hx285_0
                     replace p285 := eq_true p285
                     replace q285 := eq_true q285
                     go_wp2
                     repeat (go_quiet (fail); try go_wp2)
                     go_roundg k4
                     case measure => have := HJ3.out; have := HJ14.out; have := HK3.out; have := HK4.out; omega
                     case rel => exact ⟨(x8_3), (wrap64 (x44_3 + 1)), (by first | rfl | (simp; done) | (simp [*]; done)), (by first | rfl | (simp; done) | (simp [*]; done)), H', ⟨by have := HJ3.out; have := HJ14.out; have := HK3.out; have := HK4.out; omega⟩, ⟨by (with_reducible repeat (first | apply Kd.R_alloc | apply Kd.R_drewN | apply Kd.R_drew)); exact HO_6.out⟩, ⟨by repeat (first | (with_reducible first | exact HB.out | apply below_alloc | apply pw_below_drewN | apply below_drew1 | refine below_set ?_ GE279.out) | exact HB.out)⟩⟩
                   ·rw [if_neg c50] at H
                    exact absurd H (by simp)
                  ·rw [if_neg c49] at H
                   exact absurd H (by simp)
                 ·rw [if_neg c48] at H
                  exact absurd H (by simp)
                ·rw [if_neg c47] at H
                 exact absurd H (by simp)
           ·rw [if_neg c22] at H
            exact absurd H (by simp)
          ·rw [if_neg c21] at H
           exact absurd H (by simp)
         ·rw [if_neg c20] at H
          have c20b0 : decide (x44_3 < (l0.length : Int)) = false := decide_eq_false c20
          clear c20
          obtain rfl := Option.some.inj H
          go_wp2
          repeat (go_quiet (fail); try go_wp2)
          go_ret
          exact ⟨by first | rfl | (simp [errW_none, errW_some] <;> rfl) | (simp [*, errW_none, errW_some] <;> rfl), by repeat (first | (with_reducible first | exact HB.out | apply below_alloc | apply pw_below_drewN | apply below_drew1) | exact HB.out)⟩

end Go.Proofs.Ytjdhnhfglpogmaa.P
