-- Written by a program of this session out of the translation (wip/pp: the kit's print, turned). Not trusted: Lean checks it.
import Derived.Test.YtdhnojfpgpjabaaDoorPx0
import Derived.Test.YtdhnojfpgpjabaaDoorPx8
import Derived.Test.YtdhnojfpgpjabaaDoorPx9
import Derived.Test.YtdhnojfpgpjabaaDoorXhead32
import Derived.Test.YtdhnojfpgpjabaaDoorXstate
namespace Go.Proofs.YtdhnojfpgpjabaaDoor.P
open Go.RowKit Go.Proofs.YtdhnojfpgpjabaaDoorW.PrintWords Go.Proofs.YtdhnojfpgpjabaaDoorW.PrintLast Go.Proofs.YtdhnojfpgpjabaaDoorW.PrintMore
attribute [local go_sem] max2_int min2_int max_two min_two max_three min_three max_four min_four   -- for this text's walks alone
set_option linter.unusedVariables false
set_option linter.unusedSimpArgs false

/-! ### cohousinglaw32_CapitalExact: function 6 -/
mutual
def cohousinglaw32_CapitalExact.j0 : Nat → Int → List (S36) → Int → Bool → Bool → Option (Bool)
 | 0, _, _, _, _, _ => none
 | k + 1, x0, x1, x2, x7, x25 => if x25 = true then (some x7) else ((cohousinglaw32_count.f x0).bind fun t282 => ((cohousinglaw32_on.f x2).bind fun t283 => ((capital_State.f k t282 x1 t283).bind fun bt284 => (if bt284.2.2.2.2.2 = 0 then (cohousinglaw32_CapitalExact.j1 k x1 x2 x7 (decide (bt284.1 > 1000000)) bt284.1 bt284.2.1 bt284.2.2.1 bt284.2.2.2.1 bt284.2.2.2.2.1) else (cohousinglaw32_CapitalExact.j1 k x1 x2 x7 true bt284.1 bt284.2.1 bt284.2.2.1 bt284.2.2.2.1 bt284.2.2.2.2.1)))))
def cohousinglaw32_CapitalExact.j1 : Nat → List (S36) → Int → Bool → Bool → Int → Int → Int → Int → Int → Option (Bool)
 | 0, _, _, _, _, _, _, _, _, _ => none
 | k + 1, x1, x2, x7, x42, x291000, x291001, x291002, x291003, x291004 => if x42 = true then (some x7) else (cohousinglaw32_CapitalExact.l0 k x1 x2 x7 0 0 0 0 1 0 x291000 x291001 x291002 x291003 x291004)
def cohousinglaw32_CapitalExact.l0 : Nat → List (S36) → Int → Bool → Int → Int → Int → Int → Int → Int → Int → Int → Int → Int → Int → Option (Bool)
 | 0, _, _, _, _, _, _, _, _, _, _, _, _, _, _ => none
 | k + 1, x1, x2, x7, x10, x11, x12, x13, x14, x15, x291000, x291001, x291002, x291003, x291004 => if x15 < (x1.length : Int) then (if 0 ≤ x15 then ((cohousinglaw32_on.f x2).bind fun t292 => (cohousinglaw32_CapitalExact.j3 k x1 x2 x7 x10 x11 x12 x13 x14 x15 (decide (((rd_T36 x1 x15).f1) ≤ t292)) x291000 x291001 x291002 x291003 x291004)) else (none)) else (cohousinglaw32_CapitalExact.j3 k x1 x2 x7 x10 x11 x12 x13 x14 x15 false x291000 x291001 x291002 x291003 x291004)
def cohousinglaw32_CapitalExact.j3 : Nat → List (S36) → Int → Bool → Int → Int → Int → Int → Int → Int → Bool → Int → Int → Int → Int → Int → Option (Bool)
 | 0, _, _, _, _, _, _, _, _, _, _, _, _, _, _, _ => none
 | k + 1, x1, x2, x7, x10, x11, x12, x13, x14, x15, x57, x291000, x291001, x291002, x291003, x291004 => if x57 = true then (if 0 ≤ x15 then (if x15 < (x1.length : Int) then (if ((rd_T36 x1 x15).f0) = 1 then (cohousinglaw32_CapitalExact.l0 k x1 x2 x7 (wrap64 (x10 + (wrap64 ((wrap64 (x11 * x12)) * (wrap64 (((rd_T36 x1 x15).f1) - x13)))))) (wrap64 (x11 + ((rd_T36 x1 x15).f2))) x12 ((rd_T36 x1 x15).f1) (wrap64 (x14 + 1)) (wrap64 (x15 + 1)) x291000 x291001 x291002 x291003 x291004) else (if ((rd_T36 x1 x15).f0) = 3 then (cohousinglaw32_CapitalExact.l0 k x1 x2 x7 (wrap64 (x10 + (wrap64 ((wrap64 (x11 * x12)) * (wrap64 (((rd_T36 x1 x15).f1) - x13)))))) x11 ((rd_T36 x1 x15).f2) ((rd_T36 x1 x15).f1) (wrap64 (x14 + 1)) (wrap64 (x15 + 1)) x291000 x291001 x291002 x291003 x291004) else (cohousinglaw32_CapitalExact.l0 k x1 x2 x7 (wrap64 (x10 + (wrap64 ((wrap64 (x11 * x12)) * (wrap64 (((rd_T36 x1 x15).f1) - x13)))))) x11 x12 ((rd_T36 x1 x15).f1) x14 (wrap64 (x15 + 1)) x291000 x291001 x291002 x291003 x291004))) else (none)) else (none)) else ((cohousinglaw32_on.f x2).bind fun t293 => (if x7 = true then (if (wrap64 (2 * (wrap64 ((wrap64 (x291002 * 3650000)) - (wrap64 (x10 + (wrap64 ((wrap64 (x11 * x12)) * (wrap64 (t293 - x13)))))))))) ≤ (wrap64 (x14 * 3650000)) then (some (decide ((wrap64 ((-2) * (wrap64 ((wrap64 (x291002 * 3650000)) - (wrap64 (x10 + (wrap64 ((wrap64 (x11 * x12)) * (wrap64 (t293 - x13)))))))))) ≤ (wrap64 (x14 * 3650000))))) else (some false)) else (some false)))
end
def cohousinglaw32_CapitalExact.f (k : Nat) (a0 : Int) (l1 : List (S36)) (a2 : Int) : Option (Bool) := (cohousinglaw32_head.f k).bind fun t280 => (if (l1.length : Int) > 20 then (cohousinglaw32_CapitalExact.j0 k a0 l1 a2 t280 true) else ((cohousingref32_Valid.f k l1).bind fun t281 => (cohousinglaw32_CapitalExact.j0 k a0 l1 a2 t280 (!t281))))
theorem cohousinglaw32_CapitalExact.mono_l : ∀ k, (∀ y0 y1 y2 y3 y4, LeO (cohousinglaw32_CapitalExact.j0 k y0 y1 y2 y3 y4) (cohousinglaw32_CapitalExact.j0 (k + 1) y0 y1 y2 y3 y4)) ∧ (∀ y0 y1 y2 y3 y4 y5 y6 y7 y8, LeO (cohousinglaw32_CapitalExact.j1 k y0 y1 y2 y3 y4 y5 y6 y7 y8) (cohousinglaw32_CapitalExact.j1 (k + 1) y0 y1 y2 y3 y4 y5 y6 y7 y8)) ∧ (∀ y0 y1 y2 y3 y4 y5 y6 y7 y8 y9 y10 y11 y12 y13, LeO (cohousinglaw32_CapitalExact.l0 k y0 y1 y2 y3 y4 y5 y6 y7 y8 y9 y10 y11 y12 y13) (cohousinglaw32_CapitalExact.l0 (k + 1) y0 y1 y2 y3 y4 y5 y6 y7 y8 y9 y10 y11 y12 y13)) ∧ (∀ y0 y1 y2 y3 y4 y5 y6 y7 y8 y9 y10 y11 y12 y13 y14, LeO (cohousinglaw32_CapitalExact.j3 k y0 y1 y2 y3 y4 y5 y6 y7 y8 y9 y10 y11 y12 y13 y14) (cohousinglaw32_CapitalExact.j3 (k + 1) y0 y1 y2 y3 y4 y5 y6 y7 y8 y9 y10 y11 y12 y13 y14))
 | 0 => ⟨fun _ _ _ _ _ r h => by simp [cohousinglaw32_CapitalExact.j0] at h, fun _ _ _ _ _ _ _ _ _ r h => by simp [cohousinglaw32_CapitalExact.j1] at h, fun _ _ _ _ _ _ _ _ _ _ _ _ _ _ r h => by simp [cohousinglaw32_CapitalExact.l0] at h, fun _ _ _ _ _ _ _ _ _ _ _ _ _ _ _ r h => by simp [cohousinglaw32_CapitalExact.j3] at h⟩
 | k + 1 => by
  obtain ⟨ih0, ih1, ih2, ih3⟩ := cohousinglaw32_CapitalExact.mono_l k
  refine ⟨?_, ?_, ?_, ?_⟩
  ·intro y0 y1 y2 y3 y4
   unfold cohousinglaw32_CapitalExact.j0
   repeat' first
   | (with_reducible exact ih0 _ _ _ _ _)
   | (with_reducible exact ih1 _ _ _ _ _ _ _ _ _)
   | (with_reducible exact ih2 _ _ _ _ _ _ _ _ _ _ _ _ _ _)
   | (with_reducible exact ih3 _ _ _ _ _ _ _ _ _ _ _ _ _ _ _)
   | (with_reducible exact capital_State.mono _ _ _ _)
   | (with_reducible exact cohousinglaw32_head.mono _)
   | (with_reducible exact cohousingref32_Valid.mono _ _)
   | (with_reducible exact LeO.refl _)
   | (with_reducible exact LeO.none _)
   | (with_reducible refine LeO.ite ?_ ?_)
   | (with_reducible refine LeO.bind ?_ (fun _ => ?_))
   | exact ih0 _ _ _ _ _
   | exact ih1 _ _ _ _ _ _ _ _ _
   | exact ih2 _ _ _ _ _ _ _ _ _ _ _ _ _ _
   | exact ih3 _ _ _ _ _ _ _ _ _ _ _ _ _ _ _
   | exact capital_State.mono _ _ _ _
   | exact cohousinglaw32_head.mono _
   | exact cohousingref32_Valid.mono _ _
   | exact LeO.none _
   | refine LeO.ite ?_ ?_
   | refine LeO.bind ?_ (fun _ => ?_)
  ·intro y0 y1 y2 y3 y4 y5 y6 y7 y8
   unfold cohousinglaw32_CapitalExact.j1
   repeat' first
   | (with_reducible exact ih0 _ _ _ _ _)
   | (with_reducible exact ih1 _ _ _ _ _ _ _ _ _)
   | (with_reducible exact ih2 _ _ _ _ _ _ _ _ _ _ _ _ _ _)
   | (with_reducible exact ih3 _ _ _ _ _ _ _ _ _ _ _ _ _ _ _)
   | (with_reducible exact capital_State.mono _ _ _ _)
   | (with_reducible exact cohousinglaw32_head.mono _)
   | (with_reducible exact cohousingref32_Valid.mono _ _)
   | (with_reducible exact LeO.refl _)
   | (with_reducible exact LeO.none _)
   | (with_reducible refine LeO.ite ?_ ?_)
   | (with_reducible refine LeO.bind ?_ (fun _ => ?_))
   | exact ih0 _ _ _ _ _
   | exact ih1 _ _ _ _ _ _ _ _ _
   | exact ih2 _ _ _ _ _ _ _ _ _ _ _ _ _ _
   | exact ih3 _ _ _ _ _ _ _ _ _ _ _ _ _ _ _
   | exact capital_State.mono _ _ _ _
   | exact cohousinglaw32_head.mono _
   | exact cohousingref32_Valid.mono _ _
   | exact LeO.none _
   | refine LeO.ite ?_ ?_
   | refine LeO.bind ?_ (fun _ => ?_)
  ·intro y0 y1 y2 y3 y4 y5 y6 y7 y8 y9 y10 y11 y12 y13
   unfold cohousinglaw32_CapitalExact.l0
   repeat' first
   | (with_reducible exact ih0 _ _ _ _ _)
   | (with_reducible exact ih1 _ _ _ _ _ _ _ _ _)
   | (with_reducible exact ih2 _ _ _ _ _ _ _ _ _ _ _ _ _ _)
   | (with_reducible exact ih3 _ _ _ _ _ _ _ _ _ _ _ _ _ _ _)
   | (with_reducible exact capital_State.mono _ _ _ _)
   | (with_reducible exact cohousinglaw32_head.mono _)
   | (with_reducible exact cohousingref32_Valid.mono _ _)
   | (with_reducible exact LeO.refl _)
   | (with_reducible exact LeO.none _)
   | (with_reducible refine LeO.ite ?_ ?_)
   | (with_reducible refine LeO.bind ?_ (fun _ => ?_))
   | exact ih0 _ _ _ _ _
   | exact ih1 _ _ _ _ _ _ _ _ _
   | exact ih2 _ _ _ _ _ _ _ _ _ _ _ _ _ _
   | exact ih3 _ _ _ _ _ _ _ _ _ _ _ _ _ _ _
   | exact capital_State.mono _ _ _ _
   | exact cohousinglaw32_head.mono _
   | exact cohousingref32_Valid.mono _ _
   | exact LeO.none _
   | refine LeO.ite ?_ ?_
   | refine LeO.bind ?_ (fun _ => ?_)
  ·intro y0 y1 y2 y3 y4 y5 y6 y7 y8 y9 y10 y11 y12 y13 y14
   unfold cohousinglaw32_CapitalExact.j3
   repeat' first
   | (with_reducible exact ih0 _ _ _ _ _)
   | (with_reducible exact ih1 _ _ _ _ _ _ _ _ _)
   | (with_reducible exact ih2 _ _ _ _ _ _ _ _ _ _ _ _ _ _)
   | (with_reducible exact ih3 _ _ _ _ _ _ _ _ _ _ _ _ _ _ _)
   | (with_reducible exact capital_State.mono _ _ _ _)
   | (with_reducible exact cohousinglaw32_head.mono _)
   | (with_reducible exact cohousingref32_Valid.mono _ _)
   | (with_reducible exact LeO.refl _)
   | (with_reducible exact LeO.none _)
   | (with_reducible refine LeO.ite ?_ ?_)
   | (with_reducible refine LeO.bind ?_ (fun _ => ?_))
   | exact ih0 _ _ _ _ _
   | exact ih1 _ _ _ _ _ _ _ _ _
   | exact ih2 _ _ _ _ _ _ _ _ _ _ _ _ _ _
   | exact ih3 _ _ _ _ _ _ _ _ _ _ _ _ _ _ _
   | exact capital_State.mono _ _ _ _
   | exact cohousinglaw32_head.mono _
   | exact cohousingref32_Valid.mono _ _
   | exact LeO.none _
   | refine LeO.ite ?_ ?_
   | refine LeO.bind ?_ (fun _ => ?_)
theorem cohousinglaw32_CapitalExact.mono : ∀ a0 a1 a2 k, LeO (cohousinglaw32_CapitalExact.f k a0 a1 a2) (cohousinglaw32_CapitalExact.f (k + 1) a0 a1 a2) := by
 intro a0 a1 a2 k
 obtain ⟨ih0, ih1, ih2, ih3⟩ := cohousinglaw32_CapitalExact.mono_l k
 unfold cohousinglaw32_CapitalExact.f
 repeat' first
   | (with_reducible exact ih0 _ _ _ _ _)
   | (with_reducible exact ih1 _ _ _ _ _ _ _ _ _)
   | (with_reducible exact ih2 _ _ _ _ _ _ _ _ _ _ _ _ _ _)
   | (with_reducible exact ih3 _ _ _ _ _ _ _ _ _ _ _ _ _ _ _)
   | (with_reducible exact capital_State.mono _ _ _ _)
   | (with_reducible exact cohousinglaw32_head.mono _)
   | (with_reducible exact cohousingref32_Valid.mono _ _)
   | (with_reducible exact LeO.refl _)
   | (with_reducible exact LeO.none _)
   | (with_reducible refine LeO.ite ?_ ?_)
   | (with_reducible refine LeO.bind ?_ (fun _ => ?_))
   | exact ih0 _ _ _ _ _
   | exact ih1 _ _ _ _ _ _ _ _ _
   | exact ih2 _ _ _ _ _ _ _ _ _ _ _ _ _ _
   | exact ih3 _ _ _ _ _ _ _ _ _ _ _ _ _ _ _
   | exact capital_State.mono _ _ _ _
   | exact cohousinglaw32_head.mono _
   | exact cohousingref32_Valid.mono _ _
   | exact LeO.none _
   | refine LeO.ite ?_ ?_
   | refine LeO.bind ?_ (fun _ => ?_)
set_option maxHeartbeats 8000000 in
set_option maxRecDepth 100000 in
theorem cohousinglaw32_CapitalExact.calls (k : Nat) (a0 : Int) (A1 : Option Addr) (c1 : Nat) (l1 : List (S36)) (a2 : Int) (r : Bool) (w : World) (hr1 : Kd.C k36 w A1 l1.length l1) (hc1 : l1.length ≤ c1) (hT : TabOk w) (h : cohousinglaw32_CapitalExact.f k a0 l1 a2 = some r) :
  Calls Tryd.prog 6 #[.int .u16 a0, .slice A1 l1.length c1, .int .u16 a2] w fun e w' => e = .returned (.bool r) ∧ Below w.heap.size w w' := by
 have hu26 := Tryd.underlying26
 have HR1 := Aside0.mk hr1
 have HC1 := Aside0.mk hc1
 clear hr1 hc1
 have HT := Aside0.mk hT
 clear hT
 have HB := Aside0.mk (Below.refl w.heap.size w)
 have H : ((cohousinglaw32_head.f k).bind fun t280 => (if (l1.length : Int) > 20 then (cohousinglaw32_CapitalExact.j0 k a0 l1 a2 t280 true) else ((cohousingref32_Valid.f k l1).bind fun t281 => (cohousinglaw32_CapitalExact.j0 k a0 l1 a2 t280 (!t281))))) = some r := h
 clear h
 replace H := Option.bind_eq_some_iff.mp H
 obtain ⟨t280, A40, H⟩ := H
 replace H : (if (l1.length : Int) > 20 then (cohousinglaw32_CapitalExact.j0 k a0 l1 a2 t280 true) else ((cohousingref32_Valid.f k l1).bind fun t281 => (cohousinglaw32_CapitalExact.j0 k a0 l1 a2 t280 (!t281)))) = some r := H
 have A4 := Aside0.mk A40
 clear A40
 have HC5 := Aside0.mk H
 clear H
 go_enter Tryd.func6, Tryd.ntmps6
 go_upto_region 2 with (first | (go_at_call 10; (with_reducible refine (cohousinglaw32_head.calls k  t280 _ ?side1 A4.out).mono ?_); (case side1 => exact TabOk.below HT.out (by repeat (first | (with_reducible first | exact HB.out | apply below_alloc | apply pw_below_drewN | apply below_drew1) | exact HB.out))); rintro e w6 ⟨rfl, hb⟩; have n0_ := Aside0.mk (below_step (by repeat (first | (with_reducible first | exact HB.out | apply below_alloc | apply pw_below_drewN | apply below_drew1) | exact HB.out)) hb); clear HB; have HB := n0_; clear n0_; (try clear hb); (try clear hb2); (try clear hk); (try clear hi)))
 repeat (go_quiet (first | (go_at_call 10; (with_reducible refine (cohousinglaw32_head.calls k  t280 _ ?side1 A4.out).mono ?_); (case side1 => exact TabOk.below HT.out (by repeat (first | (with_reducible first | exact HB.out | apply below_alloc | apply pw_below_drewN | apply below_drew1) | exact HB.out))); rintro e w6 ⟨rfl, hb⟩; have n0_ := Aside0.mk (below_step (by repeat (first | (with_reducible first | exact HB.out | apply below_alloc | apply pw_below_drewN | apply below_drew1) | exact HB.out)) hb); clear HB; have HB := n0_; clear n0_; (try clear hb); (try clear hb2); (try clear hk); (try clear hi))); go_upto_region 2 with (first | (go_at_call 10; (with_reducible refine (cohousinglaw32_head.calls k  t280 _ ?side1 A4.out).mono ?_); (case side1 => exact TabOk.below HT.out (by repeat (first | (with_reducible first | exact HB.out | apply below_alloc | apply pw_below_drewN | apply below_drew1) | exact HB.out))); rintro e w6 ⟨rfl, hb⟩; have n0_ := Aside0.mk (below_step (by repeat (first | (with_reducible first | exact HB.out | apply below_alloc | apply pw_below_drewN | apply below_drew1) | exact HB.out)) hb); clear HB; have HB := n0_; clear n0_; (try clear hb); (try clear hb2); (try clear hk); (try clear hi))))
 (try simp only [Act.put, List.setIfInBounds_toArray, List.set_cons_zero, List.set_cons_succ])
 go_cut [25] (fun v25 wc => ∃ (kq : Nat) (x25_4 : Bool), v25 = .bool x25_4 ∧ Aside0 (cohousinglaw32_CapitalExact.j0 kq a0 l1 a2 t280 x25_4 = some r) ∧ Aside0 (kq ≤ k) ∧ Aside0 (Below w.heap.size w wc))
 case first =>
  have H := HC5.out
  clear HC5
  by_cases c7 : (l1.length : Int) > 20
  ·rw [if_pos c7] at H
   have c7b0 : decide (20 < (l1.length : Int)) = true := decide_eq_true c7
   have c7b1 : decide (20 < l1.length) = true := decide_eq_true (by omega)
   clear c7
   (first | rw [c7b0] | (simp only [i64_w, i32_w]; rw [c7b0]) | skip)
   have H' := Aside0.mk H
   clear H
   go_wp2
   repeat (go_quiet (fail); try go_wp2)
   go_meet
   case rel => exact ⟨_, (true), (by first | rfl | (simp; done) | (simp [*]; done)), H', ⟨by first | omega | exact Nat.le_refl _⟩, ⟨by repeat (first | (with_reducible first | exact HB.out | apply below_alloc | apply pw_below_drewN | apply below_drew1) | exact HB.out)⟩⟩
  ·rw [if_neg c7] at H
   have c7b0 : decide (20 < (l1.length : Int)) = false := decide_eq_false c7
   have c7b1 : decide (20 < l1.length) = false := decide_eq_false (by omega)
   clear c7
   (first | rw [c7b0] | (simp only [i64_w, i32_w]; rw [c7b0]) | skip)
   replace H := Option.bind_eq_some_iff.mp H
   obtain ⟨t281, A80, H⟩ := H
   replace H : (cohousinglaw32_CapitalExact.j0 k a0 l1 a2 t280 (!t281)) = some r := H
   have A8 := Aside0.mk A80
   clear A80
   have H' := Aside0.mk H
   clear H
   go_wp2_with (first | (go_at_call 15; (with_reducible refine (cohousingref32_Valid.calls k _ _ l1 t281 _ ?side1 ?side2 A8.out).mono ?_); (case side1 => repeat (first | exact (Kd.C_below HR1.out HB.out) | (with_reducible refine Kd.C_alloc ?_ _) | (with_reducible refine Kd.C_drewN ?_ _) | (with_reducible refine Kd.C_drew ?_))); (case side2 => exact HC1.out); rintro e w9 ⟨rfl, hb⟩; have n0_ := Aside0.mk (below_step (by repeat (first | (with_reducible first | exact HB.out | apply below_alloc | apply pw_below_drewN | apply below_drew1) | exact HB.out)) hb); clear HB; have HB := n0_; clear n0_; (try clear hb); (try clear hb2); (try clear hk); (try clear hi)))
   repeat (go_quiet (first | (go_at_call 15; (with_reducible refine (cohousingref32_Valid.calls k _ _ l1 t281 _ ?side1 ?side2 A8.out).mono ?_); (case side1 => repeat (first | exact (Kd.C_below HR1.out HB.out) | (with_reducible refine Kd.C_alloc ?_ _) | (with_reducible refine Kd.C_drewN ?_ _) | (with_reducible refine Kd.C_drew ?_))); (case side2 => exact HC1.out); rintro e w9 ⟨rfl, hb⟩; have n0_ := Aside0.mk (below_step (by repeat (first | (with_reducible first | exact HB.out | apply below_alloc | apply pw_below_drewN | apply below_drew1) | exact HB.out)) hb); clear HB; have HB := n0_; clear n0_; (try clear hb); (try clear hb2); (try clear hk); (try clear hi))); try go_wp2_with (first | (go_at_call 15; (with_reducible refine (cohousingref32_Valid.calls k _ _ l1 t281 _ ?side1 ?side2 A8.out).mono ?_); (case side1 => repeat (first | exact (Kd.C_below HR1.out HB.out) | (with_reducible refine Kd.C_alloc ?_ _) | (with_reducible refine Kd.C_drewN ?_ _) | (with_reducible refine Kd.C_drew ?_))); (case side2 => exact HC1.out); rintro e w9 ⟨rfl, hb⟩; have n0_ := Aside0.mk (below_step (by repeat (first | (with_reducible first | exact HB.out | apply below_alloc | apply pw_below_drewN | apply below_drew1) | exact HB.out)) hb); clear HB; have HB := n0_; clear n0_; (try clear hb); (try clear hb2); (try clear hk); (try clear hi))))
   go_meet
   case rel => exact ⟨_, (!t281), (by first | rfl | (simp; done) | (simp [*]; done)), H', ⟨by first | omega | exact Nat.le_refl _⟩, ⟨by repeat (first | (with_reducible first | exact HB.out | apply below_alloc | apply pw_below_drewN | apply below_drew1) | exact HB.out)⟩⟩
 case rest =>
  clear HC5
  try clear c1
  try clear p2
  try clear c6
  try clear c7
  try clear c7b0
  try clear c7b1
  obtain ⟨kq, x25_4, rfl, HA, HJ4, HB⟩ := hcut
  cases kq with
  | zero => exact absurd HA.out (by simp [cohousinglaw32_CapitalExact.j0])
  | succ kj4 =>
   have H := HA.out
   clear HA
   simp only [cohousinglaw32_CapitalExact.j0] at H
   by_cases c10 : x25_4 = true
   ·subst c10
    have H1 : (some t280) = some r := by rw [if_pos rfl] at H; exact H
    clear H
    have H := H1
    clear H1
    obtain rfl := Option.some.inj H
    go_wp2
    repeat (go_quiet (fail); try go_wp2)
    go_ret
    exact ⟨by first | rfl | (simp [errW_none, errW_some] <;> rfl) | (simp [*, errW_none, errW_some] <;> rfl), by repeat (first | (with_reducible first | exact HB.out | apply below_alloc | apply pw_below_drewN | apply below_drew1) | exact HB.out)⟩
   ·replace c10 := Bool.eq_false_iff.mpr c10
    subst c10
    have H1 : ((cohousinglaw32_count.f a0).bind fun t282 => ((cohousinglaw32_on.f a2).bind fun t283 => ((capital_State.f kj4 t282 l1 t283).bind fun bt284 => (if bt284.2.2.2.2.2 = 0 then (cohousinglaw32_CapitalExact.j1 kj4 l1 a2 t280 (decide (bt284.1 > 1000000)) bt284.1 bt284.2.1 bt284.2.2.1 bt284.2.2.2.1 bt284.2.2.2.2.1) else (cohousinglaw32_CapitalExact.j1 kj4 l1 a2 t280 true bt284.1 bt284.2.1 bt284.2.2.1 bt284.2.2.2.1 bt284.2.2.2.2.1))))) = some r := by rw [if_neg (show ¬ (false = true) by decide)] at H; exact H
    clear H
    have H := H1
    clear H1
    replace H := Option.bind_eq_some_iff.mp H
    obtain ⟨t282, A110, H⟩ := H
    replace H : ((cohousinglaw32_on.f a2).bind fun t283 => ((capital_State.f kj4 t282 l1 t283).bind fun bt284 => (if bt284.2.2.2.2.2 = 0 then (cohousinglaw32_CapitalExact.j1 kj4 l1 a2 t280 (decide (bt284.1 > 1000000)) bt284.1 bt284.2.1 bt284.2.2.1 bt284.2.2.2.1 bt284.2.2.2.2.1) else (cohousinglaw32_CapitalExact.j1 kj4 l1 a2 t280 true bt284.1 bt284.2.1 bt284.2.2.1 bt284.2.2.2.1 bt284.2.2.2.2.1)))) = some r := H
    have A11 := Aside0.mk A110
    clear A110
    replace H := Option.bind_eq_some_iff.mp H
    obtain ⟨t283, A120, H⟩ := H
    replace H : ((capital_State.f kj4 t282 l1 t283).bind fun bt284 => (if bt284.2.2.2.2.2 = 0 then (cohousinglaw32_CapitalExact.j1 kj4 l1 a2 t280 (decide (bt284.1 > 1000000)) bt284.1 bt284.2.1 bt284.2.2.1 bt284.2.2.2.1 bt284.2.2.2.2.1) else (cohousinglaw32_CapitalExact.j1 kj4 l1 a2 t280 true bt284.1 bt284.2.1 bt284.2.2.1 bt284.2.2.2.1 bt284.2.2.2.2.1))) = some r := H
    have A12 := Aside0.mk A120
    clear A120
    replace H := Option.bind_eq_some_iff.mp H
    obtain ⟨⟨t284, t285, t286, t287, t288, t289⟩, A130, H⟩ := H
    replace H : (if t289 = 0 then (cohousinglaw32_CapitalExact.j1 kj4 l1 a2 t280 (decide (t284 > 1000000)) t284 t285 t286 t287 t288) else (cohousinglaw32_CapitalExact.j1 kj4 l1 a2 t280 true t284 t285 t286 t287 t288)) = some r := H
    have A13 := Aside0.mk A130
    clear A130
    have HC14 := Aside0.mk H
    clear H
    go_upto_region 5 with (first | (go_at_call 19; (with_reducible refine (cohousinglaw32_count.calls a0 t282 _ A11.out).mono ?_); rintro e w' ⟨rfl, ⟨nd, rfl⟩⟩; (try first | exact ⟨rfl, _, World.drewN_drewN _ _ _⟩ | exact ⟨rfl, _, Eq.trans (World.drewN_drewN _ _ _) (congrArg (World.drewN _) (Nat.add_assoc _ _ _))⟩)) | (go_at_call 20; (with_reducible refine (cohousinglaw32_on.calls a2 t283 _ A12.out).mono ?_); rintro e w' ⟨rfl, ⟨nd, rfl⟩⟩; (try first | exact ⟨rfl, _, World.drewN_drewN _ _ _⟩ | exact ⟨rfl, _, Eq.trans (World.drewN_drewN _ _ _) (congrArg (World.drewN _) (Nat.add_assoc _ _ _))⟩)) | (go_at_call 12; (with_reducible refine (capital_State.calls kj4 t282 _ _ l1 t283 t284 t285 t286 t287 t288 t289 _ ?side1 ?side2 ?side3 A13.out).mono ?_); (case side1 => repeat (first | exact (Kd.C_below HR1.out (by repeat (first | (with_reducible first | exact HB.out | apply below_alloc | apply pw_below_drewN | apply below_drew1) | exact HB.out))) | (with_reducible refine Kd.C_alloc ?_ _) | (with_reducible refine Kd.C_drewN ?_ _) | (with_reducible refine Kd.C_drew ?_))); (case side2 => exact HC1.out); (case side3 => exact TabOk.below HT.out (by repeat (first | (with_reducible first | exact HB.out | apply below_alloc | apply pw_below_drewN | apply below_drew1) | exact HB.out))); rintro e w15 ⟨rfl, hb⟩; have n0_ := Aside0.mk (below_step (by repeat (first | (with_reducible first | exact HB.out | apply below_alloc | apply pw_below_drewN | apply below_drew1) | exact HB.out)) hb); clear HB; have HB := n0_; clear n0_; (try clear hb); (try clear hb2); (try clear hk); (try clear hi)) | ((with_reducible refine gate_dst (N := 8) rfl ?_); refine box_event ?hg (N := 8) ?hd (cs := #[.int .i64 0, .int .i64 0, .int .i64 0, .int .i64 0, .int .i64 0]) (t := 26) ?hr ?_; (case hd => rfl); (case hg => rfl); (case hr => first | (go_simp; done) | (go_simp; rfl)); intro gb290 hg w16 hbox hb; have n0_ := Aside0.mk (below_step (by repeat (first | (with_reducible first | exact HB.out | apply below_alloc | apply pw_below_drewN | apply below_drew1) | exact HB.out)) hb); have n1_ := Aside0.mk (hbox); have n2_ := Aside0.mk ((by rw [hg]; exact (below_size (by repeat (first | (with_reducible first | exact HB.out | apply below_alloc | apply pw_below_drewN | apply below_drew1) | exact HB.out))) : w.heap.size ≤ gb290)); have n3_ := Aside0.mk ((by rw [hg]; exact (below_size (by repeat (first | (with_reducible first | exact HB.out | apply below_alloc | apply pw_below_drewN | apply below_drew1) | exact HB.out))) : w.heap.size ≤ gb290)); clear HB; have HB := n0_; have BK290 := n1_; have GW290 := n2_; have GE290 := n3_; clear n0_ n1_ n2_ n3_; clear hb hbox hg; have hcz17_0 : w16.cell? ⟨gb290, 0, none⟩ = some (.int .i64 0) := (blk_cell BK290.out 0).trans rfl; have hcz17_1 : w16.cell? ⟨gb290, 1, none⟩ = some (.int .i64 0) := (blk_cell BK290.out 1).trans rfl; have hcz17_2 : w16.cell? ⟨gb290, 2, none⟩ = some (.int .i64 0) := (blk_cell BK290.out 2).trans rfl; have hcz17_3 : w16.cell? ⟨gb290, 3, none⟩ = some (.int .i64 0) := (blk_cell BK290.out 3).trans rfl; have hcz17_4 : w16.cell? ⟨gb290, 4, none⟩ = some (.int .i64 0) := (blk_cell BK290.out 4).trans rfl; have hfz17_0 := blk_frozen BK290.out 0; have hfz17_1 := blk_frozen BK290.out 1; have hfz17_2 := blk_frozen BK290.out 2; have hfz17_3 := blk_frozen BK290.out 3; have hfz17_4 := blk_frozen BK290.out 4))
    repeat (go_quiet (first | (go_at_call 19; (with_reducible refine (cohousinglaw32_count.calls a0 t282 _ A11.out).mono ?_); rintro e w' ⟨rfl, ⟨nd, rfl⟩⟩; (try first | exact ⟨rfl, _, World.drewN_drewN _ _ _⟩ | exact ⟨rfl, _, Eq.trans (World.drewN_drewN _ _ _) (congrArg (World.drewN _) (Nat.add_assoc _ _ _))⟩)) | (go_at_call 20; (with_reducible refine (cohousinglaw32_on.calls a2 t283 _ A12.out).mono ?_); rintro e w' ⟨rfl, ⟨nd, rfl⟩⟩; (try first | exact ⟨rfl, _, World.drewN_drewN _ _ _⟩ | exact ⟨rfl, _, Eq.trans (World.drewN_drewN _ _ _) (congrArg (World.drewN _) (Nat.add_assoc _ _ _))⟩)) | (go_at_call 12; (with_reducible refine (capital_State.calls kj4 t282 _ _ l1 t283 t284 t285 t286 t287 t288 t289 _ ?side1 ?side2 ?side3 A13.out).mono ?_); (case side1 => repeat (first | exact (Kd.C_below HR1.out (by repeat (first | (with_reducible first | exact HB.out | apply below_alloc | apply pw_below_drewN | apply below_drew1) | exact HB.out))) | (with_reducible refine Kd.C_alloc ?_ _) | (with_reducible refine Kd.C_drewN ?_ _) | (with_reducible refine Kd.C_drew ?_))); (case side2 => exact HC1.out); (case side3 => exact TabOk.below HT.out (by repeat (first | (with_reducible first | exact HB.out | apply below_alloc | apply pw_below_drewN | apply below_drew1) | exact HB.out))); rintro e w15 ⟨rfl, hb⟩; have n0_ := Aside0.mk (below_step (by repeat (first | (with_reducible first | exact HB.out | apply below_alloc | apply pw_below_drewN | apply below_drew1) | exact HB.out)) hb); clear HB; have HB := n0_; clear n0_; (try clear hb); (try clear hb2); (try clear hk); (try clear hi)) | ((with_reducible refine gate_dst (N := 8) rfl ?_); refine box_event ?hg (N := 8) ?hd (cs := #[.int .i64 0, .int .i64 0, .int .i64 0, .int .i64 0, .int .i64 0]) (t := 26) ?hr ?_; (case hd => rfl); (case hg => rfl); (case hr => first | (go_simp; done) | (go_simp; rfl)); intro gb290 hg w16 hbox hb; have n0_ := Aside0.mk (below_step (by repeat (first | (with_reducible first | exact HB.out | apply below_alloc | apply pw_below_drewN | apply below_drew1) | exact HB.out)) hb); have n1_ := Aside0.mk (hbox); have n2_ := Aside0.mk ((by rw [hg]; exact (below_size (by repeat (first | (with_reducible first | exact HB.out | apply below_alloc | apply pw_below_drewN | apply below_drew1) | exact HB.out))) : w.heap.size ≤ gb290)); have n3_ := Aside0.mk ((by rw [hg]; exact (below_size (by repeat (first | (with_reducible first | exact HB.out | apply below_alloc | apply pw_below_drewN | apply below_drew1) | exact HB.out))) : w.heap.size ≤ gb290)); clear HB; have HB := n0_; have BK290 := n1_; have GW290 := n2_; have GE290 := n3_; clear n0_ n1_ n2_ n3_; clear hb hbox hg; have hcz17_0 : w16.cell? ⟨gb290, 0, none⟩ = some (.int .i64 0) := (blk_cell BK290.out 0).trans rfl; have hcz17_1 : w16.cell? ⟨gb290, 1, none⟩ = some (.int .i64 0) := (blk_cell BK290.out 1).trans rfl; have hcz17_2 : w16.cell? ⟨gb290, 2, none⟩ = some (.int .i64 0) := (blk_cell BK290.out 2).trans rfl; have hcz17_3 : w16.cell? ⟨gb290, 3, none⟩ = some (.int .i64 0) := (blk_cell BK290.out 3).trans rfl; have hcz17_4 : w16.cell? ⟨gb290, 4, none⟩ = some (.int .i64 0) := (blk_cell BK290.out 4).trans rfl; have hfz17_0 := blk_frozen BK290.out 0; have hfz17_1 := blk_frozen BK290.out 1; have hfz17_2 := blk_frozen BK290.out 2; have hfz17_3 := blk_frozen BK290.out 3; have hfz17_4 := blk_frozen BK290.out 4)); go_upto_region 5 with (first | (go_at_call 19; (with_reducible refine (cohousinglaw32_count.calls a0 t282 _ A11.out).mono ?_); rintro e w' ⟨rfl, ⟨nd, rfl⟩⟩; (try first | exact ⟨rfl, _, World.drewN_drewN _ _ _⟩ | exact ⟨rfl, _, Eq.trans (World.drewN_drewN _ _ _) (congrArg (World.drewN _) (Nat.add_assoc _ _ _))⟩)) | (go_at_call 20; (with_reducible refine (cohousinglaw32_on.calls a2 t283 _ A12.out).mono ?_); rintro e w' ⟨rfl, ⟨nd, rfl⟩⟩; (try first | exact ⟨rfl, _, World.drewN_drewN _ _ _⟩ | exact ⟨rfl, _, Eq.trans (World.drewN_drewN _ _ _) (congrArg (World.drewN _) (Nat.add_assoc _ _ _))⟩)) | (go_at_call 12; (with_reducible refine (capital_State.calls kj4 t282 _ _ l1 t283 t284 t285 t286 t287 t288 t289 _ ?side1 ?side2 ?side3 A13.out).mono ?_); (case side1 => repeat (first | exact (Kd.C_below HR1.out (by repeat (first | (with_reducible first | exact HB.out | apply below_alloc | apply pw_below_drewN | apply below_drew1) | exact HB.out))) | (with_reducible refine Kd.C_alloc ?_ _) | (with_reducible refine Kd.C_drewN ?_ _) | (with_reducible refine Kd.C_drew ?_))); (case side2 => exact HC1.out); (case side3 => exact TabOk.below HT.out (by repeat (first | (with_reducible first | exact HB.out | apply below_alloc | apply pw_below_drewN | apply below_drew1) | exact HB.out))); rintro e w15 ⟨rfl, hb⟩; have n0_ := Aside0.mk (below_step (by repeat (first | (with_reducible first | exact HB.out | apply below_alloc | apply pw_below_drewN | apply below_drew1) | exact HB.out)) hb); clear HB; have HB := n0_; clear n0_; (try clear hb); (try clear hb2); (try clear hk); (try clear hi)) | ((with_reducible refine gate_dst (N := 8) rfl ?_); refine box_event ?hg (N := 8) ?hd (cs := #[.int .i64 0, .int .i64 0, .int .i64 0, .int .i64 0, .int .i64 0]) (t := 26) ?hr ?_; (case hd => rfl); (case hg => rfl); (case hr => first | (go_simp; done) | (go_simp; rfl)); intro gb290 hg w16 hbox hb; have n0_ := Aside0.mk (below_step (by repeat (first | (with_reducible first | exact HB.out | apply below_alloc | apply pw_below_drewN | apply below_drew1) | exact HB.out)) hb); have n1_ := Aside0.mk (hbox); have n2_ := Aside0.mk ((by rw [hg]; exact (below_size (by repeat (first | (with_reducible first | exact HB.out | apply below_alloc | apply pw_below_drewN | apply below_drew1) | exact HB.out))) : w.heap.size ≤ gb290)); have n3_ := Aside0.mk ((by rw [hg]; exact (below_size (by repeat (first | (with_reducible first | exact HB.out | apply below_alloc | apply pw_below_drewN | apply below_drew1) | exact HB.out))) : w.heap.size ≤ gb290)); clear HB; have HB := n0_; have BK290 := n1_; have GW290 := n2_; have GE290 := n3_; clear n0_ n1_ n2_ n3_; clear hb hbox hg; have hcz17_0 : w16.cell? ⟨gb290, 0, none⟩ = some (.int .i64 0) := (blk_cell BK290.out 0).trans rfl; have hcz17_1 : w16.cell? ⟨gb290, 1, none⟩ = some (.int .i64 0) := (blk_cell BK290.out 1).trans rfl; have hcz17_2 : w16.cell? ⟨gb290, 2, none⟩ = some (.int .i64 0) := (blk_cell BK290.out 2).trans rfl; have hcz17_3 : w16.cell? ⟨gb290, 3, none⟩ = some (.int .i64 0) := (blk_cell BK290.out 3).trans rfl; have hcz17_4 : w16.cell? ⟨gb290, 4, none⟩ = some (.int .i64 0) := (blk_cell BK290.out 4).trans rfl; have hfz17_0 := blk_frozen BK290.out 0; have hfz17_1 := blk_frozen BK290.out 1; have hfz17_2 := blk_frozen BK290.out 2; have hfz17_3 := blk_frozen BK290.out 3; have hfz17_4 := blk_frozen BK290.out 4)))
    (try simp only [Act.put, List.setIfInBounds_toArray, List.set_cons_zero, List.set_cons_succ])
    go_cut [42] (fun v42 wc => ∃ (kq : Nat) (x42_13 : Bool), v42 = .bool x42_13 ∧ Aside0 (cohousinglaw32_CapitalExact.j1 kq l1 a2 t280 x42_13 t284 t285 t286 t287 t288 = some r) ∧ Aside0 (kq ≤ kj4) ∧ Aside0 (wc.heap[gb290]? = some (.cells #[.int .i64 t284, .int .i64 t285, .int .i64 t286, .int .i64 t287, .int .i64 t288] 26 (0, 0))) ∧ Aside0 (Below w.heap.size w wc))
    case first =>
     have H := HC14.out
     clear HC14
     by_cases c18 : t289 = 0
     ·rw [if_pos c18] at H
      have c18b0 : (t289 == 0) = true := beq_iff_eq.mpr c18
      have c18b1 : (t289 != 0) = false := bne_eq_false_iff_eq.mpr c18
      clear c18
      (first | rw [c18b0] | (simp only [i64_w, i32_w]; rw [c18b0]) | skip)
      have H' := Aside0.mk H
      clear H
      have hcz19_0 : w16.cell? ⟨gb290, 0, none⟩ = some (.int .i64 0) := (blk_cell BK290.out 0).trans rfl
      have hcz19_1 : w16.cell? ⟨gb290, 1, none⟩ = some (.int .i64 0) := (blk_cell BK290.out 1).trans rfl
      have hcz19_2 : w16.cell? ⟨gb290, 2, none⟩ = some (.int .i64 0) := (blk_cell BK290.out 2).trans rfl
      have hcz19_3 : w16.cell? ⟨gb290, 3, none⟩ = some (.int .i64 0) := (blk_cell BK290.out 3).trans rfl
      have hcz19_4 : w16.cell? ⟨gb290, 4, none⟩ = some (.int .i64 0) := (blk_cell BK290.out 4).trans rfl
      have hfz19_0 := blk_frozen BK290.out 0
      have hfz19_1 := blk_frozen BK290.out 1
      have hfz19_2 := blk_frozen BK290.out 2
      have hfz19_3 := blk_frozen BK290.out 3
      have hfz19_4 := blk_frozen BK290.out 4
      go_wp2
      repeat (go_quiet (fail); try go_wp2)
      go_meet
      case rel => exact ⟨_, (decide (t284 > 1000000)), (by first | rfl | (simp; done) | (simp [*]; done)), H', ⟨by have := HJ4.out; first | omega | exact Nat.le_refl _⟩, ⟨by (with_reducible repeat (first | refine blk_drewN ?_ _ | refine blk_drew ?_ | refine blk_alloc ?_ _)); refine blk_put (cs := #[.int .i64 t284, .int .i64 t285, .int .i64 t286, .int .i64 t287, .int .i64 0]) ?_ 4 _ rfl; (with_reducible repeat (first | refine blk_drewN ?_ _ | refine blk_drew ?_ | refine blk_alloc ?_ _)); refine blk_put (cs := #[.int .i64 t284, .int .i64 t285, .int .i64 t286, .int .i64 0, .int .i64 0]) ?_ 3 _ rfl; (with_reducible repeat (first | refine blk_drewN ?_ _ | refine blk_drew ?_ | refine blk_alloc ?_ _)); refine blk_put (cs := #[.int .i64 t284, .int .i64 t285, .int .i64 0, .int .i64 0, .int .i64 0]) ?_ 2 _ rfl; (with_reducible repeat (first | refine blk_drewN ?_ _ | refine blk_drew ?_ | refine blk_alloc ?_ _)); refine blk_put (cs := #[.int .i64 t284, .int .i64 0, .int .i64 0, .int .i64 0, .int .i64 0]) ?_ 1 _ rfl; (with_reducible repeat (first | refine blk_drewN ?_ _ | refine blk_drew ?_ | refine blk_alloc ?_ _)); refine blk_put (cs := #[.int .i64 0, .int .i64 0, .int .i64 0, .int .i64 0, .int .i64 0]) ?_ 0 _ rfl; (with_reducible repeat (first | refine blk_drewN ?_ _ | refine blk_drew ?_ | refine blk_alloc ?_ _)); exact BK290.out⟩, ⟨by repeat (first | (with_reducible first | exact HB.out | apply below_alloc | apply pw_below_drewN | apply below_drew1 | refine below_set ?_ GE290.out) | exact HB.out)⟩⟩
     ·rw [if_neg c18] at H
      have c18b0 : (t289 == 0) = false := beq_eq_false_iff_ne.mpr c18
      have c18b1 : (t289 != 0) = true := bne_iff_ne.mpr c18
      (first | rw [c18b0] | (simp only [i64_w, i32_w]; rw [c18b0]) | skip)
      have H' := Aside0.mk H
      clear H
      go_wp2
      repeat (go_quiet (fail); try go_wp2)
      go_meet
      case rel => exact ⟨_, (true), (by first | rfl | (simp; done) | (simp [*]; done)), H', ⟨by have := HJ4.out; first | omega | exact Nat.le_refl _⟩, ⟨by (with_reducible repeat (first | refine blk_drewN ?_ _ | refine blk_drew ?_ | refine blk_alloc ?_ _)); refine blk_put (cs := #[.int .i64 t284, .int .i64 t285, .int .i64 t286, .int .i64 t287, .int .i64 0]) ?_ 4 _ rfl; (with_reducible repeat (first | refine blk_drewN ?_ _ | refine blk_drew ?_ | refine blk_alloc ?_ _)); refine blk_put (cs := #[.int .i64 t284, .int .i64 t285, .int .i64 t286, .int .i64 0, .int .i64 0]) ?_ 3 _ rfl; (with_reducible repeat (first | refine blk_drewN ?_ _ | refine blk_drew ?_ | refine blk_alloc ?_ _)); refine blk_put (cs := #[.int .i64 t284, .int .i64 t285, .int .i64 0, .int .i64 0, .int .i64 0]) ?_ 2 _ rfl; (with_reducible repeat (first | refine blk_drewN ?_ _ | refine blk_drew ?_ | refine blk_alloc ?_ _)); refine blk_put (cs := #[.int .i64 t284, .int .i64 0, .int .i64 0, .int .i64 0, .int .i64 0]) ?_ 1 _ rfl; (with_reducible repeat (first | refine blk_drewN ?_ _ | refine blk_drew ?_ | refine blk_alloc ?_ _)); refine blk_put (cs := #[.int .i64 0, .int .i64 0, .int .i64 0, .int .i64 0, .int .i64 0]) ?_ 0 _ rfl; (with_reducible repeat (first | refine blk_drewN ?_ _ | refine blk_drew ?_ | refine blk_alloc ?_ _)); exact BK290.out⟩, ⟨by repeat (first | (with_reducible first | exact HB.out | apply below_alloc | apply pw_below_drewN | apply below_drew1 | refine below_set ?_ GE290.out) | exact HB.out)⟩⟩
    case rest =>
     clear HC14
     try clear c1
     try clear p2
     try clear c6
     try clear c7
     try clear c7b0
     try clear c7b1
     try clear c10
     try clear c18
     try clear c18b0
     try clear c18b1
     try clear hcz17_0
     try clear hcz17_1
     try clear hcz17_2
     try clear hcz17_3
     try clear hcz17_4
     try clear hcz19_0
     try clear hcz19_1
     try clear hcz19_2
     try clear hcz19_3
     try clear hcz19_4
     try clear hfz17_0
     try clear hfz17_1
     try clear hfz17_2
     try clear hfz17_3
     try clear hfz17_4
     try clear hfz19_0
     try clear hfz19_1
     try clear hfz19_2
     try clear hfz19_3
     try clear hfz19_4
     try clear p2
     obtain ⟨kq, x42_13, rfl, HA, HJ13, BK290, HB⟩ := hcut
     cases kq with
     | zero => exact absurd HA.out (by simp [cohousinglaw32_CapitalExact.j1])
     | succ kj13 =>
      have H := HA.out
      clear HA
      simp only [cohousinglaw32_CapitalExact.j1] at H
      by_cases c20 : x42_13 = true
      ·subst c20
       have H1 : (some t280) = some r := by rw [if_pos rfl] at H; exact H
       clear H
       have H := H1
       clear H1
       obtain rfl := Option.some.inj H
       go_wp2
       repeat (go_quiet (fail); try go_wp2)
       go_ret
       exact ⟨by first | rfl | (simp [errW_none, errW_some] <;> rfl) | (simp [*, errW_none, errW_some] <;> rfl), by repeat (first | (with_reducible first | exact HB.out | apply below_alloc | apply pw_below_drewN | apply below_drew1 | refine below_set ?_ GE290.out) | exact HB.out)⟩
      ·replace c20 := Bool.eq_false_iff.mpr c20
       subst c20
       have H1 : (cohousinglaw32_CapitalExact.l0 kj13 l1 a2 t280 0 0 0 0 1 0 t284 t285 t286 t287 t288) = some r := by rw [if_neg (show ¬ (false = true) by decide)] at H; exact H
       clear H
       have H := H1
       clear H1
       have H' := Aside0.mk H
       clear H
       go_wp2
       repeat (go_quiet (fail); try go_wp2)
       go_loopg [10, 11, 12, 13, 14, 15] kj13 (fun kq v10 v11 v12 v13 v14 v15 w' => ∃ (x10_3 : Int) (x11_3 : Int) (x12_3 : Int) (x13_3 : Int) (x14_3 : Int) (x15_3 : Int), v10 = .int .i64 x10_3 ∧ v11 = .int .i64 x11_3 ∧ v12 = .int .i64 x12_3 ∧ v13 = .int .i64 x13_3 ∧ v14 = .int .i64 x14_3 ∧ v15 = .int .i64 x15_3 ∧ Aside0 (cohousinglaw32_CapitalExact.l0 kq l1 a2 t280 x10_3 x11_3 x12_3 x13_3 x14_3 x15_3 t284 t285 t286 t287 t288 = some r) ∧ Aside0 (kq ≤ kj13) ∧ Aside0 (w'.heap[gb290]? = some (.cells #[.int .i64 t284, .int .i64 t285, .int .i64 t286, .int .i64 t287, .int .i64 t288] 26 (0, 0))) ∧ Aside0 (Below w.heap.size w w'))
       case atStart => exact ⟨(0), (0), (0), (0), (1), (0), (by first | rfl | (simp; done) | (simp [*]; done)), (by first | rfl | (simp; done) | (simp [*]; done)), (by first | rfl | (simp; done) | (simp [*]; done)), (by first | rfl | (simp; done) | (simp [*]; done)), (by first | rfl | (simp; done) | (simp [*]; done)), (by first | rfl | (simp; done) | (simp [*]; done)), H', ⟨Nat.le_refl _⟩, ⟨by (with_reducible repeat (first | refine blk_drewN ?_ _ | refine blk_drew ?_ | refine blk_alloc ?_ _)); exact BK290.out⟩, ⟨by repeat (first | (with_reducible first | exact HB.out | apply below_alloc | apply pw_below_drewN | apply below_drew1 | refine below_set ?_ GE290.out) | exact HB.out)⟩⟩
       case round =>
        clear H'
        try clear c1
        try clear c2
        try clear p2
        try clear c6
        try clear c7
        try clear c7b0
        try clear c7b1
        try clear c10
        try clear c18
        try clear c18b0
        try clear c18b1
        try clear c20
        try clear hcz17_0
        try clear hcz17_1
        try clear hcz17_2
        try clear hcz17_3
        try clear hcz17_4
        try clear hcz19_0
        try clear hcz19_1
        try clear hcz19_2
        try clear hcz19_3
        try clear hcz19_4
        try clear hfz17_0
        try clear hfz17_1
        try clear hfz17_2
        try clear hfz17_3
        try clear hfz17_4
        try clear hfz19_0
        try clear hfz19_1
        try clear hfz19_2
        try clear hfz19_3
        try clear hfz19_4
        try clear p2
        obtain ⟨x10_3, x11_3, x12_3, x13_3, x14_3, x15_3, rfl, rfl, rfl, rfl, rfl, rfl, HA, HK3, BK290, HB⟩ := hrel
        cases gk with
        | zero => exact absurd HA.out (by simp [cohousinglaw32_CapitalExact.l0])
        | succ k3 =>
         have H := HA.out
         clear HA
         simp only [cohousinglaw32_CapitalExact.l0] at H
         have HC21 := Aside0.mk H
         clear H
         go_upto_region 9 with (fail)
         repeat (go_quiet (fail); go_upto_region 9 with (fail))
         go_cut [57] (fun v57 wc => ∃ (kq : Nat) (x57_20 : Bool), v57 = .bool x57_20 ∧ Aside0 (cohousinglaw32_CapitalExact.j3 kq l1 a2 t280 x10_3 x11_3 x12_3 x13_3 x14_3 x15_3 x57_20 t284 t285 t286 t287 t288 = some r) ∧ Aside0 (kq ≤ k3) ∧ Aside0 (wc.heap[gb290]? = some (.cells #[.int .i64 t284, .int .i64 t285, .int .i64 t286, .int .i64 t287, .int .i64 t288] 26 (0, 0))) ∧ Aside0 (Below w.heap.size w wc))
         case first =>
          have H := HC21.out
          clear HC21
          by_cases c22 : x15_3 < (l1.length : Int)
          ·rw [if_pos c22] at H
           have c22b0 : decide (x15_3 < (l1.length : Int)) = true := decide_eq_true c22
           clear c22
           (first | rw [c22b0] | (simp only [i64_w, i32_w]; rw [c22b0]) | skip)
           by_cases c23 : 0 ≤ x15_3
           ·rw [if_pos c23] at H
            have c23b0 : decide (0 ≤ x15_3) = true := decide_eq_true c23
            clear c23
            replace H := Option.bind_eq_some_iff.mp H
            obtain ⟨t292, A240, H⟩ := H
            replace H : (cohousinglaw32_CapitalExact.j3 k3 l1 a2 t280 x10_3 x11_3 x12_3 x13_3 x14_3 x15_3 (decide (((rd_T36 l1 x15_3).f1) ≤ t292)) t284 t285 t286 t287 t288) = some r := H
            have A24 := Aside0.mk A240
            clear A240
            have H' := Aside0.mk H
            clear H
            have p291 : 0 ≤ (x15_3 : Int) := of_decide_eq_true (by first | (with_reducible assumption) | assumption)
            have q291 : x15_3 < (l1.length : Int) := of_decide_eq_true (by first | (with_reducible assumption) | assumption)
            obtain ⟨ad291, e291, hx291_0, hx291_1, hx291_2⟩ := at_T36 HR1.out x15_3 p291 q291
            cases e291
            replace hx291_0 := (HB.out.cell (World.block_lt_of_cell? w _ hx291_0)).trans hx291_0
            replace hx291_1 := (HB.out.cell (World.block_lt_of_cell? w _ hx291_1)).trans hx291_1
            replace hx291_2 := (HB.out.cell (World.block_lt_of_cell? w _ hx291_2)).trans hx291_2
            replace p291 := eq_true p291
            replace q291 := eq_true q291
            go_wp2_with (first | (go_at_call 20; (with_reducible refine (cohousinglaw32_on.calls a2 t292 _ A24.out).mono ?_); rintro e w' ⟨rfl, ⟨nd, rfl⟩⟩; (try first | exact ⟨rfl, _, World.drewN_drewN _ _ _⟩ | exact ⟨rfl, _, Eq.trans (World.drewN_drewN _ _ _) (congrArg (World.drewN _) (Nat.add_assoc _ _ _))⟩)))
            repeat (go_quiet (first | (go_at_call 20; (with_reducible refine (cohousinglaw32_on.calls a2 t292 _ A24.out).mono ?_); rintro e w' ⟨rfl, ⟨nd, rfl⟩⟩; (try first | exact ⟨rfl, _, World.drewN_drewN _ _ _⟩ | exact ⟨rfl, _, Eq.trans (World.drewN_drewN _ _ _) (congrArg (World.drewN _) (Nat.add_assoc _ _ _))⟩))); try go_wp2_with (first | (go_at_call 20; (with_reducible refine (cohousinglaw32_on.calls a2 t292 _ A24.out).mono ?_); rintro e w' ⟨rfl, ⟨nd, rfl⟩⟩; (try first | exact ⟨rfl, _, World.drewN_drewN _ _ _⟩ | exact ⟨rfl, _, Eq.trans (World.drewN_drewN _ _ _) (congrArg (World.drewN _) (Nat.add_assoc _ _ _))⟩))))
            go_meet
            case rel => exact ⟨_, (decide (((rd_T36 l1 x15_3).f1) ≤ t292)), (by first | rfl | (simp; done) | (simp [*]; done)), H', ⟨by have := HJ4.out; have := HJ13.out; have := HK3.out; first | omega | exact Nat.le_refl _⟩, ⟨by (with_reducible repeat (first | refine blk_drewN ?_ _ | refine blk_drew ?_ | refine blk_alloc ?_ _)); exact BK290.out⟩, ⟨by repeat (first | (with_reducible first | exact HB.out | apply below_alloc | apply pw_below_drewN | apply below_drew1 | refine below_set ?_ GE290.out) | exact HB.out)⟩⟩
           ·rw [if_neg c23] at H
            exact absurd H (by simp)
          ·rw [if_neg c22] at H
           have c22b0 : decide (x15_3 < (l1.length : Int)) = false := decide_eq_false c22
           clear c22
           (first | rw [c22b0] | (simp only [i64_w, i32_w]; rw [c22b0]) | skip)
           have H' := Aside0.mk H
           clear H
           go_wp2
           repeat (go_quiet (fail); try go_wp2)
           go_meet
           case rel => exact ⟨_, (false), (by first | rfl | (simp; done) | (simp [*]; done)), H', ⟨by have := HJ4.out; have := HJ13.out; have := HK3.out; first | omega | exact Nat.le_refl _⟩, ⟨by (with_reducible repeat (first | refine blk_drewN ?_ _ | refine blk_drew ?_ | refine blk_alloc ?_ _)); exact BK290.out⟩, ⟨by repeat (first | (with_reducible first | exact HB.out | apply below_alloc | apply pw_below_drewN | apply below_drew1 | refine below_set ?_ GE290.out) | exact HB.out)⟩⟩
         case rest =>
          clear HC21
          try clear c1
          try clear c2
          try clear p2
          try clear q2
          try clear hx2
          try clear c6
          try clear c7
          try clear c7b0
          try clear c7b1
          try clear c10
          try clear c18
          try clear c18b0
          try clear c18b1
          try clear c20
          try clear c22
          try clear c22b0
          try clear c23
          try clear c23b0
          try clear hcz17_0
          try clear hcz17_1
          try clear hcz17_2
          try clear hcz17_3
          try clear hcz17_4
          try clear hcz19_0
          try clear hcz19_1
          try clear hcz19_2
          try clear hcz19_3
          try clear hcz19_4
          try clear hfz17_0
          try clear hfz17_1
          try clear hfz17_2
          try clear hfz17_3
          try clear hfz17_4
          try clear hfz19_0
          try clear hfz19_1
          try clear hfz19_2
          try clear hfz19_3
          try clear hfz19_4
          try clear hx291_0
          try clear hx291_1
          try clear hx291_2
          try clear p2
          try clear p291
          try clear q291
          obtain ⟨kq, x57_20, rfl, HA, HJ20, BK290, HB⟩ := hcut
          cases kq with
          | zero => exact absurd HA.out (by simp [cohousinglaw32_CapitalExact.j3])
          | succ kj20 =>
           have H := HA.out
           clear HA
           simp only [cohousinglaw32_CapitalExact.j3] at H
           by_cases c25 : x57_20 = true
           ·subst c25
            have H1 : (if 0 ≤ x15_3 then (if x15_3 < (l1.length : Int) then (if ((rd_T36 l1 x15_3).f0) = 1 then (cohousinglaw32_CapitalExact.l0 kj20 l1 a2 t280 (wrap64 (x10_3 + (wrap64 ((wrap64 (x11_3 * x12_3)) * (wrap64 (((rd_T36 l1 x15_3).f1) - x13_3)))))) (wrap64 (x11_3 + ((rd_T36 l1 x15_3).f2))) x12_3 ((rd_T36 l1 x15_3).f1) (wrap64 (x14_3 + 1)) (wrap64 (x15_3 + 1)) t284 t285 t286 t287 t288) else (if ((rd_T36 l1 x15_3).f0) = 3 then (cohousinglaw32_CapitalExact.l0 kj20 l1 a2 t280 (wrap64 (x10_3 + (wrap64 ((wrap64 (x11_3 * x12_3)) * (wrap64 (((rd_T36 l1 x15_3).f1) - x13_3)))))) x11_3 ((rd_T36 l1 x15_3).f2) ((rd_T36 l1 x15_3).f1) (wrap64 (x14_3 + 1)) (wrap64 (x15_3 + 1)) t284 t285 t286 t287 t288) else (cohousinglaw32_CapitalExact.l0 kj20 l1 a2 t280 (wrap64 (x10_3 + (wrap64 ((wrap64 (x11_3 * x12_3)) * (wrap64 (((rd_T36 l1 x15_3).f1) - x13_3)))))) x11_3 x12_3 ((rd_T36 l1 x15_3).f1) x14_3 (wrap64 (x15_3 + 1)) t284 t285 t286 t287 t288))) else (none)) else (none)) = some r := by rw [if_pos rfl] at H; exact H
            clear H
            have H := H1
            clear H1
            by_cases c26 : 0 ≤ x15_3
            ·rw [if_pos c26] at H
             have c26b0 : decide (0 ≤ x15_3) = true := decide_eq_true c26
             clear c26
             by_cases c27 : x15_3 < (l1.length : Int)
             ·rw [if_pos c27] at H
              have c27b0 : decide (x15_3 < (l1.length : Int)) = true := decide_eq_true c27
              clear c27
              by_cases c28 : ((rd_T36 l1 x15_3).f0) = 1
              ·rw [if_pos c28] at H
               have c28b0 : (((rd_T36 l1 x15_3).f0) == 1) = true := beq_iff_eq.mpr c28
               have c28b1 : (((rd_T36 l1 x15_3).f0) != 1) = false := bne_eq_false_iff_eq.mpr c28
               clear c28
               have H' := Aside0.mk H
               clear H
               have p294 : 0 ≤ (x15_3 : Int) := of_decide_eq_true (by first | (with_reducible assumption) | assumption)
               have q294 : x15_3 < (l1.length : Int) := of_decide_eq_true (by first | (with_reducible assumption) | assumption)
               obtain ⟨ad294, e294, hx294_0, hx294_1, hx294_2⟩ := at_T36 HR1.out x15_3 p294 q294
               cases e294
               replace hx294_0 := (HB.out.cell (World.block_lt_of_cell? w _ hx294_0)).trans hx294_0
               replace hx294_1 := (HB.out.cell (World.block_lt_of_cell? w _ hx294_1)).trans hx294_1
               replace hx294_2 := (HB.out.cell (World.block_lt_of_cell? w _ hx294_2)).trans hx294_2
               replace p294 := eq_true p294
               replace q294 := eq_true q294
               have p295 : 0 ≤ (x15_3 : Int) := of_decide_eq_true (by first | (with_reducible assumption) | assumption)
               have q295 : x15_3 < (l1.length : Int) := of_decide_eq_true (by first | (with_reducible assumption) | assumption)
               obtain ⟨ad295, e295, hx295_0, hx295_1, hx295_2⟩ := at_T36 HR1.out x15_3 p295 q295
               obtain rfl : ad294 = ad295 := (by injection e295)
               replace hx295_0 := (HB.out.cell (World.block_lt_of_cell? w _ hx295_0)).trans hx295_0
               replace hx295_1 := (HB.out.cell (World.block_lt_of_cell? w _ hx295_1)).trans hx295_1
               replace hx295_2 := (HB.out.cell (World.block_lt_of_cell? w _ hx295_2)).trans hx295_2
               replace p295 := eq_true p295
               replace q295 := eq_true q295
               have p296 : 0 ≤ (x15_3 : Int) := of_decide_eq_true (by first | (with_reducible assumption) | assumption)
               have q296 : x15_3 < (l1.length : Int) := of_decide_eq_true (by first | (with_reducible assumption) | assumption)
               obtain ⟨ad296, e296, hx296_0, hx296_1, hx296_2⟩ := at_T36 HR1.out x15_3 p296 q296
               obtain rfl : ad294 = ad296 := (by injection e296)
               replace hx296_0 := (HB.out.cell (World.block_lt_of_cell? w _ hx296_0)).trans hx296_0
               replace hx296_1 := (HB.out.cell (World.block_lt_of_cell? w _ hx296_1)).trans hx296_1
               replace hx296_2 := (HB.out.cell (World.block_lt_of_cell? w _ hx296_2)).trans hx296_2
               replace p296 := eq_true p296
               replace q296 := eq_true q296
               have p297 : 0 ≤ (x15_3 : Int) := of_decide_eq_true (by first | (with_reducible assumption) | assumption)
               have q297 : x15_3 < (l1.length : Int) := of_decide_eq_true (by first | (with_reducible assumption) | assumption)
               obtain ⟨ad297, e297, hx297_0, hx297_1, hx297_2⟩ := at_T36 HR1.out x15_3 p297 q297
               obtain rfl : ad294 = ad297 := (by injection e297)
               replace hx297_0 := (HB.out.cell (World.block_lt_of_cell? w _ hx297_0)).trans hx297_0
               replace hx297_1 := (HB.out.cell (World.block_lt_of_cell? w _ hx297_1)).trans hx297_1
               replace hx297_2 := (HB.out.cell (World.block_lt_of_cell? w _ hx297_2)).trans hx297_2
               replace p297 := eq_true p297
               replace q297 := eq_true q297
               go_wp2
               repeat (go_quiet (fail); try go_wp2)
               go_roundg kj20
               case measure => have := HJ4.out; have := HJ13.out; have := HK3.out; have := HJ20.out; omega
               case rel => exact ⟨(wrap64 (x10_3 + (wrap64 ((wrap64 (x11_3 * x12_3)) * (wrap64 (((rd_T36 l1 x15_3).f1) - x13_3)))))), (wrap64 (x11_3 + ((rd_T36 l1 x15_3).f2))), (x12_3), ((rd_T36 l1 x15_3).f1), (wrap64 (x14_3 + 1)), (wrap64 (x15_3 + 1)), (by first | rfl | (simp; done) | (simp [*]; done)), (by first | rfl | (simp; done) | (simp [*]; done)), (by first | rfl | (simp; done) | (simp [*]; done)), (by first | rfl | (simp; done) | (simp [*]; done)), (by first | rfl | (simp; done) | (simp [*]; done)), (by first | rfl | (simp; done) | (simp [*]; done)), H', ⟨by have := HJ4.out; have := HJ13.out; have := HK3.out; have := HJ20.out; omega⟩, ⟨by (with_reducible repeat (first | refine blk_drewN ?_ _ | refine blk_drew ?_ | refine blk_alloc ?_ _)); exact BK290.out⟩, ⟨by repeat (first | (with_reducible first | exact HB.out | apply below_alloc | apply pw_below_drewN | apply below_drew1 | refine below_set ?_ GE290.out) | exact HB.out)⟩⟩
              ·rw [if_neg c28] at H
               have c28b0 : (((rd_T36 l1 x15_3).f0) == 1) = false := beq_eq_false_iff_ne.mpr c28
               have c28b1 : (((rd_T36 l1 x15_3).f0) != 1) = true := bne_iff_ne.mpr c28
               by_cases c29 : ((rd_T36 l1 x15_3).f0) = 3
               ·rw [if_pos c29] at H
                have c29b0 : (((rd_T36 l1 x15_3).f0) == 3) = true := beq_iff_eq.mpr c29
                have c29b1 : (((rd_T36 l1 x15_3).f0) != 3) = false := bne_eq_false_iff_eq.mpr c29
                clear c29
                have H' := Aside0.mk H
                clear H
                have p294 : 0 ≤ (x15_3 : Int) := of_decide_eq_true (by first | (with_reducible assumption) | assumption)
                have q294 : x15_3 < (l1.length : Int) := of_decide_eq_true (by first | (with_reducible assumption) | assumption)
                obtain ⟨ad294, e294, hx294_0, hx294_1, hx294_2⟩ := at_T36 HR1.out x15_3 p294 q294
                cases e294
                replace hx294_0 := (HB.out.cell (World.block_lt_of_cell? w _ hx294_0)).trans hx294_0
                replace hx294_1 := (HB.out.cell (World.block_lt_of_cell? w _ hx294_1)).trans hx294_1
                replace hx294_2 := (HB.out.cell (World.block_lt_of_cell? w _ hx294_2)).trans hx294_2
                replace p294 := eq_true p294
                replace q294 := eq_true q294
                have p295 : 0 ≤ (x15_3 : Int) := of_decide_eq_true (by first | (with_reducible assumption) | assumption)
                have q295 : x15_3 < (l1.length : Int) := of_decide_eq_true (by first | (with_reducible assumption) | assumption)
                obtain ⟨ad295, e295, hx295_0, hx295_1, hx295_2⟩ := at_T36 HR1.out x15_3 p295 q295
                obtain rfl : ad294 = ad295 := (by injection e295)
                replace hx295_0 := (HB.out.cell (World.block_lt_of_cell? w _ hx295_0)).trans hx295_0
                replace hx295_1 := (HB.out.cell (World.block_lt_of_cell? w _ hx295_1)).trans hx295_1
                replace hx295_2 := (HB.out.cell (World.block_lt_of_cell? w _ hx295_2)).trans hx295_2
                replace p295 := eq_true p295
                replace q295 := eq_true q295
                have p296 : 0 ≤ (x15_3 : Int) := of_decide_eq_true (by first | (with_reducible assumption) | assumption)
                have q296 : x15_3 < (l1.length : Int) := of_decide_eq_true (by first | (with_reducible assumption) | assumption)
                obtain ⟨ad296, e296, hx296_0, hx296_1, hx296_2⟩ := at_T36 HR1.out x15_3 p296 q296
                obtain rfl : ad294 = ad296 := (by injection e296)
                replace hx296_0 := (HB.out.cell (World.block_lt_of_cell? w _ hx296_0)).trans hx296_0
                replace hx296_1 := (HB.out.cell (World.block_lt_of_cell? w _ hx296_1)).trans hx296_1
                replace hx296_2 := (HB.out.cell (World.block_lt_of_cell? w _ hx296_2)).trans hx296_2
                replace p296 := eq_true p296
                replace q296 := eq_true q296
                have p298 : 0 ≤ (x15_3 : Int) := of_decide_eq_true (by first | (with_reducible assumption) | assumption)
                have q298 : x15_3 < (l1.length : Int) := of_decide_eq_true (by first | (with_reducible assumption) | assumption)
                obtain ⟨ad298, e298, hx298_0, hx298_1, hx298_2⟩ := at_T36 HR1.out x15_3 p298 q298
                obtain rfl : ad294 = ad298 := (by injection e298)
                replace hx298_0 := (HB.out.cell (World.block_lt_of_cell? w _ hx298_0)).trans hx298_0
                replace hx298_1 := (HB.out.cell (World.block_lt_of_cell? w _ hx298_1)).trans hx298_1
                replace hx298_2 := (HB.out.cell (World.block_lt_of_cell? w _ hx298_2)).trans hx298_2
                replace p298 := eq_true p298
                replace q298 := eq_true q298
                go_wp2
                repeat (go_quiet (fail); try go_wp2)
                go_roundg kj20
                case measure => have := HJ4.out; have := HJ13.out; have := HK3.out; have := HJ20.out; omega
                case rel => exact ⟨(wrap64 (x10_3 + (wrap64 ((wrap64 (x11_3 * x12_3)) * (wrap64 (((rd_T36 l1 x15_3).f1) - x13_3)))))), (x11_3), ((rd_T36 l1 x15_3).f2), ((rd_T36 l1 x15_3).f1), (wrap64 (x14_3 + 1)), (wrap64 (x15_3 + 1)), (by first | rfl | (simp; done) | (simp [*]; done)), (by first | rfl | (simp; done) | (simp [*]; done)), (by first | rfl | (simp; done) | (simp [*]; done)), (by first | rfl | (simp; done) | (simp [*]; done)), (by first | rfl | (simp; done) | (simp [*]; done)), (by first | rfl | (simp; done) | (simp [*]; done)), H', ⟨by have := HJ4.out; have := HJ13.out; have := HK3.out; have := HJ20.out; omega⟩, ⟨by (with_reducible repeat (first | refine blk_drewN ?_ _ | refine blk_drew ?_ | refine blk_alloc ?_ _)); exact BK290.out⟩, ⟨by repeat (first | (with_reducible first | exact HB.out | apply below_alloc | apply pw_below_drewN | apply below_drew1 | refine below_set ?_ GE290.out) | exact HB.out)⟩⟩
               ·rw [if_neg c29] at H
                have c29b0 : (((rd_T36 l1 x15_3).f0) == 3) = false := beq_eq_false_iff_ne.mpr c29
                have c29b1 : (((rd_T36 l1 x15_3).f0) != 3) = true := bne_iff_ne.mpr c29
                have H' := Aside0.mk H
                clear H
                have p294 : 0 ≤ (x15_3 : Int) := of_decide_eq_true (by first | (with_reducible assumption) | assumption)
                have q294 : x15_3 < (l1.length : Int) := of_decide_eq_true (by first | (with_reducible assumption) | assumption)
                obtain ⟨ad294, e294, hx294_0, hx294_1, hx294_2⟩ := at_T36 HR1.out x15_3 p294 q294
                cases e294
                replace hx294_0 := (HB.out.cell (World.block_lt_of_cell? w _ hx294_0)).trans hx294_0
                replace hx294_1 := (HB.out.cell (World.block_lt_of_cell? w _ hx294_1)).trans hx294_1
                replace hx294_2 := (HB.out.cell (World.block_lt_of_cell? w _ hx294_2)).trans hx294_2
                replace p294 := eq_true p294
                replace q294 := eq_true q294
                have p295 : 0 ≤ (x15_3 : Int) := of_decide_eq_true (by first | (with_reducible assumption) | assumption)
                have q295 : x15_3 < (l1.length : Int) := of_decide_eq_true (by first | (with_reducible assumption) | assumption)
                obtain ⟨ad295, e295, hx295_0, hx295_1, hx295_2⟩ := at_T36 HR1.out x15_3 p295 q295
                obtain rfl : ad294 = ad295 := (by injection e295)
                replace hx295_0 := (HB.out.cell (World.block_lt_of_cell? w _ hx295_0)).trans hx295_0
                replace hx295_1 := (HB.out.cell (World.block_lt_of_cell? w _ hx295_1)).trans hx295_1
                replace hx295_2 := (HB.out.cell (World.block_lt_of_cell? w _ hx295_2)).trans hx295_2
                replace p295 := eq_true p295
                replace q295 := eq_true q295
                have p296 : 0 ≤ (x15_3 : Int) := of_decide_eq_true (by first | (with_reducible assumption) | assumption)
                have q296 : x15_3 < (l1.length : Int) := of_decide_eq_true (by first | (with_reducible assumption) | assumption)
                obtain ⟨ad296, e296, hx296_0, hx296_1, hx296_2⟩ := at_T36 HR1.out x15_3 p296 q296
                obtain rfl : ad294 = ad296 := (by injection e296)
                replace hx296_0 := (HB.out.cell (World.block_lt_of_cell? w _ hx296_0)).trans hx296_0
                replace hx296_1 := (HB.out.cell (World.block_lt_of_cell? w _ hx296_1)).trans hx296_1
                replace hx296_2 := (HB.out.cell (World.block_lt_of_cell? w _ hx296_2)).trans hx296_2
                replace p296 := eq_true p296
                replace q296 := eq_true q296
                go_wp2
                repeat (go_quiet (fail); try go_wp2)
                go_roundg kj20
                case measure => have := HJ4.out; have := HJ13.out; have := HK3.out; have := HJ20.out; omega
                case rel => exact ⟨(wrap64 (x10_3 + (wrap64 ((wrap64 (x11_3 * x12_3)) * (wrap64 (((rd_T36 l1 x15_3).f1) - x13_3)))))), (x11_3), (x12_3), ((rd_T36 l1 x15_3).f1), (x14_3), (wrap64 (x15_3 + 1)), (by first | rfl | (simp; done) | (simp [*]; done)), (by first | rfl | (simp; done) | (simp [*]; done)), (by first | rfl | (simp; done) | (simp [*]; done)), (by first | rfl | (simp; done) | (simp [*]; done)), (by first | rfl | (simp; done) | (simp [*]; done)), (by first | rfl | (simp; done) | (simp [*]; done)), H', ⟨by have := HJ4.out; have := HJ13.out; have := HK3.out; have := HJ20.out; omega⟩, ⟨by (with_reducible repeat (first | refine blk_drewN ?_ _ | refine blk_drew ?_ | refine blk_alloc ?_ _)); exact BK290.out⟩, ⟨by repeat (first | (with_reducible first | exact HB.out | apply below_alloc | apply pw_below_drewN | apply below_drew1 | refine below_set ?_ GE290.out) | exact HB.out)⟩⟩
             ·rw [if_neg c27] at H
              exact absurd H (by simp)
            ·rw [if_neg c26] at H
             exact absurd H (by simp)
           ·replace c25 := Bool.eq_false_iff.mpr c25
            subst c25
            have H1 : ((cohousinglaw32_on.f a2).bind fun t293 => (if t280 = true then (if (wrap64 (2 * (wrap64 ((wrap64 (t286 * 3650000)) - (wrap64 (x10_3 + (wrap64 ((wrap64 (x11_3 * x12_3)) * (wrap64 (t293 - x13_3)))))))))) ≤ (wrap64 (x14_3 * 3650000)) then (some (decide ((wrap64 ((-2) * (wrap64 ((wrap64 (t286 * 3650000)) - (wrap64 (x10_3 + (wrap64 ((wrap64 (x11_3 * x12_3)) * (wrap64 (t293 - x13_3)))))))))) ≤ (wrap64 (x14_3 * 3650000))))) else (some false)) else (some false))) = some r := by rw [if_neg (show ¬ (false = true) by decide)] at H; exact H
            clear H
            have H := H1
            clear H1
            replace H := Option.bind_eq_some_iff.mp H
            obtain ⟨t293, A300, H⟩ := H
            replace H : (if t280 = true then (if (wrap64 (2 * (wrap64 ((wrap64 (t286 * 3650000)) - (wrap64 (x10_3 + (wrap64 ((wrap64 (x11_3 * x12_3)) * (wrap64 (t293 - x13_3)))))))))) ≤ (wrap64 (x14_3 * 3650000)) then (some (decide ((wrap64 ((-2) * (wrap64 ((wrap64 (t286 * 3650000)) - (wrap64 (x10_3 + (wrap64 ((wrap64 (x11_3 * x12_3)) * (wrap64 (t293 - x13_3)))))))))) ≤ (wrap64 (x14_3 * 3650000))))) else (some false)) else (some false)) = some r := H
            have A30 := Aside0.mk A300
            clear A300
            by_cases c31 : t280 = true
            ·subst c31
             have H1 : (if (wrap64 (2 * (wrap64 ((wrap64 (t286 * 3650000)) - (wrap64 (x10_3 + (wrap64 ((wrap64 (x11_3 * x12_3)) * (wrap64 (t293 - x13_3)))))))))) ≤ (wrap64 (x14_3 * 3650000)) then (some (decide ((wrap64 ((-2) * (wrap64 ((wrap64 (t286 * 3650000)) - (wrap64 (x10_3 + (wrap64 ((wrap64 (x11_3 * x12_3)) * (wrap64 (t293 - x13_3)))))))))) ≤ (wrap64 (x14_3 * 3650000))))) else (some false)) = some r := by rw [if_pos rfl] at H; exact H
             clear H
             have H := H1
             clear H1
             by_cases c32 : (wrap64 (2 * (wrap64 ((wrap64 (t286 * 3650000)) - (wrap64 (x10_3 + (wrap64 ((wrap64 (x11_3 * x12_3)) * (wrap64 (t293 - x13_3)))))))))) ≤ (wrap64 (x14_3 * 3650000))
             ·rw [if_pos c32] at H
              have c32b0 : decide ((wrap64 (2 * (wrap64 ((wrap64 (t286 * 3650000)) - (wrap64 (x10_3 + (wrap64 ((wrap64 (x11_3 * x12_3)) * (wrap64 (t293 - x13_3)))))))))) ≤ (wrap64 (x14_3 * 3650000))) = true := decide_eq_true c32
              clear c32
              obtain rfl := Option.some.inj H
              go_wp2_with (first | (go_at_call 20; (with_reducible refine (cohousinglaw32_on.calls a2 t293 _ A30.out).mono ?_); rintro e w' ⟨rfl, ⟨nd, rfl⟩⟩; (try first | exact ⟨rfl, _, World.drewN_drewN _ _ _⟩ | exact ⟨rfl, _, Eq.trans (World.drewN_drewN _ _ _) (congrArg (World.drewN _) (Nat.add_assoc _ _ _))⟩); have hcz33_0 : wc.cell? ⟨gb290, 0, none⟩ = some (.int .i64 t284) := (blk_cell BK290.out 0).trans rfl; have hcz33_1 : wc.cell? ⟨gb290, 1, none⟩ = some (.int .i64 t285) := (blk_cell BK290.out 1).trans rfl; have hcz33_2 : wc.cell? ⟨gb290, 2, none⟩ = some (.int .i64 t286) := (blk_cell BK290.out 2).trans rfl; have hcz33_3 : wc.cell? ⟨gb290, 3, none⟩ = some (.int .i64 t287) := (blk_cell BK290.out 3).trans rfl; have hcz33_4 : wc.cell? ⟨gb290, 4, none⟩ = some (.int .i64 t288) := (blk_cell BK290.out 4).trans rfl; have hfz33_0 := blk_frozen BK290.out 0; have hfz33_1 := blk_frozen BK290.out 1; have hfz33_2 := blk_frozen BK290.out 2; have hfz33_3 := blk_frozen BK290.out 3; have hfz33_4 := blk_frozen BK290.out 4))
              repeat (go_quiet (first | (go_at_call 20; (with_reducible refine (cohousinglaw32_on.calls a2 t293 _ A30.out).mono ?_); rintro e w' ⟨rfl, ⟨nd, rfl⟩⟩; (try first | exact ⟨rfl, _, World.drewN_drewN _ _ _⟩ | exact ⟨rfl, _, Eq.trans (World.drewN_drewN _ _ _) (congrArg (World.drewN _) (Nat.add_assoc _ _ _))⟩); have hcz33_0 : wc.cell? ⟨gb290, 0, none⟩ = some (.int .i64 t284) := (blk_cell BK290.out 0).trans rfl; have hcz33_1 : wc.cell? ⟨gb290, 1, none⟩ = some (.int .i64 t285) := (blk_cell BK290.out 1).trans rfl; have hcz33_2 : wc.cell? ⟨gb290, 2, none⟩ = some (.int .i64 t286) := (blk_cell BK290.out 2).trans rfl; have hcz33_3 : wc.cell? ⟨gb290, 3, none⟩ = some (.int .i64 t287) := (blk_cell BK290.out 3).trans rfl; have hcz33_4 : wc.cell? ⟨gb290, 4, none⟩ = some (.int .i64 t288) := (blk_cell BK290.out 4).trans rfl; have hfz33_0 := blk_frozen BK290.out 0; have hfz33_1 := blk_frozen BK290.out 1; have hfz33_2 := blk_frozen BK290.out 2; have hfz33_3 := blk_frozen BK290.out 3; have hfz33_4 := blk_frozen BK290.out 4)); try go_wp2_with (first | (go_at_call 20; (with_reducible refine (cohousinglaw32_on.calls a2 t293 _ A30.out).mono ?_); rintro e w' ⟨rfl, ⟨nd, rfl⟩⟩; (try first | exact ⟨rfl, _, World.drewN_drewN _ _ _⟩ | exact ⟨rfl, _, Eq.trans (World.drewN_drewN _ _ _) (congrArg (World.drewN _) (Nat.add_assoc _ _ _))⟩); have hcz33_0 : wc.cell? ⟨gb290, 0, none⟩ = some (.int .i64 t284) := (blk_cell BK290.out 0).trans rfl; have hcz33_1 : wc.cell? ⟨gb290, 1, none⟩ = some (.int .i64 t285) := (blk_cell BK290.out 1).trans rfl; have hcz33_2 : wc.cell? ⟨gb290, 2, none⟩ = some (.int .i64 t286) := (blk_cell BK290.out 2).trans rfl; have hcz33_3 : wc.cell? ⟨gb290, 3, none⟩ = some (.int .i64 t287) := (blk_cell BK290.out 3).trans rfl; have hcz33_4 : wc.cell? ⟨gb290, 4, none⟩ = some (.int .i64 t288) := (blk_cell BK290.out 4).trans rfl; have hfz33_0 := blk_frozen BK290.out 0; have hfz33_1 := blk_frozen BK290.out 1; have hfz33_2 := blk_frozen BK290.out 2; have hfz33_3 := blk_frozen BK290.out 3; have hfz33_4 := blk_frozen BK290.out 4)))
              go_ret
              exact ⟨by first | rfl | (simp [errW_none, errW_some] <;> rfl) | (simp [*, errW_none, errW_some] <;> rfl), by repeat (first | (with_reducible first | exact HB.out | apply below_alloc | apply pw_below_drewN | apply below_drew1 | refine below_set ?_ GE290.out) | exact HB.out)⟩
             ·rw [if_neg c32] at H
              have c32b0 : decide ((wrap64 (2 * (wrap64 ((wrap64 (t286 * 3650000)) - (wrap64 (x10_3 + (wrap64 ((wrap64 (x11_3 * x12_3)) * (wrap64 (t293 - x13_3)))))))))) ≤ (wrap64 (x14_3 * 3650000))) = false := decide_eq_false c32
              clear c32
              obtain rfl := Option.some.inj H
              go_wp2_with (first | (go_at_call 20; (with_reducible refine (cohousinglaw32_on.calls a2 t293 _ A30.out).mono ?_); rintro e w' ⟨rfl, ⟨nd, rfl⟩⟩; (try first | exact ⟨rfl, _, World.drewN_drewN _ _ _⟩ | exact ⟨rfl, _, Eq.trans (World.drewN_drewN _ _ _) (congrArg (World.drewN _) (Nat.add_assoc _ _ _))⟩); have hcz34_0 : wc.cell? ⟨gb290, 0, none⟩ = some (.int .i64 t284) := (blk_cell BK290.out 0).trans rfl; have hcz34_1 : wc.cell? ⟨gb290, 1, none⟩ = some (.int .i64 t285) := (blk_cell BK290.out 1).trans rfl; have hcz34_2 : wc.cell? ⟨gb290, 2, none⟩ = some (.int .i64 t286) := (blk_cell BK290.out 2).trans rfl; have hcz34_3 : wc.cell? ⟨gb290, 3, none⟩ = some (.int .i64 t287) := (blk_cell BK290.out 3).trans rfl; have hcz34_4 : wc.cell? ⟨gb290, 4, none⟩ = some (.int .i64 t288) := (blk_cell BK290.out 4).trans rfl; have hfz34_0 := blk_frozen BK290.out 0; have hfz34_1 := blk_frozen BK290.out 1; have hfz34_2 := blk_frozen BK290.out 2; have hfz34_3 := blk_frozen BK290.out 3; have hfz34_4 := blk_frozen BK290.out 4))
              repeat (go_quiet (first | (go_at_call 20; (with_reducible refine (cohousinglaw32_on.calls a2 t293 _ A30.out).mono ?_); rintro e w' ⟨rfl, ⟨nd, rfl⟩⟩; (try first | exact ⟨rfl, _, World.drewN_drewN _ _ _⟩ | exact ⟨rfl, _, Eq.trans (World.drewN_drewN _ _ _) (congrArg (World.drewN _) (Nat.add_assoc _ _ _))⟩); have hcz34_0 : wc.cell? ⟨gb290, 0, none⟩ = some (.int .i64 t284) := (blk_cell BK290.out 0).trans rfl; have hcz34_1 : wc.cell? ⟨gb290, 1, none⟩ = some (.int .i64 t285) := (blk_cell BK290.out 1).trans rfl; have hcz34_2 : wc.cell? ⟨gb290, 2, none⟩ = some (.int .i64 t286) := (blk_cell BK290.out 2).trans rfl; have hcz34_3 : wc.cell? ⟨gb290, 3, none⟩ = some (.int .i64 t287) := (blk_cell BK290.out 3).trans rfl; have hcz34_4 : wc.cell? ⟨gb290, 4, none⟩ = some (.int .i64 t288) := (blk_cell BK290.out 4).trans rfl; have hfz34_0 := blk_frozen BK290.out 0; have hfz34_1 := blk_frozen BK290.out 1; have hfz34_2 := blk_frozen BK290.out 2; have hfz34_3 := blk_frozen BK290.out 3; have hfz34_4 := blk_frozen BK290.out 4)); try go_wp2_with (first | (go_at_call 20; (with_reducible refine (cohousinglaw32_on.calls a2 t293 _ A30.out).mono ?_); rintro e w' ⟨rfl, ⟨nd, rfl⟩⟩; (try first | exact ⟨rfl, _, World.drewN_drewN _ _ _⟩ | exact ⟨rfl, _, Eq.trans (World.drewN_drewN _ _ _) (congrArg (World.drewN _) (Nat.add_assoc _ _ _))⟩); have hcz34_0 : wc.cell? ⟨gb290, 0, none⟩ = some (.int .i64 t284) := (blk_cell BK290.out 0).trans rfl; have hcz34_1 : wc.cell? ⟨gb290, 1, none⟩ = some (.int .i64 t285) := (blk_cell BK290.out 1).trans rfl; have hcz34_2 : wc.cell? ⟨gb290, 2, none⟩ = some (.int .i64 t286) := (blk_cell BK290.out 2).trans rfl; have hcz34_3 : wc.cell? ⟨gb290, 3, none⟩ = some (.int .i64 t287) := (blk_cell BK290.out 3).trans rfl; have hcz34_4 : wc.cell? ⟨gb290, 4, none⟩ = some (.int .i64 t288) := (blk_cell BK290.out 4).trans rfl; have hfz34_0 := blk_frozen BK290.out 0; have hfz34_1 := blk_frozen BK290.out 1; have hfz34_2 := blk_frozen BK290.out 2; have hfz34_3 := blk_frozen BK290.out 3; have hfz34_4 := blk_frozen BK290.out 4)))
              go_ret
              exact ⟨by first | rfl | (simp [errW_none, errW_some] <;> rfl) | (simp [*, errW_none, errW_some] <;> rfl), by repeat (first | (with_reducible first | exact HB.out | apply below_alloc | apply pw_below_drewN | apply below_drew1 | refine below_set ?_ GE290.out) | exact HB.out)⟩
            ·replace c31 := Bool.eq_false_iff.mpr c31
             subst c31
             have H1 : (some false) = some r := by rw [if_neg (show ¬ (false = true) by decide)] at H; exact H
             clear H
             have H := H1
             clear H1
             obtain rfl := Option.some.inj H
             go_wp2_with (first | (go_at_call 20; (with_reducible refine (cohousinglaw32_on.calls a2 t293 _ A30.out).mono ?_); rintro e w' ⟨rfl, ⟨nd, rfl⟩⟩; (try first | exact ⟨rfl, _, World.drewN_drewN _ _ _⟩ | exact ⟨rfl, _, Eq.trans (World.drewN_drewN _ _ _) (congrArg (World.drewN _) (Nat.add_assoc _ _ _))⟩); have hcz35_0 : wc.cell? ⟨gb290, 0, none⟩ = some (.int .i64 t284) := (blk_cell BK290.out 0).trans rfl; have hcz35_1 : wc.cell? ⟨gb290, 1, none⟩ = some (.int .i64 t285) := (blk_cell BK290.out 1).trans rfl; have hcz35_2 : wc.cell? ⟨gb290, 2, none⟩ = some (.int .i64 t286) := (blk_cell BK290.out 2).trans rfl; have hcz35_3 : wc.cell? ⟨gb290, 3, none⟩ = some (.int .i64 t287) := (blk_cell BK290.out 3).trans rfl; have hcz35_4 : wc.cell? ⟨gb290, 4, none⟩ = some (.int .i64 t288) := (blk_cell BK290.out 4).trans rfl; have hfz35_0 := blk_frozen BK290.out 0; have hfz35_1 := blk_frozen BK290.out 1; have hfz35_2 := blk_frozen BK290.out 2; have hfz35_3 := blk_frozen BK290.out 3; have hfz35_4 := blk_frozen BK290.out 4))
             repeat (go_quiet (first | (go_at_call 20; (with_reducible refine (cohousinglaw32_on.calls a2 t293 _ A30.out).mono ?_); rintro e w' ⟨rfl, ⟨nd, rfl⟩⟩; (try first | exact ⟨rfl, _, World.drewN_drewN _ _ _⟩ | exact ⟨rfl, _, Eq.trans (World.drewN_drewN _ _ _) (congrArg (World.drewN _) (Nat.add_assoc _ _ _))⟩); have hcz35_0 : wc.cell? ⟨gb290, 0, none⟩ = some (.int .i64 t284) := (blk_cell BK290.out 0).trans rfl; have hcz35_1 : wc.cell? ⟨gb290, 1, none⟩ = some (.int .i64 t285) := (blk_cell BK290.out 1).trans rfl; have hcz35_2 : wc.cell? ⟨gb290, 2, none⟩ = some (.int .i64 t286) := (blk_cell BK290.out 2).trans rfl; have hcz35_3 : wc.cell? ⟨gb290, 3, none⟩ = some (.int .i64 t287) := (blk_cell BK290.out 3).trans rfl; have hcz35_4 : wc.cell? ⟨gb290, 4, none⟩ = some (.int .i64 t288) := (blk_cell BK290.out 4).trans rfl; have hfz35_0 := blk_frozen BK290.out 0; have hfz35_1 := blk_frozen BK290.out 1; have hfz35_2 := blk_frozen BK290.out 2; have hfz35_3 := blk_frozen BK290.out 3; have hfz35_4 := blk_frozen BK290.out 4)); try go_wp2_with (first | (go_at_call 20; (with_reducible refine (cohousinglaw32_on.calls a2 t293 _ A30.out).mono ?_); rintro e w' ⟨rfl, ⟨nd, rfl⟩⟩; (try first | exact ⟨rfl, _, World.drewN_drewN _ _ _⟩ | exact ⟨rfl, _, Eq.trans (World.drewN_drewN _ _ _) (congrArg (World.drewN _) (Nat.add_assoc _ _ _))⟩); have hcz35_0 : wc.cell? ⟨gb290, 0, none⟩ = some (.int .i64 t284) := (blk_cell BK290.out 0).trans rfl; have hcz35_1 : wc.cell? ⟨gb290, 1, none⟩ = some (.int .i64 t285) := (blk_cell BK290.out 1).trans rfl; have hcz35_2 : wc.cell? ⟨gb290, 2, none⟩ = some (.int .i64 t286) := (blk_cell BK290.out 2).trans rfl; have hcz35_3 : wc.cell? ⟨gb290, 3, none⟩ = some (.int .i64 t287) := (blk_cell BK290.out 3).trans rfl; have hcz35_4 : wc.cell? ⟨gb290, 4, none⟩ = some (.int .i64 t288) := (blk_cell BK290.out 4).trans rfl; have hfz35_0 := blk_frozen BK290.out 0; have hfz35_1 := blk_frozen BK290.out 1; have hfz35_2 := blk_frozen BK290.out 2; have hfz35_3 := blk_frozen BK290.out 3; have hfz35_4 := blk_frozen BK290.out 4)))
             go_ret
             exact ⟨by first | rfl | (simp [errW_none, errW_some] <;> rfl) | (simp [*, errW_none, errW_some] <;> rfl), by repeat (first | (with_reducible first | exact HB.out | apply below_alloc | apply pw_below_drewN | apply below_drew1 | refine below_set ?_ GE290.out) | exact HB.out)⟩

end Go.Proofs.YtdhnojfpgpjabaaDoor.P
