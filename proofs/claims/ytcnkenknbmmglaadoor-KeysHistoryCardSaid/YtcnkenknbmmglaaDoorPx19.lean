-- Written by a program of this session out of the translation (wip/pp: the kit's print, turned). Not trusted: Lean checks it.
import Derived.Test.YtcnkenknbmmglaaDoorPx0
import Derived.Test.YtcnkenknbmmglaaDoorPx7
import Derived.Test.YtcnkenknbmmglaaDoorPx8
import Derived.Test.YtcnkenknbmmglaaDoorPx17
import Derived.Test.YtcnkenknbmmglaaDoorXhead20
import Derived.Test.YtcnkenknbmmglaaDoorXrenew
namespace Go.Proofs.YtcnkenknbmmglaaDoor.P
open Go.RowKit Go.Proofs.YtcnkenknbmmglaaDoorW.PrintWords Go.Proofs.YtcnkenknbmmglaaDoorW.PrintLast Go.Proofs.YtcnkenknbmmglaaDoorW.PrintMore
attribute [local go_sem] max2_int min2_int max_two min_two max_three min_three max_four min_four   -- for this text's walks alone
set_option linter.unusedVariables false
set_option linter.unusedSimpArgs false

/-! ### cohousinglaw20_KeysHistory: function 4 -/
mutual
def cohousinglaw20_KeysHistory.j0 : Nat → List (S49) → List (S28) → Int → Int → Bool → List (S49) → Bool → Option (Bool)
 | 0, _, _, _, _, _, _, _ => none
 | k + 1, x0, x3, x4, x5, x13, x14, x62 => if x62 = true then (some false) else ((keys_Of.f k x0 (wrap64 (1 + (Int.tmod (wrap64 (x4)) 64))) (Int.tmod (wrap64 (x5)) 36525)).bind fun bt410 => ((keys_Of.f k x14 (wrap64 (1 + (Int.tmod (wrap64 (x4)) 64))) (Int.tmod (wrap64 (x5)) 36525)).bind fun bt413 => (if bt410.2.2 = 0 then (cohousinglaw20_KeysHistory.j1 k x3 x13 (wrap64 (1 + (Int.tmod (wrap64 (x4)) 64))) (Int.tmod (wrap64 (x5)) 36525) bt410.1 bt410.2.1 bt413.1 bt413.2.1 (bt413.2.2 != 0)) else (cohousinglaw20_KeysHistory.j1 k x3 x13 (wrap64 (1 + (Int.tmod (wrap64 (x4)) 64))) (Int.tmod (wrap64 (x5)) 36525) bt410.1 bt410.2.1 bt413.1 bt413.2.1 true))))
def cohousinglaw20_KeysHistory.j1 : Nat → List (S28) → Bool → Int → Int → Int → Bool → Int → Bool → Bool → Option (Bool)
 | 0, _, _, _, _, _, _, _, _, _ => none
 | k + 1, x3, x13, x16, x17, x18, x19, x21, x22, x91 => if x91 = true then (some false) else (if 0 < (x3.length : Int) then (if x16 = ((rd_T28 x3 0).f0) then (if x17 ≥ ((rd_T28 x3 0).f2) then (if x13 = true then (if x22 = true then (some (x21 == ((rd_T28 x3 0).f1))) else (some false)) else (some false)) else (if x13 = true then (if x18 = x21 then (some (x19 == x22)) else (some false)) else (some false))) else (if x13 = true then (if x18 = x21 then (some (x19 == x22)) else (some false)) else (some false))) else (none))
end
def cohousinglaw20_KeysHistory.f (k : Nat) (l0 : List (S49)) (l1 : List Int) (a2 : Int) (l3 : List (S28)) (a4 : Int) (a5 : Int) : Option (Bool) := (cohousinglaw20_head.f).bind fun t403 => ((cohousinglaw20_few.f l0 l1 l3).bind fun t404 => (if t404 = true then ((keys_Renew.f l0 l1 a2 l3).bind fun bt405 => (if bt405.2 = 0 then (if (l3.length : Int) = 0 then (cohousinglaw20_KeysHistory.j0 k l0 l3 a4 a5 t403 bt405.1 true) else ((keys_Valid.f k bt405.1).bind fun t409 => (if t409 = true then (cohousinglaw20_KeysHistory.j0 k l0 l3 a4 a5 t403 bt405.1 ((bt405.1.length : Int) != (wrap64 ((l0.length : Int) + 1)))) else (cohousinglaw20_KeysHistory.j0 k l0 l3 a4 a5 t403 bt405.1 true)))) else (if t403 = true then (some ((bt405.1.length : Int) == 0)) else (some false)))) else (some t403)))
theorem cohousinglaw20_KeysHistory.mono_l : ∀ k, (∀ y0 y1 y2 y3 y4 y5 y6, LeO (cohousinglaw20_KeysHistory.j0 k y0 y1 y2 y3 y4 y5 y6) (cohousinglaw20_KeysHistory.j0 (k + 1) y0 y1 y2 y3 y4 y5 y6)) ∧ (∀ y0 y1 y2 y3 y4 y5 y6 y7 y8, LeO (cohousinglaw20_KeysHistory.j1 k y0 y1 y2 y3 y4 y5 y6 y7 y8) (cohousinglaw20_KeysHistory.j1 (k + 1) y0 y1 y2 y3 y4 y5 y6 y7 y8))
 | 0 => ⟨fun _ _ _ _ _ _ _ r h => by simp [cohousinglaw20_KeysHistory.j0] at h, fun _ _ _ _ _ _ _ _ _ r h => by simp [cohousinglaw20_KeysHistory.j1] at h⟩
 | k + 1 => by
  obtain ⟨ih0, ih1⟩ := cohousinglaw20_KeysHistory.mono_l k
  refine ⟨?_, ?_⟩
  ·intro y0 y1 y2 y3 y4 y5 y6
   unfold cohousinglaw20_KeysHistory.j0
   repeat' first
   | (with_reducible exact ih0 _ _ _ _ _ _ _)
   | (with_reducible exact ih1 _ _ _ _ _ _ _ _ _)
   | (with_reducible exact keys_Of.mono _ _ _ _)
   | (with_reducible exact keys_Valid.mono _ _)
   | (with_reducible exact LeO.refl _)
   | (with_reducible exact LeO.none _)
   | (with_reducible refine LeO.ite ?_ ?_)
   | (with_reducible refine LeO.bind ?_ (fun _ => ?_))
   | exact ih0 _ _ _ _ _ _ _
   | exact ih1 _ _ _ _ _ _ _ _ _
   | exact keys_Of.mono _ _ _ _
   | exact keys_Valid.mono _ _
   | exact LeO.none _
   | refine LeO.ite ?_ ?_
   | refine LeO.bind ?_ (fun _ => ?_)
  ·intro y0 y1 y2 y3 y4 y5 y6 y7 y8
   unfold cohousinglaw20_KeysHistory.j1
   repeat' first
   | (with_reducible exact ih0 _ _ _ _ _ _ _)
   | (with_reducible exact ih1 _ _ _ _ _ _ _ _ _)
   | (with_reducible exact keys_Of.mono _ _ _ _)
   | (with_reducible exact keys_Valid.mono _ _)
   | (with_reducible exact LeO.refl _)
   | (with_reducible exact LeO.none _)
   | (with_reducible refine LeO.ite ?_ ?_)
   | (with_reducible refine LeO.bind ?_ (fun _ => ?_))
   | exact ih0 _ _ _ _ _ _ _
   | exact ih1 _ _ _ _ _ _ _ _ _
   | exact keys_Of.mono _ _ _ _
   | exact keys_Valid.mono _ _
   | exact LeO.none _
   | refine LeO.ite ?_ ?_
   | refine LeO.bind ?_ (fun _ => ?_)
theorem cohousinglaw20_KeysHistory.mono : ∀ a0 a1 a2 a3 a4 a5 k, LeO (cohousinglaw20_KeysHistory.f k a0 a1 a2 a3 a4 a5) (cohousinglaw20_KeysHistory.f (k + 1) a0 a1 a2 a3 a4 a5) := by
 intro a0 a1 a2 a3 a4 a5 k
 obtain ⟨ih0, ih1⟩ := cohousinglaw20_KeysHistory.mono_l k
 unfold cohousinglaw20_KeysHistory.f
 repeat' first
   | (with_reducible exact ih0 _ _ _ _ _ _ _)
   | (with_reducible exact ih1 _ _ _ _ _ _ _ _ _)
   | (with_reducible exact keys_Of.mono _ _ _ _)
   | (with_reducible exact keys_Valid.mono _ _)
   | (with_reducible exact LeO.refl _)
   | (with_reducible exact LeO.none _)
   | (with_reducible refine LeO.ite ?_ ?_)
   | (with_reducible refine LeO.bind ?_ (fun _ => ?_))
   | exact ih0 _ _ _ _ _ _ _
   | exact ih1 _ _ _ _ _ _ _ _ _
   | exact keys_Of.mono _ _ _ _
   | exact keys_Valid.mono _ _
   | exact LeO.none _
   | refine LeO.ite ?_ ?_
   | refine LeO.bind ?_ (fun _ => ?_)
set_option maxHeartbeats 8000000 in
set_option maxRecDepth 100000 in
theorem cohousinglaw20_KeysHistory.calls (k : Nat) (A0 : Option Addr) (c0 : Nat) (l0 : List (S49)) (A1 : Option Addr) (c1 : Nat) (l1 : List Int) (a2 : Int) (A3 : Option Addr) (c3 : Nat) (l3 : List (S28)) (a4 : Int) (a5 : Int) (r : Bool) (w : World) (hr0 : Kd.C k49 w A0 l0.length l0) (hc0 : l0.length ≤ c0) (hr1 : Kd.C (Kd.int .i64) w A1 l1.length l1) (hc1 : l1.length ≤ c1) (hr3 : Kd.C k28 w A3 l3.length l3) (hc3 : l3.length ≤ c3) (hT : TabOk w) (h : cohousinglaw20_KeysHistory.f k l0 l1 a2 l3 a4 a5 = some r) :
  Calls Tryd.prog 4 #[.slice A0 l0.length c0, .slice A1 l1.length c1, .int .i64 a2, .slice A3 l3.length c3, .int .u8 a4, .int .u16 a5] w fun e w' => e = .returned (.bool r) ∧ Below w.heap.size w w' := by
 have HR0 := Aside0.mk hr0
 have HC0 := Aside0.mk hc0
 clear hr0 hc0
 have HR1 := Aside0.mk hr1
 have HC1 := Aside0.mk hc1
 clear hr1 hc1
 have HR3 := Aside0.mk hr3
 have HC3 := Aside0.mk hc3
 clear hr3 hc3
 have HT := Aside0.mk hT
 clear hT
 have HB := Aside0.mk (Below.refl w.heap.size w)
 have H : ((cohousinglaw20_head.f).bind fun t403 => ((cohousinglaw20_few.f l0 l1 l3).bind fun t404 => (if t404 = true then ((keys_Renew.f l0 l1 a2 l3).bind fun bt405 => (if bt405.2 = 0 then (if (l3.length : Int) = 0 then (cohousinglaw20_KeysHistory.j0 k l0 l3 a4 a5 t403 bt405.1 true) else ((keys_Valid.f k bt405.1).bind fun t409 => (if t409 = true then (cohousinglaw20_KeysHistory.j0 k l0 l3 a4 a5 t403 bt405.1 ((bt405.1.length : Int) != (wrap64 ((l0.length : Int) + 1)))) else (cohousinglaw20_KeysHistory.j0 k l0 l3 a4 a5 t403 bt405.1 true)))) else (if t403 = true then (some ((bt405.1.length : Int) == 0)) else (some false)))) else (some t403)))) = some r := h
 clear h
 replace H := Option.bind_eq_some_iff.mp H
 obtain ⟨t403, A70, H⟩ := H
 replace H : ((cohousinglaw20_few.f l0 l1 l3).bind fun t404 => (if t404 = true then ((keys_Renew.f l0 l1 a2 l3).bind fun bt405 => (if bt405.2 = 0 then (if (l3.length : Int) = 0 then (cohousinglaw20_KeysHistory.j0 k l0 l3 a4 a5 t403 bt405.1 true) else ((keys_Valid.f k bt405.1).bind fun t409 => (if t409 = true then (cohousinglaw20_KeysHistory.j0 k l0 l3 a4 a5 t403 bt405.1 ((bt405.1.length : Int) != (wrap64 ((l0.length : Int) + 1)))) else (cohousinglaw20_KeysHistory.j0 k l0 l3 a4 a5 t403 bt405.1 true)))) else (if t403 = true then (some ((bt405.1.length : Int) == 0)) else (some false)))) else (some t403))) = some r := H
 have A7 := Aside0.mk A70
 clear A70
 replace H := Option.bind_eq_some_iff.mp H
 obtain ⟨t404, A80, H⟩ := H
 replace H : (if t404 = true then ((keys_Renew.f l0 l1 a2 l3).bind fun bt405 => (if bt405.2 = 0 then (if (l3.length : Int) = 0 then (cohousinglaw20_KeysHistory.j0 k l0 l3 a4 a5 t403 bt405.1 true) else ((keys_Valid.f k bt405.1).bind fun t409 => (if t409 = true then (cohousinglaw20_KeysHistory.j0 k l0 l3 a4 a5 t403 bt405.1 ((bt405.1.length : Int) != (wrap64 ((l0.length : Int) + 1)))) else (cohousinglaw20_KeysHistory.j0 k l0 l3 a4 a5 t403 bt405.1 true)))) else (if t403 = true then (some ((bt405.1.length : Int) == 0)) else (some false)))) else (some t403)) = some r := H
 have A8 := Aside0.mk A80
 clear A80
 by_cases c9 : t404 = true
 ·subst c9
  have H1 : ((keys_Renew.f l0 l1 a2 l3).bind fun bt405 => (if bt405.2 = 0 then (if (l3.length : Int) = 0 then (cohousinglaw20_KeysHistory.j0 k l0 l3 a4 a5 t403 bt405.1 true) else ((keys_Valid.f k bt405.1).bind fun t409 => (if t409 = true then (cohousinglaw20_KeysHistory.j0 k l0 l3 a4 a5 t403 bt405.1 ((bt405.1.length : Int) != (wrap64 ((l0.length : Int) + 1)))) else (cohousinglaw20_KeysHistory.j0 k l0 l3 a4 a5 t403 bt405.1 true)))) else (if t403 = true then (some ((bt405.1.length : Int) == 0)) else (some false)))) = some r := by rw [if_pos rfl] at H; exact H
  clear H
  have H := H1
  clear H1
  replace H := Option.bind_eq_some_iff.mp H
  obtain ⟨⟨t405, t406⟩, A100, H⟩ := H
  replace H : (if t406 = 0 then (if (l3.length : Int) = 0 then (cohousinglaw20_KeysHistory.j0 k l0 l3 a4 a5 t403 t405 true) else ((keys_Valid.f k t405).bind fun t409 => (if t409 = true then (cohousinglaw20_KeysHistory.j0 k l0 l3 a4 a5 t403 t405 ((t405.length : Int) != (wrap64 ((l0.length : Int) + 1)))) else (cohousinglaw20_KeysHistory.j0 k l0 l3 a4 a5 t403 t405 true)))) else (if t403 = true then (some ((t405.length : Int) == 0)) else (some false))) = some r := H
  have A10 := Aside0.mk A100
  clear A100
  by_cases c11 : t406 = 0
  ·rw [if_pos c11] at H
   have c11b0 : (t406 == 0) = true := beq_iff_eq.mpr c11
   have c11b1 : (t406 != 0) = false := bne_eq_false_iff_eq.mpr c11
   clear c11
   have HC12 := Aside0.mk H
   clear H
   go_enter Tryd.func4, Tryd.ntmps4
   go_upto_region 7 with (first | ((with_reducible refine gate_callee (f := 8) rfl ?_); refine goesL_ (some 24) rfl rfl Tryd.func8 (by kernel_rfl) rfl #[] rfl (by (try simp only [List.map_toArray, List.map_cons, List.map_nil]); first | done | rfl | (simp only [List.length_drop, List.length_take]; rfl)) ?_; (with_reducible refine (cohousinglaw20_head.calls  t403 _ ?side1 A7.out).mono ?_); (case side1 => exact TabOk.below HT.out (by repeat (first | (with_reducible first | exact HB.out | apply below_alloc | apply pw_below_drewN | apply below_drew1) | exact HB.out))); rintro e w13 ⟨rfl, hb⟩; refine ⟨_, rfl, ?_⟩; have n0_ := Aside0.mk (below_step (by repeat (first | (with_reducible first | exact HB.out | apply below_alloc | apply pw_below_drewN | apply below_drew1) | exact HB.out)) hb); clear HB; have HB := n0_; clear n0_; (try clear hb); (try clear hb2); (try clear hk); (try clear hi)) | ((with_reducible refine gate_callee (f := 9) rfl ?_); refine goesL_ (some 28) rfl rfl Tryd.func9 (by kernel_rfl) rfl #[.slice A0 l0.length c0, .slice A1 l1.length c1, .slice A3 l3.length c3] rfl (by (try simp only [List.map_toArray, List.map_cons, List.map_nil]); first | done | rfl | (simp only [List.length_drop, List.length_take]; rfl)) ?_; (with_reducible refine (cohousinglaw20_few.calls _ _ l0 _ _ l1 _ _ l3 true _ ?side1 ?side2 ?side3 ?side4 ?side5 ?side6 A8.out).mono ?_); (case side1 => repeat (first | exact (Kd.C_below HR0.out HB.out) | (with_reducible refine Kd.C_alloc ?_ _) | (with_reducible refine Kd.C_drewN ?_ _) | (with_reducible refine Kd.C_drew ?_))); (case side2 => exact HC0.out); (case side3 => repeat (first | exact (Kd.C_below HR1.out HB.out) | (with_reducible refine Kd.C_alloc ?_ _) | (with_reducible refine Kd.C_drewN ?_ _) | (with_reducible refine Kd.C_drew ?_))); (case side4 => exact HC1.out); (case side5 => repeat (first | exact (Kd.C_below HR3.out HB.out) | (with_reducible refine Kd.C_alloc ?_ _) | (with_reducible refine Kd.C_drewN ?_ _) | (with_reducible refine Kd.C_drew ?_))); (case side6 => exact HC3.out); rintro e w' ⟨rfl, ⟨nd, rfl⟩⟩; refine ⟨_, rfl, ?_⟩) | ((with_reducible refine gate_callee (f := 16) rfl ?_); refine goesL_ (some 36) rfl rfl Tryd.func16 (by kernel_rfl) rfl #[.slice A0 l0.length c0, .slice A1 l1.length c1, .int .i64 a2, .slice A3 l3.length c3] rfl (by (try simp only [List.map_toArray, List.map_cons, List.map_nil]); first | done | rfl | (simp only [List.length_drop, List.length_take]; rfl)) ?_; (with_reducible refine (keys_Renew.calls _ _ l0 _ _ l1 a2 _ _ l3 t405 t406 _ ?side1 ?side2 ?side3 ?side4 ?side5 ?side6 ?side7 A10.out).mono ?_); (case side1 => repeat (first | exact (Kd.C_below HR0.out (by repeat (first | (with_reducible first | exact HB.out | apply below_alloc | apply pw_below_drewN | apply below_drew1) | exact HB.out))) | (with_reducible refine Kd.C_alloc ?_ _) | (with_reducible refine Kd.C_drewN ?_ _) | (with_reducible refine Kd.C_drew ?_))); (case side2 => exact HC0.out); (case side3 => repeat (first | exact (Kd.C_below HR1.out (by repeat (first | (with_reducible first | exact HB.out | apply below_alloc | apply pw_below_drewN | apply below_drew1) | exact HB.out))) | (with_reducible refine Kd.C_alloc ?_ _) | (with_reducible refine Kd.C_drewN ?_ _) | (with_reducible refine Kd.C_drew ?_))); (case side4 => exact HC1.out); (case side5 => repeat (first | exact (Kd.C_below HR3.out (by repeat (first | (with_reducible first | exact HB.out | apply below_alloc | apply pw_below_drewN | apply below_drew1) | exact HB.out))) | (with_reducible refine Kd.C_alloc ?_ _) | (with_reducible refine Kd.C_drewN ?_ _) | (with_reducible refine Kd.C_drew ?_))); (case side6 => exact HC3.out); (case side7 => exact TabOk.below HT.out (by repeat (first | (with_reducible first | exact HB.out | apply below_alloc | apply pw_below_drewN | apply below_drew1) | exact HB.out))); rintro e w14 ⟨v407, rfl, ho0, hb⟩; refine ⟨_, rfl, ?_⟩; have n0_ := Aside0.mk (Kd.R_lower ho0 (below_size (by repeat (first | (with_reducible first | exact HB.out | apply below_alloc | apply pw_below_drewN | apply below_drew1) | exact HB.out)))); have n1_ := Aside0.mk (below_step (by repeat (first | (with_reducible first | exact HB.out | apply below_alloc | apply pw_below_drewN | apply below_drew1) | exact HB.out)) hb); clear HB; have HO408 := n0_; have HB := n1_; clear n0_ n1_; (try clear hb); (try clear hb2); (try clear hk); (try clear hi); (try clear ho0)))
   (try simp only [Act.put, List.setIfInBounds_toArray, List.set_cons_zero, List.set_cons_succ])
   go_cut [62] (fun v62 wc => ∃ (kq : Nat) (x62_11 : Bool), v62 = .bool x62_11 ∧ Aside0 (cohousinglaw20_KeysHistory.j0 kq l0 l3 a4 a5 t403 t405 x62_11 = some r) ∧ Aside0 (kq ≤ k) ∧ Aside0 (Kd.R k49 49 wc w.heap.size (fun _ => True) v407 t405) ∧ Aside0 (Below w.heap.size w wc))
   case first =>
    have H := HC12.out
    clear HC12
    by_cases c15 : (l3.length : Int) = 0
    ·rw [if_pos c15] at H
     have c15b0 : ((l3.length : Int) == 0) = true := beq_iff_eq.mpr c15
     have c15b1 : ((l3.length : Int) != 0) = false := bne_eq_false_iff_eq.mpr c15
     clear c15
     (first | rw [c15b0] | (simp only [i64_w, i32_w]; rw [c15b0]) | skip)
     have H' := Aside0.mk H
     clear H
     go_wp2
     go_meet
     case rel => exact ⟨_, (true), (by first | rfl | (simp; done) | (simp [*]; done)), H', ⟨by first | omega | exact Nat.le_refl _⟩, ⟨by (with_reducible repeat (first | apply Kd.R_alloc | apply Kd.R_drewN | apply Kd.R_drew)); exact HO408.out⟩, ⟨by repeat (first | (with_reducible first | exact HB.out | apply below_alloc | apply pw_below_drewN | apply below_drew1) | exact HB.out)⟩⟩
    ·rw [if_neg c15] at H
     have c15b0 : ((l3.length : Int) == 0) = false := beq_eq_false_iff_ne.mpr c15
     have c15b1 : ((l3.length : Int) != 0) = true := bne_iff_ne.mpr c15
     have c15b2 : ¬ (l3 = []) := fun h_ => c15 (by rw [h_]; rfl)
     (first | rw [c15b0] | (simp only [i64_w, i32_w]; rw [c15b0]) | skip)
     replace H := Option.bind_eq_some_iff.mp H
     obtain ⟨t409, A160, H⟩ := H
     replace H : (if t409 = true then (cohousinglaw20_KeysHistory.j0 k l0 l3 a4 a5 t403 t405 ((t405.length : Int) != (wrap64 ((l0.length : Int) + 1)))) else (cohousinglaw20_KeysHistory.j0 k l0 l3 a4 a5 t403 t405 true)) = some r := H
     have A16 := Aside0.mk A160
     clear A160
     by_cases c17 : t409 = true
     ·subst c17
      have H1 : (cohousinglaw20_KeysHistory.j0 k l0 l3 a4 a5 t403 t405 ((t405.length : Int) != (wrap64 ((l0.length : Int) + 1)))) = some r := by rw [if_pos rfl] at H; exact H
      clear H
      have H := H1
      clear H1
      have H' := Aside0.mk H
      clear H
      obtain ⟨Ao18, co18, eo18⟩ := Kd.R_slice HO408.out
      subst eo18
      go_wp2_with (first | (go_at_call 12; (with_reducible refine (keys_Valid.calls k _ _ t405 true _ ?side1 ?side2 A16.out).mono ?_); (case side1 => repeat (first | exact (Kd.R_reads' HO408.out).2.2 | (with_reducible refine Kd.C_alloc ?_ _) | (with_reducible refine Kd.C_drewN ?_ _) | (with_reducible refine Kd.C_drew ?_))); (case side2 => exact (Kd.R_reads' HO408.out).2.1); rintro e w19 ⟨rfl, hb⟩; have n0_ := Aside0.mk (Kd.R_below (by (with_reducible repeat (first | apply Kd.R_alloc | apply Kd.R_drewN | apply Kd.R_drew)); exact HO408.out) hb); have n1_ := Aside0.mk (below_step (by repeat (first | (with_reducible first | exact HB.out | apply below_alloc | apply pw_below_drewN | apply below_drew1) | exact HB.out)) hb); clear HO408; clear HB; have HO408 := n0_; have HB := n1_; clear n0_ n1_; (try clear hb); (try clear hb2); (try clear hk); (try clear hi)))
      go_meet
      case rel => exact ⟨_, (((t405.length : Int) != (wrap64 ((l0.length : Int) + 1)))), (by first | rfl | (simp; done) | (simp [*]; done)), H', ⟨by first | omega | exact Nat.le_refl _⟩, ⟨by (with_reducible repeat (first | apply Kd.R_alloc | apply Kd.R_drewN | apply Kd.R_drew)); exact HO408.out⟩, ⟨by repeat (first | (with_reducible first | exact HB.out | apply below_alloc | apply pw_below_drewN | apply below_drew1) | exact HB.out)⟩⟩
     ·replace c17 := Bool.eq_false_iff.mpr c17
      subst c17
      have H1 : (cohousinglaw20_KeysHistory.j0 k l0 l3 a4 a5 t403 t405 true) = some r := by rw [if_neg (show ¬ (false = true) by decide)] at H; exact H
      clear H
      have H := H1
      clear H1
      have H' := Aside0.mk H
      clear H
      obtain ⟨Ao20, co20, eo20⟩ := Kd.R_slice HO408.out
      subst eo20
      go_wp2_with (first | (go_at_call 12; (with_reducible refine (keys_Valid.calls k _ _ t405 false _ ?side1 ?side2 A16.out).mono ?_); (case side1 => repeat (first | exact (Kd.R_reads' HO408.out).2.2 | (with_reducible refine Kd.C_alloc ?_ _) | (with_reducible refine Kd.C_drewN ?_ _) | (with_reducible refine Kd.C_drew ?_))); (case side2 => exact (Kd.R_reads' HO408.out).2.1); rintro e w21 ⟨rfl, hb⟩; have n0_ := Aside0.mk (Kd.R_below (by (with_reducible repeat (first | apply Kd.R_alloc | apply Kd.R_drewN | apply Kd.R_drew)); exact HO408.out) hb); have n1_ := Aside0.mk (below_step (by repeat (first | (with_reducible first | exact HB.out | apply below_alloc | apply pw_below_drewN | apply below_drew1) | exact HB.out)) hb); clear HO408; clear HB; have HO408 := n0_; have HB := n1_; clear n0_ n1_; (try clear hb); (try clear hb2); (try clear hk); (try clear hi)))
      go_meet
      case rel => exact ⟨_, (true), (by first | rfl | (simp; done) | (simp [*]; done)), H', ⟨by first | omega | exact Nat.le_refl _⟩, ⟨by (with_reducible repeat (first | apply Kd.R_alloc | apply Kd.R_drewN | apply Kd.R_drew)); exact HO408.out⟩, ⟨by repeat (first | (with_reducible first | exact HB.out | apply below_alloc | apply pw_below_drewN | apply below_drew1) | exact HB.out)⟩⟩
   case rest =>
    clear HC12
    try clear c1
    try clear p2
    try clear c3
    try clear c4
    try clear p6
    try clear c8
    try clear c9
    try clear c11
    try clear c11b0
    try clear c11b1
    try clear c15
    try clear c15b0
    try clear c15b1
    try clear c15b2
    try clear c16
    try clear c17
    obtain ⟨kq, x62_11, rfl, HA, HJ11, HO_14, HB⟩ := hcut
    cases kq with
    | zero => exact absurd HA.out (by simp [cohousinglaw20_KeysHistory.j0])
    | succ kj11 =>
     have H := HA.out
     clear HA
     simp only [cohousinglaw20_KeysHistory.j0] at H
     by_cases c22 : x62_11 = true
     ·subst c22
      have H1 : (some false) = some r := by rw [if_pos rfl] at H; exact H
      clear H
      have H := H1
      clear H1
      obtain rfl := Option.some.inj H
      go_wp2
      go_ret
      exact ⟨by first | rfl | (simp [errW_none, errW_some] <;> rfl) | (simp [*, errW_none, errW_some] <;> rfl), by repeat (first | (with_reducible first | exact HB.out | apply below_alloc | apply pw_below_drewN | apply below_drew1) | exact HB.out)⟩
     ·replace c22 := Bool.eq_false_iff.mpr c22
      subst c22
      have H1 : ((keys_Of.f kj11 l0 (wrap64 (1 + (Int.tmod (wrap64 (a4)) 64))) (Int.tmod (wrap64 (a5)) 36525)).bind fun bt410 => ((keys_Of.f kj11 t405 (wrap64 (1 + (Int.tmod (wrap64 (a4)) 64))) (Int.tmod (wrap64 (a5)) 36525)).bind fun bt413 => (if bt410.2.2 = 0 then (cohousinglaw20_KeysHistory.j1 kj11 l3 t403 (wrap64 (1 + (Int.tmod (wrap64 (a4)) 64))) (Int.tmod (wrap64 (a5)) 36525) bt410.1 bt410.2.1 bt413.1 bt413.2.1 (bt413.2.2 != 0)) else (cohousinglaw20_KeysHistory.j1 kj11 l3 t403 (wrap64 (1 + (Int.tmod (wrap64 (a4)) 64))) (Int.tmod (wrap64 (a5)) 36525) bt410.1 bt410.2.1 bt413.1 bt413.2.1 true)))) = some r := by rw [if_neg (show ¬ (false = true) by decide)] at H; exact H
      clear H
      have H := H1
      clear H1
      replace H := Option.bind_eq_some_iff.mp H
      obtain ⟨⟨t410, t411, t412⟩, A230, H⟩ := H
      replace H : ((keys_Of.f kj11 t405 (wrap64 (1 + (Int.tmod (wrap64 (a4)) 64))) (Int.tmod (wrap64 (a5)) 36525)).bind fun bt413 => (if t412 = 0 then (cohousinglaw20_KeysHistory.j1 kj11 l3 t403 (wrap64 (1 + (Int.tmod (wrap64 (a4)) 64))) (Int.tmod (wrap64 (a5)) 36525) t410 t411 bt413.1 bt413.2.1 (bt413.2.2 != 0)) else (cohousinglaw20_KeysHistory.j1 kj11 l3 t403 (wrap64 (1 + (Int.tmod (wrap64 (a4)) 64))) (Int.tmod (wrap64 (a5)) 36525) t410 t411 bt413.1 bt413.2.1 true))) = some r := H
      have A23 := Aside0.mk A230
      clear A230
      replace H := Option.bind_eq_some_iff.mp H
      obtain ⟨⟨t413, t414, t415⟩, A240, H⟩ := H
      replace H : (if t412 = 0 then (cohousinglaw20_KeysHistory.j1 kj11 l3 t403 (wrap64 (1 + (Int.tmod (wrap64 (a4)) 64))) (Int.tmod (wrap64 (a5)) 36525) t410 t411 t413 t414 (t415 != 0)) else (cohousinglaw20_KeysHistory.j1 kj11 l3 t403 (wrap64 (1 + (Int.tmod (wrap64 (a4)) 64))) (Int.tmod (wrap64 (a5)) 36525) t410 t411 t413 t414 true)) = some r := H
      have A24 := Aside0.mk A240
      clear A240
      have HC25 := Aside0.mk H
      clear H
      go_upto_region 12 with (first | ((with_reducible refine gate_callee (f := 10) rfl ?_); refine goesL_ (some 74) rfl rfl Tryd.func10 (by kernel_rfl) rfl #[.slice A0 l0.length c0, .int .i64 (wrap64 (1 + (Int.tmod (wrap64 (a4)) 64))), .int .i64 (Int.tmod (wrap64 (a5)) 36525)] rfl (by (try simp only [List.map_toArray, List.map_cons, List.map_nil]); first | done | rfl | (simp only [List.length_drop, List.length_take]; rfl)) ?_; (with_reducible refine (keys_Of.calls kj11 _ _ l0 (wrap64 (1 + (Int.tmod (wrap64 (a4)) 64))) (Int.tmod (wrap64 (a5)) 36525) t410 t411 t412 _ ?side1 ?side2 A23.out).mono ?_); (case side1 => repeat (first | exact (Kd.C_below HR0.out HB.out) | (with_reducible refine Kd.C_alloc ?_ _) | (with_reducible refine Kd.C_drewN ?_ _) | (with_reducible refine Kd.C_drew ?_))); (case side2 => exact HC0.out); rintro e w26 ⟨rfl, hb⟩; refine ⟨_, rfl, ?_⟩; have n0_ := Aside0.mk (Kd.R_below (by (with_reducible repeat (first | apply Kd.R_alloc | apply Kd.R_drewN | apply Kd.R_drew)); exact HO_14.out) hb); have n1_ := Aside0.mk (below_step (by repeat (first | (with_reducible first | exact HB.out | apply below_alloc | apply pw_below_drewN | apply below_drew1) | exact HB.out)) hb); clear HO_14; clear HB; have HO_14 := n0_; have HB := n1_; clear n0_ n1_; (try clear hb); (try clear hb2); (try clear hk); (try clear hi); obtain ⟨Ao27, co27, eo27⟩ := Kd.R_slice HO_14.out; subst eo27) | ((with_reducible refine gate_callee (f := 10) rfl ?_); refine goesL_ (some 82) rfl rfl Tryd.func10 (by kernel_rfl) rfl #[.slice Ao27 t405.length co27, .int .i64 (wrap64 (1 + (Int.tmod (wrap64 (a4)) 64))), .int .i64 (Int.tmod (wrap64 (a5)) 36525)] rfl (by (try simp only [List.map_toArray, List.map_cons, List.map_nil]); first | done | rfl | (simp only [List.length_drop, List.length_take]; rfl)) ?_; (with_reducible refine (keys_Of.calls kj11 _ _ t405 (wrap64 (1 + (Int.tmod (wrap64 (a4)) 64))) (Int.tmod (wrap64 (a5)) 36525) t413 t414 t415 _ ?side1 ?side2 A24.out).mono ?_); (case side1 => repeat (first | exact (Kd.R_reads' HO_14.out).2.2 | (with_reducible refine Kd.C_alloc ?_ _) | (with_reducible refine Kd.C_drewN ?_ _) | (with_reducible refine Kd.C_drew ?_))); (case side2 => exact (Kd.R_reads' HO_14.out).2.1); rintro e w28 ⟨rfl, hb⟩; refine ⟨_, rfl, ?_⟩; have n0_ := Aside0.mk (Kd.R_below (by (with_reducible repeat (first | apply Kd.R_alloc | apply Kd.R_drewN | apply Kd.R_drew)); exact HO_14.out) hb); have n1_ := Aside0.mk (below_step (by repeat (first | (with_reducible first | exact HB.out | apply below_alloc | apply pw_below_drewN | apply below_drew1) | exact HB.out)) hb); clear HO_14; clear HB; have HO_14 := n0_; have HB := n1_; clear n0_ n1_; (try clear hb); (try clear hb2); (try clear hk); (try clear hi)))
      (try simp only [Act.put, List.setIfInBounds_toArray, List.set_cons_zero, List.set_cons_succ])
      go_cut [91] (fun v91 wc => ∃ (kq : Nat) (x91_24 : Bool), v91 = .bool x91_24 ∧ Aside0 (cohousinglaw20_KeysHistory.j1 kq l3 t403 (wrap64 (1 + (Int.tmod (wrap64 (a4)) 64))) (Int.tmod (wrap64 (a5)) 36525) t410 t411 t413 t414 x91_24 = some r) ∧ Aside0 (kq ≤ kj11) ∧ Aside0 (Below w.heap.size w wc))
      case first =>
       have H := HC25.out
       clear HC25
       by_cases c29 : t412 = 0
       ·rw [if_pos c29] at H
        have c29b0 : (t412 == 0) = true := beq_iff_eq.mpr c29
        have c29b1 : (t412 != 0) = false := bne_eq_false_iff_eq.mpr c29
        clear c29
        (first | rw [c29b0] | (simp only [i64_w, i32_w]; rw [c29b0]) | skip)
        have H' := Aside0.mk H
        clear H
        go_wp2
        go_meet
        case rel => exact ⟨_, ((t415 != 0)), (by first | rfl | (simp; done) | (simp [*]; done)), H', ⟨by have := HJ11.out; first | omega | exact Nat.le_refl _⟩, ⟨by repeat (first | (with_reducible first | exact HB.out | apply below_alloc | apply pw_below_drewN | apply below_drew1) | exact HB.out)⟩⟩
       ·rw [if_neg c29] at H
        have c29b0 : (t412 == 0) = false := beq_eq_false_iff_ne.mpr c29
        have c29b1 : (t412 != 0) = true := bne_iff_ne.mpr c29
        (first | rw [c29b0] | (simp only [i64_w, i32_w]; rw [c29b0]) | skip)
        have H' := Aside0.mk H
        clear H
        go_wp2
        go_meet
        case rel => exact ⟨_, (true), (by first | rfl | (simp; done) | (simp [*]; done)), H', ⟨by have := HJ11.out; first | omega | exact Nat.le_refl _⟩, ⟨by repeat (first | (with_reducible first | exact HB.out | apply below_alloc | apply pw_below_drewN | apply below_drew1) | exact HB.out)⟩⟩
      case rest =>
       clear HC25
       try clear c1
       try clear c2
       try clear p2
       try clear c3
       try clear c4
       try clear p6
       try clear c8
       try clear c9
       try clear c10
       try clear c11
       try clear c11b0
       try clear c11b1
       try clear c15
       try clear c15b0
       try clear c15b1
       try clear c15b2
       try clear c16
       try clear c17
       try clear c22
       try clear c29
       try clear c29b0
       try clear c29b1
       try clear p2
       try clear p6
       obtain ⟨kq, x91_24, rfl, HA, HJ24, HB⟩ := hcut
       cases kq with
       | zero => exact absurd HA.out (by simp [cohousinglaw20_KeysHistory.j1])
       | succ kj24 =>
        have H := HA.out
        clear HA
        simp only [cohousinglaw20_KeysHistory.j1] at H
        by_cases c30 : x91_24 = true
        ·subst c30
         have H1 : (some false) = some r := by rw [if_pos rfl] at H; exact H
         clear H
         have H := H1
         clear H1
         obtain rfl := Option.some.inj H
         go_wp2
         go_ret
         exact ⟨by first | rfl | (simp [errW_none, errW_some] <;> rfl) | (simp [*, errW_none, errW_some] <;> rfl), by repeat (first | (with_reducible first | exact HB.out | apply below_alloc | apply pw_below_drewN | apply below_drew1) | exact HB.out)⟩
        ·replace c30 := Bool.eq_false_iff.mpr c30
         subst c30
         have H1 : (if 0 < (l3.length : Int) then (if (wrap64 (1 + (Int.tmod (wrap64 (a4)) 64))) = ((rd_T28 l3 0).f0) then (if (Int.tmod (wrap64 (a5)) 36525) ≥ ((rd_T28 l3 0).f2) then (if t403 = true then (if t414 = true then (some (t413 == ((rd_T28 l3 0).f1))) else (some false)) else (some false)) else (if t403 = true then (if t410 = t413 then (some (t411 == t414)) else (some false)) else (some false))) else (if t403 = true then (if t410 = t413 then (some (t411 == t414)) else (some false)) else (some false))) else (none)) = some r := by rw [if_neg (show ¬ (false = true) by decide)] at H; exact H
         clear H
         have H := H1
         clear H1
         by_cases c31 : 0 < (l3.length : Int)
         ·rw [if_pos c31] at H
          have c31b0 : decide (0 < (l3.length : Int)) = true := decide_eq_true c31
          have c31b1 : decide (0 < l3.length) = true := decide_eq_true (by omega)
          clear c31
          by_cases c32 : (wrap64 (1 + (Int.tmod (wrap64 (a4)) 64))) = ((rd_T28 l3 0).f0)
          ·rw [if_pos c32] at H
           have c32b0 : ((wrap64 (1 + (Int.tmod (wrap64 (a4)) 64))) == ((rd_T28 l3 0).f0)) = true := beq_iff_eq.mpr c32
           have c32b1 : ((wrap64 (1 + (Int.tmod (wrap64 (a4)) 64))) != ((rd_T28 l3 0).f0)) = false := bne_eq_false_iff_eq.mpr c32
           clear c32
           by_cases c33 : (Int.tmod (wrap64 (a5)) 36525) ≥ ((rd_T28 l3 0).f2)
           ·rw [if_pos c33] at H
            have c33b0 : decide (((rd_T28 l3 0).f2) ≤ (Int.tmod (wrap64 (a5)) 36525)) = true := decide_eq_true c33
            clear c33
            by_cases c34 : t403 = true
            ·subst c34
             have H1 : (if t414 = true then (some (t413 == ((rd_T28 l3 0).f1))) else (some false)) = some r := by rw [if_pos rfl] at H; exact H
             clear H
             have H := H1
             clear H1
             by_cases c35 : t414 = true
             ·subst c35
              have H1 : (some (t413 == ((rd_T28 l3 0).f1))) = some r := by rw [if_pos rfl] at H; exact H
              clear H
              have H := H1
              clear H1
              obtain rfl := Option.some.inj H
              have p416 : 0 ≤ (0 : Int) := (by omega)
              have q416 : 0 < (l3.length : Int) := of_decide_eq_true (by first | (with_reducible assumption) | assumption)
              obtain ⟨ad416, e416, hx416_0, hx416_1, hx416_2, hx416_3, hx416_4, hx416_5⟩ := at_T28 HR3.out 0 p416 q416
              cases e416
              have qi416 : (0 < l3.length) = True := eq_true (by omega)
              (try rw [show ((0 : Int)).toNat = 0 from rfl] at hx416_0)
              (try rw [show 0 * 6 = 0 from rfl] at hx416_0)
              (try rw [Addr.add_zero'] at hx416_0)
              (try rw [show ((0 : Int)).toNat = 0 from rfl] at hx416_1)
              (try rw [show 0 * 6 = 0 from rfl] at hx416_1)
              (try rw [Addr.add_zero'] at hx416_1)
              (try rw [show ((0 : Int)).toNat = 0 from rfl] at hx416_2)
              (try rw [show 0 * 6 = 0 from rfl] at hx416_2)
              (try rw [Addr.add_zero'] at hx416_2)
              (try rw [show ((0 : Int)).toNat = 0 from rfl] at hx416_3)
              (try rw [show 0 * 6 = 0 from rfl] at hx416_3)
              (try rw [Addr.add_zero'] at hx416_3)
              (try rw [show ((0 : Int)).toNat = 0 from rfl] at hx416_4)
              (try rw [show 0 * 6 = 0 from rfl] at hx416_4)
              (try rw [Addr.add_zero'] at hx416_4)
              (try rw [show ((0 : Int)).toNat = 0 from rfl] at hx416_5)
              (try rw [show 0 * 6 = 0 from rfl] at hx416_5)
              (try rw [Addr.add_zero'] at hx416_5)
              replace hx416_0 := (HB.out.cell (World.block_lt_of_cell? w _ hx416_0)).trans hx416_0
              replace hx416_1 := (HB.out.cell (World.block_lt_of_cell? w _ hx416_1)).trans hx416_1
              replace hx416_2 := (HB.out.cell (World.block_lt_of_cell? w _ hx416_2)).trans hx416_2
              replace hx416_3 := (HB.out.cell (World.block_lt_of_cell? w _ hx416_3)).trans hx416_3
              replace hx416_4 := (HB.out.cell (World.block_lt_of_cell? w _ hx416_4)).trans hx416_4
              replace hx416_5 := (HB.out.cell (World.block_lt_of_cell? w _ hx416_5)).trans hx416_5
              replace p416 := eq_true p416
              replace q416 := eq_true q416
              have p417 : 0 ≤ (0 : Int) := (by omega)
              have q417 : 0 < (l3.length : Int) := of_decide_eq_true (by first | (with_reducible assumption) | assumption)
              obtain ⟨ad417, e417, hx417_0, hx417_1, hx417_2, hx417_3, hx417_4, hx417_5⟩ := at_T28 HR3.out 0 p417 q417
              obtain rfl : ad416 = ad417 := (by injection e417)
              have qi417 : (0 < l3.length) = True := eq_true (by omega)
              (try rw [show ((0 : Int)).toNat = 0 from rfl] at hx417_0)
              (try rw [show 0 * 6 = 0 from rfl] at hx417_0)
              (try rw [Addr.add_zero'] at hx417_0)
              (try rw [show ((0 : Int)).toNat = 0 from rfl] at hx417_1)
              (try rw [show 0 * 6 = 0 from rfl] at hx417_1)
              (try rw [Addr.add_zero'] at hx417_1)
              (try rw [show ((0 : Int)).toNat = 0 from rfl] at hx417_2)
              (try rw [show 0 * 6 = 0 from rfl] at hx417_2)
              (try rw [Addr.add_zero'] at hx417_2)
              (try rw [show ((0 : Int)).toNat = 0 from rfl] at hx417_3)
              (try rw [show 0 * 6 = 0 from rfl] at hx417_3)
              (try rw [Addr.add_zero'] at hx417_3)
              (try rw [show ((0 : Int)).toNat = 0 from rfl] at hx417_4)
              (try rw [show 0 * 6 = 0 from rfl] at hx417_4)
              (try rw [Addr.add_zero'] at hx417_4)
              (try rw [show ((0 : Int)).toNat = 0 from rfl] at hx417_5)
              (try rw [show 0 * 6 = 0 from rfl] at hx417_5)
              (try rw [Addr.add_zero'] at hx417_5)
              replace hx417_0 := (HB.out.cell (World.block_lt_of_cell? w _ hx417_0)).trans hx417_0
              replace hx417_1 := (HB.out.cell (World.block_lt_of_cell? w _ hx417_1)).trans hx417_1
              replace hx417_2 := (HB.out.cell (World.block_lt_of_cell? w _ hx417_2)).trans hx417_2
              replace hx417_3 := (HB.out.cell (World.block_lt_of_cell? w _ hx417_3)).trans hx417_3
              replace hx417_4 := (HB.out.cell (World.block_lt_of_cell? w _ hx417_4)).trans hx417_4
              replace hx417_5 := (HB.out.cell (World.block_lt_of_cell? w _ hx417_5)).trans hx417_5
              replace p417 := eq_true p417
              replace q417 := eq_true q417
              have p418 : 0 ≤ (0 : Int) := (by omega)
              have q418 : 0 < (l3.length : Int) := of_decide_eq_true (by first | (with_reducible assumption) | assumption)
              obtain ⟨ad418, e418, hx418_0, hx418_1, hx418_2, hx418_3, hx418_4, hx418_5⟩ := at_T28 HR3.out 0 p418 q418
              obtain rfl : ad416 = ad418 := (by injection e418)
              have qi418 : (0 < l3.length) = True := eq_true (by omega)
              (try rw [show ((0 : Int)).toNat = 0 from rfl] at hx418_0)
              (try rw [show 0 * 6 = 0 from rfl] at hx418_0)
              (try rw [Addr.add_zero'] at hx418_0)
              (try rw [show ((0 : Int)).toNat = 0 from rfl] at hx418_1)
              (try rw [show 0 * 6 = 0 from rfl] at hx418_1)
              (try rw [Addr.add_zero'] at hx418_1)
              (try rw [show ((0 : Int)).toNat = 0 from rfl] at hx418_2)
              (try rw [show 0 * 6 = 0 from rfl] at hx418_2)
              (try rw [Addr.add_zero'] at hx418_2)
              (try rw [show ((0 : Int)).toNat = 0 from rfl] at hx418_3)
              (try rw [show 0 * 6 = 0 from rfl] at hx418_3)
              (try rw [Addr.add_zero'] at hx418_3)
              (try rw [show ((0 : Int)).toNat = 0 from rfl] at hx418_4)
              (try rw [show 0 * 6 = 0 from rfl] at hx418_4)
              (try rw [Addr.add_zero'] at hx418_4)
              (try rw [show ((0 : Int)).toNat = 0 from rfl] at hx418_5)
              (try rw [show 0 * 6 = 0 from rfl] at hx418_5)
              (try rw [Addr.add_zero'] at hx418_5)
              replace hx418_0 := (HB.out.cell (World.block_lt_of_cell? w _ hx418_0)).trans hx418_0
              replace hx418_1 := (HB.out.cell (World.block_lt_of_cell? w _ hx418_1)).trans hx418_1
              replace hx418_2 := (HB.out.cell (World.block_lt_of_cell? w _ hx418_2)).trans hx418_2
              replace hx418_3 := (HB.out.cell (World.block_lt_of_cell? w _ hx418_3)).trans hx418_3
              replace hx418_4 := (HB.out.cell (World.block_lt_of_cell? w _ hx418_4)).trans hx418_4
              replace hx418_5 := (HB.out.cell (World.block_lt_of_cell? w _ hx418_5)).trans hx418_5
              replace p418 := eq_true p418
              replace q418 := eq_true q418
              go_wp2
              go_ret
              exact ⟨by first | rfl | (simp [errW_none, errW_some] <;> rfl) | (simp [*, errW_none, errW_some] <;> rfl), by repeat (first | (with_reducible first | exact HB.out | apply below_alloc | apply pw_below_drewN | apply below_drew1) | exact HB.out)⟩
             ·replace c35 := Bool.eq_false_iff.mpr c35
              subst c35
              have H1 : (some false) = some r := by rw [if_neg (show ¬ (false = true) by decide)] at H; exact H
              clear H
              have H := H1
              clear H1
              obtain rfl := Option.some.inj H
              have p416 : 0 ≤ (0 : Int) := (by omega)
              have q416 : 0 < (l3.length : Int) := of_decide_eq_true (by first | (with_reducible assumption) | assumption)
              obtain ⟨ad416, e416, hx416_0, hx416_1, hx416_2, hx416_3, hx416_4, hx416_5⟩ := at_T28 HR3.out 0 p416 q416
              cases e416
              have qi416 : (0 < l3.length) = True := eq_true (by omega)
              (try rw [show ((0 : Int)).toNat = 0 from rfl] at hx416_0)
              (try rw [show 0 * 6 = 0 from rfl] at hx416_0)
              (try rw [Addr.add_zero'] at hx416_0)
              (try rw [show ((0 : Int)).toNat = 0 from rfl] at hx416_1)
              (try rw [show 0 * 6 = 0 from rfl] at hx416_1)
              (try rw [Addr.add_zero'] at hx416_1)
              (try rw [show ((0 : Int)).toNat = 0 from rfl] at hx416_2)
              (try rw [show 0 * 6 = 0 from rfl] at hx416_2)
              (try rw [Addr.add_zero'] at hx416_2)
              (try rw [show ((0 : Int)).toNat = 0 from rfl] at hx416_3)
              (try rw [show 0 * 6 = 0 from rfl] at hx416_3)
              (try rw [Addr.add_zero'] at hx416_3)
              (try rw [show ((0 : Int)).toNat = 0 from rfl] at hx416_4)
              (try rw [show 0 * 6 = 0 from rfl] at hx416_4)
              (try rw [Addr.add_zero'] at hx416_4)
              (try rw [show ((0 : Int)).toNat = 0 from rfl] at hx416_5)
              (try rw [show 0 * 6 = 0 from rfl] at hx416_5)
              (try rw [Addr.add_zero'] at hx416_5)
              replace hx416_0 := (HB.out.cell (World.block_lt_of_cell? w _ hx416_0)).trans hx416_0
              replace hx416_1 := (HB.out.cell (World.block_lt_of_cell? w _ hx416_1)).trans hx416_1
              replace hx416_2 := (HB.out.cell (World.block_lt_of_cell? w _ hx416_2)).trans hx416_2
              replace hx416_3 := (HB.out.cell (World.block_lt_of_cell? w _ hx416_3)).trans hx416_3
              replace hx416_4 := (HB.out.cell (World.block_lt_of_cell? w _ hx416_4)).trans hx416_4
              replace hx416_5 := (HB.out.cell (World.block_lt_of_cell? w _ hx416_5)).trans hx416_5
              replace p416 := eq_true p416
              replace q416 := eq_true q416
              have p417 : 0 ≤ (0 : Int) := (by omega)
              have q417 : 0 < (l3.length : Int) := of_decide_eq_true (by first | (with_reducible assumption) | assumption)
              obtain ⟨ad417, e417, hx417_0, hx417_1, hx417_2, hx417_3, hx417_4, hx417_5⟩ := at_T28 HR3.out 0 p417 q417
              obtain rfl : ad416 = ad417 := (by injection e417)
              have qi417 : (0 < l3.length) = True := eq_true (by omega)
              (try rw [show ((0 : Int)).toNat = 0 from rfl] at hx417_0)
              (try rw [show 0 * 6 = 0 from rfl] at hx417_0)
              (try rw [Addr.add_zero'] at hx417_0)
              (try rw [show ((0 : Int)).toNat = 0 from rfl] at hx417_1)
              (try rw [show 0 * 6 = 0 from rfl] at hx417_1)
              (try rw [Addr.add_zero'] at hx417_1)
              (try rw [show ((0 : Int)).toNat = 0 from rfl] at hx417_2)
              (try rw [show 0 * 6 = 0 from rfl] at hx417_2)
              (try rw [Addr.add_zero'] at hx417_2)
              (try rw [show ((0 : Int)).toNat = 0 from rfl] at hx417_3)
              (try rw [show 0 * 6 = 0 from rfl] at hx417_3)
              (try rw [Addr.add_zero'] at hx417_3)
              (try rw [show ((0 : Int)).toNat = 0 from rfl] at hx417_4)
              (try rw [show 0 * 6 = 0 from rfl] at hx417_4)
              (try rw [Addr.add_zero'] at hx417_4)
              (try rw [show ((0 : Int)).toNat = 0 from rfl] at hx417_5)
              (try rw [show 0 * 6 = 0 from rfl] at hx417_5)
              (try rw [Addr.add_zero'] at hx417_5)
              replace hx417_0 := (HB.out.cell (World.block_lt_of_cell? w _ hx417_0)).trans hx417_0
              replace hx417_1 := (HB.out.cell (World.block_lt_of_cell? w _ hx417_1)).trans hx417_1
              replace hx417_2 := (HB.out.cell (World.block_lt_of_cell? w _ hx417_2)).trans hx417_2
              replace hx417_3 := (HB.out.cell (World.block_lt_of_cell? w _ hx417_3)).trans hx417_3
              replace hx417_4 := (HB.out.cell (World.block_lt_of_cell? w _ hx417_4)).trans hx417_4
              replace hx417_5 := (HB.out.cell (World.block_lt_of_cell? w _ hx417_5)).trans hx417_5
              replace p417 := eq_true p417
              replace q417 := eq_true q417
              go_wp2
              go_ret
              exact ⟨by first | rfl | (simp [errW_none, errW_some] <;> rfl) | (simp [*, errW_none, errW_some] <;> rfl), by repeat (first | (with_reducible first | exact HB.out | apply below_alloc | apply pw_below_drewN | apply below_drew1) | exact HB.out)⟩
            ·replace c34 := Bool.eq_false_iff.mpr c34
             subst c34
             have H1 : (some false) = some r := by rw [if_neg (show ¬ (false = true) by decide)] at H; exact H
             clear H
             have H := H1
             clear H1
             obtain rfl := Option.some.inj H
             have p416 : 0 ≤ (0 : Int) := (by omega)
             have q416 : 0 < (l3.length : Int) := of_decide_eq_true (by first | (with_reducible assumption) | assumption)
             obtain ⟨ad416, e416, hx416_0, hx416_1, hx416_2, hx416_3, hx416_4, hx416_5⟩ := at_T28 HR3.out 0 p416 q416
             cases e416
             have qi416 : (0 < l3.length) = True := eq_true (by omega)
             (try rw [show ((0 : Int)).toNat = 0 from rfl] at hx416_0)
             (try rw [show 0 * 6 = 0 from rfl] at hx416_0)
             (try rw [Addr.add_zero'] at hx416_0)
             (try rw [show ((0 : Int)).toNat = 0 from rfl] at hx416_1)
             (try rw [show 0 * 6 = 0 from rfl] at hx416_1)
             (try rw [Addr.add_zero'] at hx416_1)
             (try rw [show ((0 : Int)).toNat = 0 from rfl] at hx416_2)
             (try rw [show 0 * 6 = 0 from rfl] at hx416_2)
             (try rw [Addr.add_zero'] at hx416_2)
             (try rw [show ((0 : Int)).toNat = 0 from rfl] at hx416_3)
             (try rw [show 0 * 6 = 0 from rfl] at hx416_3)
             (try rw [Addr.add_zero'] at hx416_3)
             (try rw [show ((0 : Int)).toNat = 0 from rfl] at hx416_4)
             (try rw [show 0 * 6 = 0 from rfl] at hx416_4)
             (try rw [Addr.add_zero'] at hx416_4)
             (try rw [show ((0 : Int)).toNat = 0 from rfl] at hx416_5)
             (try rw [show 0 * 6 = 0 from rfl] at hx416_5)
             (try rw [Addr.add_zero'] at hx416_5)
             replace hx416_0 := (HB.out.cell (World.block_lt_of_cell? w _ hx416_0)).trans hx416_0
             replace hx416_1 := (HB.out.cell (World.block_lt_of_cell? w _ hx416_1)).trans hx416_1
             replace hx416_2 := (HB.out.cell (World.block_lt_of_cell? w _ hx416_2)).trans hx416_2
             replace hx416_3 := (HB.out.cell (World.block_lt_of_cell? w _ hx416_3)).trans hx416_3
             replace hx416_4 := (HB.out.cell (World.block_lt_of_cell? w _ hx416_4)).trans hx416_4
             replace hx416_5 := (HB.out.cell (World.block_lt_of_cell? w _ hx416_5)).trans hx416_5
             replace p416 := eq_true p416
             replace q416 := eq_true q416
             have p417 : 0 ≤ (0 : Int) := (by omega)
             have q417 : 0 < (l3.length : Int) := of_decide_eq_true (by first | (with_reducible assumption) | assumption)
             obtain ⟨ad417, e417, hx417_0, hx417_1, hx417_2, hx417_3, hx417_4, hx417_5⟩ := at_T28 HR3.out 0 p417 q417
             obtain rfl : ad416 = ad417 := (by injection e417)
             have qi417 : (0 < l3.length) = True := eq_true (by omega)
             (try rw [show ((0 : Int)).toNat = 0 from rfl] at hx417_0)
             (try rw [show 0 * 6 = 0 from rfl] at hx417_0)
             (try rw [Addr.add_zero'] at hx417_0)
             (try rw [show ((0 : Int)).toNat = 0 from rfl] at hx417_1)
             (try rw [show 0 * 6 = 0 from rfl] at hx417_1)
             (try rw [Addr.add_zero'] at hx417_1)
             (try rw [show ((0 : Int)).toNat = 0 from rfl] at hx417_2)
             (try rw [show 0 * 6 = 0 from rfl] at hx417_2)
             (try rw [Addr.add_zero'] at hx417_2)
             (try rw [show ((0 : Int)).toNat = 0 from rfl] at hx417_3)
             (try rw [show 0 * 6 = 0 from rfl] at hx417_3)
             (try rw [Addr.add_zero'] at hx417_3)
             (try rw [show ((0 : Int)).toNat = 0 from rfl] at hx417_4)
             (try rw [show 0 * 6 = 0 from rfl] at hx417_4)
             (try rw [Addr.add_zero'] at hx417_4)
             (try rw [show ((0 : Int)).toNat = 0 from rfl] at hx417_5)
             (try rw [show 0 * 6 = 0 from rfl] at hx417_5)
             (try rw [Addr.add_zero'] at hx417_5)
             replace hx417_0 := (HB.out.cell (World.block_lt_of_cell? w _ hx417_0)).trans hx417_0
             replace hx417_1 := (HB.out.cell (World.block_lt_of_cell? w _ hx417_1)).trans hx417_1
             replace hx417_2 := (HB.out.cell (World.block_lt_of_cell? w _ hx417_2)).trans hx417_2
             replace hx417_3 := (HB.out.cell (World.block_lt_of_cell? w _ hx417_3)).trans hx417_3
             replace hx417_4 := (HB.out.cell (World.block_lt_of_cell? w _ hx417_4)).trans hx417_4
             replace hx417_5 := (HB.out.cell (World.block_lt_of_cell? w _ hx417_5)).trans hx417_5
             replace p417 := eq_true p417
             replace q417 := eq_true q417
             go_wp2
             go_ret
             exact ⟨by first | rfl | (simp [errW_none, errW_some] <;> rfl) | (simp [*, errW_none, errW_some] <;> rfl), by repeat (first | (with_reducible first | exact HB.out | apply below_alloc | apply pw_below_drewN | apply below_drew1) | exact HB.out)⟩
           ·rw [if_neg c33] at H
            have c33b0 : decide (((rd_T28 l3 0).f2) ≤ (Int.tmod (wrap64 (a5)) 36525)) = false := decide_eq_false c33
            clear c33
            by_cases c36 : t403 = true
            ·subst c36
             have H1 : (if t410 = t413 then (some (t411 == t414)) else (some false)) = some r := by rw [if_pos rfl] at H; exact H
             clear H
             have H := H1
             clear H1
             by_cases c37 : t410 = t413
             ·rw [if_pos c37] at H
              have c37b0 : (t410 == t413) = true := beq_iff_eq.mpr c37
              have c37b1 : (t410 != t413) = false := bne_eq_false_iff_eq.mpr c37
              clear c37
              obtain rfl := Option.some.inj H
              have p416 : 0 ≤ (0 : Int) := (by omega)
              have q416 : 0 < (l3.length : Int) := of_decide_eq_true (by first | (with_reducible assumption) | assumption)
              obtain ⟨ad416, e416, hx416_0, hx416_1, hx416_2, hx416_3, hx416_4, hx416_5⟩ := at_T28 HR3.out 0 p416 q416
              cases e416
              have qi416 : (0 < l3.length) = True := eq_true (by omega)
              (try rw [show ((0 : Int)).toNat = 0 from rfl] at hx416_0)
              (try rw [show 0 * 6 = 0 from rfl] at hx416_0)
              (try rw [Addr.add_zero'] at hx416_0)
              (try rw [show ((0 : Int)).toNat = 0 from rfl] at hx416_1)
              (try rw [show 0 * 6 = 0 from rfl] at hx416_1)
              (try rw [Addr.add_zero'] at hx416_1)
              (try rw [show ((0 : Int)).toNat = 0 from rfl] at hx416_2)
              (try rw [show 0 * 6 = 0 from rfl] at hx416_2)
              (try rw [Addr.add_zero'] at hx416_2)
              (try rw [show ((0 : Int)).toNat = 0 from rfl] at hx416_3)
              (try rw [show 0 * 6 = 0 from rfl] at hx416_3)
              (try rw [Addr.add_zero'] at hx416_3)
              (try rw [show ((0 : Int)).toNat = 0 from rfl] at hx416_4)
              (try rw [show 0 * 6 = 0 from rfl] at hx416_4)
              (try rw [Addr.add_zero'] at hx416_4)
              (try rw [show ((0 : Int)).toNat = 0 from rfl] at hx416_5)
              (try rw [show 0 * 6 = 0 from rfl] at hx416_5)
              (try rw [Addr.add_zero'] at hx416_5)
              replace hx416_0 := (HB.out.cell (World.block_lt_of_cell? w _ hx416_0)).trans hx416_0
              replace hx416_1 := (HB.out.cell (World.block_lt_of_cell? w _ hx416_1)).trans hx416_1
              replace hx416_2 := (HB.out.cell (World.block_lt_of_cell? w _ hx416_2)).trans hx416_2
              replace hx416_3 := (HB.out.cell (World.block_lt_of_cell? w _ hx416_3)).trans hx416_3
              replace hx416_4 := (HB.out.cell (World.block_lt_of_cell? w _ hx416_4)).trans hx416_4
              replace hx416_5 := (HB.out.cell (World.block_lt_of_cell? w _ hx416_5)).trans hx416_5
              replace p416 := eq_true p416
              replace q416 := eq_true q416
              have p417 : 0 ≤ (0 : Int) := (by omega)
              have q417 : 0 < (l3.length : Int) := of_decide_eq_true (by first | (with_reducible assumption) | assumption)
              obtain ⟨ad417, e417, hx417_0, hx417_1, hx417_2, hx417_3, hx417_4, hx417_5⟩ := at_T28 HR3.out 0 p417 q417
              obtain rfl : ad416 = ad417 := (by injection e417)
              have qi417 : (0 < l3.length) = True := eq_true (by omega)
              (try rw [show ((0 : Int)).toNat = 0 from rfl] at hx417_0)
              (try rw [show 0 * 6 = 0 from rfl] at hx417_0)
              (try rw [Addr.add_zero'] at hx417_0)
              (try rw [show ((0 : Int)).toNat = 0 from rfl] at hx417_1)
              (try rw [show 0 * 6 = 0 from rfl] at hx417_1)
              (try rw [Addr.add_zero'] at hx417_1)
              (try rw [show ((0 : Int)).toNat = 0 from rfl] at hx417_2)
              (try rw [show 0 * 6 = 0 from rfl] at hx417_2)
              (try rw [Addr.add_zero'] at hx417_2)
              (try rw [show ((0 : Int)).toNat = 0 from rfl] at hx417_3)
              (try rw [show 0 * 6 = 0 from rfl] at hx417_3)
              (try rw [Addr.add_zero'] at hx417_3)
              (try rw [show ((0 : Int)).toNat = 0 from rfl] at hx417_4)
              (try rw [show 0 * 6 = 0 from rfl] at hx417_4)
              (try rw [Addr.add_zero'] at hx417_4)
              (try rw [show ((0 : Int)).toNat = 0 from rfl] at hx417_5)
              (try rw [show 0 * 6 = 0 from rfl] at hx417_5)
              (try rw [Addr.add_zero'] at hx417_5)
              replace hx417_0 := (HB.out.cell (World.block_lt_of_cell? w _ hx417_0)).trans hx417_0
              replace hx417_1 := (HB.out.cell (World.block_lt_of_cell? w _ hx417_1)).trans hx417_1
              replace hx417_2 := (HB.out.cell (World.block_lt_of_cell? w _ hx417_2)).trans hx417_2
              replace hx417_3 := (HB.out.cell (World.block_lt_of_cell? w _ hx417_3)).trans hx417_3
              replace hx417_4 := (HB.out.cell (World.block_lt_of_cell? w _ hx417_4)).trans hx417_4
              replace hx417_5 := (HB.out.cell (World.block_lt_of_cell? w _ hx417_5)).trans hx417_5
              replace p417 := eq_true p417
              replace q417 := eq_true q417
              go_wp2
              go_ret
              exact ⟨by first | rfl | (simp [errW_none, errW_some] <;> rfl) | (simp [*, errW_none, errW_some] <;> rfl), by repeat (first | (with_reducible first | exact HB.out | apply below_alloc | apply pw_below_drewN | apply below_drew1) | exact HB.out)⟩
             ·rw [if_neg c37] at H
              have c37b0 : (t410 == t413) = false := beq_eq_false_iff_ne.mpr c37
              have c37b1 : (t410 != t413) = true := bne_iff_ne.mpr c37
              obtain rfl := Option.some.inj H
              have p416 : 0 ≤ (0 : Int) := (by omega)
              have q416 : 0 < (l3.length : Int) := of_decide_eq_true (by first | (with_reducible assumption) | assumption)
              obtain ⟨ad416, e416, hx416_0, hx416_1, hx416_2, hx416_3, hx416_4, hx416_5⟩ := at_T28 HR3.out 0 p416 q416
              cases e416
              have qi416 : (0 < l3.length) = True := eq_true (by omega)
              (try rw [show ((0 : Int)).toNat = 0 from rfl] at hx416_0)
              (try rw [show 0 * 6 = 0 from rfl] at hx416_0)
              (try rw [Addr.add_zero'] at hx416_0)
              (try rw [show ((0 : Int)).toNat = 0 from rfl] at hx416_1)
              (try rw [show 0 * 6 = 0 from rfl] at hx416_1)
              (try rw [Addr.add_zero'] at hx416_1)
              (try rw [show ((0 : Int)).toNat = 0 from rfl] at hx416_2)
              (try rw [show 0 * 6 = 0 from rfl] at hx416_2)
              (try rw [Addr.add_zero'] at hx416_2)
              (try rw [show ((0 : Int)).toNat = 0 from rfl] at hx416_3)
              (try rw [show 0 * 6 = 0 from rfl] at hx416_3)
              (try rw [Addr.add_zero'] at hx416_3)
              (try rw [show ((0 : Int)).toNat = 0 from rfl] at hx416_4)
              (try rw [show 0 * 6 = 0 from rfl] at hx416_4)
              (try rw [Addr.add_zero'] at hx416_4)
              (try rw [show ((0 : Int)).toNat = 0 from rfl] at hx416_5)
              (try rw [show 0 * 6 = 0 from rfl] at hx416_5)
              (try rw [Addr.add_zero'] at hx416_5)
              replace hx416_0 := (HB.out.cell (World.block_lt_of_cell? w _ hx416_0)).trans hx416_0
              replace hx416_1 := (HB.out.cell (World.block_lt_of_cell? w _ hx416_1)).trans hx416_1
              replace hx416_2 := (HB.out.cell (World.block_lt_of_cell? w _ hx416_2)).trans hx416_2
              replace hx416_3 := (HB.out.cell (World.block_lt_of_cell? w _ hx416_3)).trans hx416_3
              replace hx416_4 := (HB.out.cell (World.block_lt_of_cell? w _ hx416_4)).trans hx416_4
              replace hx416_5 := (HB.out.cell (World.block_lt_of_cell? w _ hx416_5)).trans hx416_5
              replace p416 := eq_true p416
              replace q416 := eq_true q416
              have p417 : 0 ≤ (0 : Int) := (by omega)
              have q417 : 0 < (l3.length : Int) := of_decide_eq_true (by first | (with_reducible assumption) | assumption)
              obtain ⟨ad417, e417, hx417_0, hx417_1, hx417_2, hx417_3, hx417_4, hx417_5⟩ := at_T28 HR3.out 0 p417 q417
              obtain rfl : ad416 = ad417 := (by injection e417)
              have qi417 : (0 < l3.length) = True := eq_true (by omega)
              (try rw [show ((0 : Int)).toNat = 0 from rfl] at hx417_0)
              (try rw [show 0 * 6 = 0 from rfl] at hx417_0)
              (try rw [Addr.add_zero'] at hx417_0)
              (try rw [show ((0 : Int)).toNat = 0 from rfl] at hx417_1)
              (try rw [show 0 * 6 = 0 from rfl] at hx417_1)
              (try rw [Addr.add_zero'] at hx417_1)
              (try rw [show ((0 : Int)).toNat = 0 from rfl] at hx417_2)
              (try rw [show 0 * 6 = 0 from rfl] at hx417_2)
              (try rw [Addr.add_zero'] at hx417_2)
              (try rw [show ((0 : Int)).toNat = 0 from rfl] at hx417_3)
              (try rw [show 0 * 6 = 0 from rfl] at hx417_3)
              (try rw [Addr.add_zero'] at hx417_3)
              (try rw [show ((0 : Int)).toNat = 0 from rfl] at hx417_4)
              (try rw [show 0 * 6 = 0 from rfl] at hx417_4)
              (try rw [Addr.add_zero'] at hx417_4)
              (try rw [show ((0 : Int)).toNat = 0 from rfl] at hx417_5)
              (try rw [show 0 * 6 = 0 from rfl] at hx417_5)
              (try rw [Addr.add_zero'] at hx417_5)
              replace hx417_0 := (HB.out.cell (World.block_lt_of_cell? w _ hx417_0)).trans hx417_0
              replace hx417_1 := (HB.out.cell (World.block_lt_of_cell? w _ hx417_1)).trans hx417_1
              replace hx417_2 := (HB.out.cell (World.block_lt_of_cell? w _ hx417_2)).trans hx417_2
              replace hx417_3 := (HB.out.cell (World.block_lt_of_cell? w _ hx417_3)).trans hx417_3
              replace hx417_4 := (HB.out.cell (World.block_lt_of_cell? w _ hx417_4)).trans hx417_4
              replace hx417_5 := (HB.out.cell (World.block_lt_of_cell? w _ hx417_5)).trans hx417_5
              replace p417 := eq_true p417
              replace q417 := eq_true q417
              go_wp2
              go_ret
              exact ⟨by first | rfl | (simp [errW_none, errW_some] <;> rfl) | (simp [*, errW_none, errW_some] <;> rfl), by repeat (first | (with_reducible first | exact HB.out | apply below_alloc | apply pw_below_drewN | apply below_drew1) | exact HB.out)⟩
            ·replace c36 := Bool.eq_false_iff.mpr c36
             subst c36
             have H1 : (some false) = some r := by rw [if_neg (show ¬ (false = true) by decide)] at H; exact H
             clear H
             have H := H1
             clear H1
             obtain rfl := Option.some.inj H
             have p416 : 0 ≤ (0 : Int) := (by omega)
             have q416 : 0 < (l3.length : Int) := of_decide_eq_true (by first | (with_reducible assumption) | assumption)
             obtain ⟨ad416, e416, hx416_0, hx416_1, hx416_2, hx416_3, hx416_4, hx416_5⟩ := at_T28 HR3.out 0 p416 q416
             cases e416
             have qi416 : (0 < l3.length) = True := eq_true (by omega)
             (try rw [show ((0 : Int)).toNat = 0 from rfl] at hx416_0)
             (try rw [show 0 * 6 = 0 from rfl] at hx416_0)
             (try rw [Addr.add_zero'] at hx416_0)
             (try rw [show ((0 : Int)).toNat = 0 from rfl] at hx416_1)
             (try rw [show 0 * 6 = 0 from rfl] at hx416_1)
             (try rw [Addr.add_zero'] at hx416_1)
             (try rw [show ((0 : Int)).toNat = 0 from rfl] at hx416_2)
             (try rw [show 0 * 6 = 0 from rfl] at hx416_2)
             (try rw [Addr.add_zero'] at hx416_2)
             (try rw [show ((0 : Int)).toNat = 0 from rfl] at hx416_3)
             (try rw [show 0 * 6 = 0 from rfl] at hx416_3)
             (try rw [Addr.add_zero'] at hx416_3)
             (try rw [show ((0 : Int)).toNat = 0 from rfl] at hx416_4)
             (try rw [show 0 * 6 = 0 from rfl] at hx416_4)
             (try rw [Addr.add_zero'] at hx416_4)
             (try rw [show ((0 : Int)).toNat = 0 from rfl] at hx416_5)
             (try rw [show 0 * 6 = 0 from rfl] at hx416_5)
             (try rw [Addr.add_zero'] at hx416_5)
             replace hx416_0 := (HB.out.cell (World.block_lt_of_cell? w _ hx416_0)).trans hx416_0
             replace hx416_1 := (HB.out.cell (World.block_lt_of_cell? w _ hx416_1)).trans hx416_1
             replace hx416_2 := (HB.out.cell (World.block_lt_of_cell? w _ hx416_2)).trans hx416_2
             replace hx416_3 := (HB.out.cell (World.block_lt_of_cell? w _ hx416_3)).trans hx416_3
             replace hx416_4 := (HB.out.cell (World.block_lt_of_cell? w _ hx416_4)).trans hx416_4
             replace hx416_5 := (HB.out.cell (World.block_lt_of_cell? w _ hx416_5)).trans hx416_5
             replace p416 := eq_true p416
             replace q416 := eq_true q416
             have p417 : 0 ≤ (0 : Int) := (by omega)
             have q417 : 0 < (l3.length : Int) := of_decide_eq_true (by first | (with_reducible assumption) | assumption)
             obtain ⟨ad417, e417, hx417_0, hx417_1, hx417_2, hx417_3, hx417_4, hx417_5⟩ := at_T28 HR3.out 0 p417 q417
             obtain rfl : ad416 = ad417 := (by injection e417)
             have qi417 : (0 < l3.length) = True := eq_true (by omega)
             (try rw [show ((0 : Int)).toNat = 0 from rfl] at hx417_0)
             (try rw [show 0 * 6 = 0 from rfl] at hx417_0)
             (try rw [Addr.add_zero'] at hx417_0)
             (try rw [show ((0 : Int)).toNat = 0 from rfl] at hx417_1)
             (try rw [show 0 * 6 = 0 from rfl] at hx417_1)
             (try rw [Addr.add_zero'] at hx417_1)
             (try rw [show ((0 : Int)).toNat = 0 from rfl] at hx417_2)
             (try rw [show 0 * 6 = 0 from rfl] at hx417_2)
             (try rw [Addr.add_zero'] at hx417_2)
             (try rw [show ((0 : Int)).toNat = 0 from rfl] at hx417_3)
             (try rw [show 0 * 6 = 0 from rfl] at hx417_3)
             (try rw [Addr.add_zero'] at hx417_3)
             (try rw [show ((0 : Int)).toNat = 0 from rfl] at hx417_4)
             (try rw [show 0 * 6 = 0 from rfl] at hx417_4)
             (try rw [Addr.add_zero'] at hx417_4)
             (try rw [show ((0 : Int)).toNat = 0 from rfl] at hx417_5)
             (try rw [show 0 * 6 = 0 from rfl] at hx417_5)
             (try rw [Addr.add_zero'] at hx417_5)
             replace hx417_0 := (HB.out.cell (World.block_lt_of_cell? w _ hx417_0)).trans hx417_0
             replace hx417_1 := (HB.out.cell (World.block_lt_of_cell? w _ hx417_1)).trans hx417_1
             replace hx417_2 := (HB.out.cell (World.block_lt_of_cell? w _ hx417_2)).trans hx417_2
             replace hx417_3 := (HB.out.cell (World.block_lt_of_cell? w _ hx417_3)).trans hx417_3
             replace hx417_4 := (HB.out.cell (World.block_lt_of_cell? w _ hx417_4)).trans hx417_4
             replace hx417_5 := (HB.out.cell (World.block_lt_of_cell? w _ hx417_5)).trans hx417_5
             replace p417 := eq_true p417
             replace q417 := eq_true q417
             go_wp2
             go_ret
             exact ⟨by first | rfl | (simp [errW_none, errW_some] <;> rfl) | (simp [*, errW_none, errW_some] <;> rfl), by repeat (first | (with_reducible first | exact HB.out | apply below_alloc | apply pw_below_drewN | apply below_drew1) | exact HB.out)⟩
          ·rw [if_neg c32] at H
           have c32b0 : ((wrap64 (1 + (Int.tmod (wrap64 (a4)) 64))) == ((rd_T28 l3 0).f0)) = false := beq_eq_false_iff_ne.mpr c32
           have c32b1 : ((wrap64 (1 + (Int.tmod (wrap64 (a4)) 64))) != ((rd_T28 l3 0).f0)) = true := bne_iff_ne.mpr c32
           by_cases c38 : t403 = true
           ·subst c38
            have H1 : (if t410 = t413 then (some (t411 == t414)) else (some false)) = some r := by rw [if_pos rfl] at H; exact H
            clear H
            have H := H1
            clear H1
            by_cases c39 : t410 = t413
            ·rw [if_pos c39] at H
             have c39b0 : (t410 == t413) = true := beq_iff_eq.mpr c39
             have c39b1 : (t410 != t413) = false := bne_eq_false_iff_eq.mpr c39
             clear c39
             obtain rfl := Option.some.inj H
             have p416 : 0 ≤ (0 : Int) := (by omega)
             have q416 : 0 < (l3.length : Int) := of_decide_eq_true (by first | (with_reducible assumption) | assumption)
             obtain ⟨ad416, e416, hx416_0, hx416_1, hx416_2, hx416_3, hx416_4, hx416_5⟩ := at_T28 HR3.out 0 p416 q416
             cases e416
             have qi416 : (0 < l3.length) = True := eq_true (by omega)
             (try rw [show ((0 : Int)).toNat = 0 from rfl] at hx416_0)
             (try rw [show 0 * 6 = 0 from rfl] at hx416_0)
             (try rw [Addr.add_zero'] at hx416_0)
             (try rw [show ((0 : Int)).toNat = 0 from rfl] at hx416_1)
             (try rw [show 0 * 6 = 0 from rfl] at hx416_1)
             (try rw [Addr.add_zero'] at hx416_1)
             (try rw [show ((0 : Int)).toNat = 0 from rfl] at hx416_2)
             (try rw [show 0 * 6 = 0 from rfl] at hx416_2)
             (try rw [Addr.add_zero'] at hx416_2)
             (try rw [show ((0 : Int)).toNat = 0 from rfl] at hx416_3)
             (try rw [show 0 * 6 = 0 from rfl] at hx416_3)
             (try rw [Addr.add_zero'] at hx416_3)
             (try rw [show ((0 : Int)).toNat = 0 from rfl] at hx416_4)
             (try rw [show 0 * 6 = 0 from rfl] at hx416_4)
             (try rw [Addr.add_zero'] at hx416_4)
             (try rw [show ((0 : Int)).toNat = 0 from rfl] at hx416_5)
             (try rw [show 0 * 6 = 0 from rfl] at hx416_5)
             (try rw [Addr.add_zero'] at hx416_5)
             replace hx416_0 := (HB.out.cell (World.block_lt_of_cell? w _ hx416_0)).trans hx416_0
             replace hx416_1 := (HB.out.cell (World.block_lt_of_cell? w _ hx416_1)).trans hx416_1
             replace hx416_2 := (HB.out.cell (World.block_lt_of_cell? w _ hx416_2)).trans hx416_2
             replace hx416_3 := (HB.out.cell (World.block_lt_of_cell? w _ hx416_3)).trans hx416_3
             replace hx416_4 := (HB.out.cell (World.block_lt_of_cell? w _ hx416_4)).trans hx416_4
             replace hx416_5 := (HB.out.cell (World.block_lt_of_cell? w _ hx416_5)).trans hx416_5
             replace p416 := eq_true p416
             replace q416 := eq_true q416
             go_wp2
             go_ret
             exact ⟨by first | rfl | (simp [errW_none, errW_some] <;> rfl) | (simp [*, errW_none, errW_some] <;> rfl), by repeat (first | (with_reducible first | exact HB.out | apply below_alloc | apply pw_below_drewN | apply below_drew1) | exact HB.out)⟩
            ·rw [if_neg c39] at H
             have c39b0 : (t410 == t413) = false := beq_eq_false_iff_ne.mpr c39
             have c39b1 : (t410 != t413) = true := bne_iff_ne.mpr c39
             obtain rfl := Option.some.inj H
             have p416 : 0 ≤ (0 : Int) := (by omega)
             have q416 : 0 < (l3.length : Int) := of_decide_eq_true (by first | (with_reducible assumption) | assumption)
             obtain ⟨ad416, e416, hx416_0, hx416_1, hx416_2, hx416_3, hx416_4, hx416_5⟩ := at_T28 HR3.out 0 p416 q416
             cases e416
             have qi416 : (0 < l3.length) = True := eq_true (by omega)
             (try rw [show ((0 : Int)).toNat = 0 from rfl] at hx416_0)
             (try rw [show 0 * 6 = 0 from rfl] at hx416_0)
             (try rw [Addr.add_zero'] at hx416_0)
             (try rw [show ((0 : Int)).toNat = 0 from rfl] at hx416_1)
             (try rw [show 0 * 6 = 0 from rfl] at hx416_1)
             (try rw [Addr.add_zero'] at hx416_1)
             (try rw [show ((0 : Int)).toNat = 0 from rfl] at hx416_2)
             (try rw [show 0 * 6 = 0 from rfl] at hx416_2)
             (try rw [Addr.add_zero'] at hx416_2)
             (try rw [show ((0 : Int)).toNat = 0 from rfl] at hx416_3)
             (try rw [show 0 * 6 = 0 from rfl] at hx416_3)
             (try rw [Addr.add_zero'] at hx416_3)
             (try rw [show ((0 : Int)).toNat = 0 from rfl] at hx416_4)
             (try rw [show 0 * 6 = 0 from rfl] at hx416_4)
             (try rw [Addr.add_zero'] at hx416_4)
             (try rw [show ((0 : Int)).toNat = 0 from rfl] at hx416_5)
             (try rw [show 0 * 6 = 0 from rfl] at hx416_5)
             (try rw [Addr.add_zero'] at hx416_5)
             replace hx416_0 := (HB.out.cell (World.block_lt_of_cell? w _ hx416_0)).trans hx416_0
             replace hx416_1 := (HB.out.cell (World.block_lt_of_cell? w _ hx416_1)).trans hx416_1
             replace hx416_2 := (HB.out.cell (World.block_lt_of_cell? w _ hx416_2)).trans hx416_2
             replace hx416_3 := (HB.out.cell (World.block_lt_of_cell? w _ hx416_3)).trans hx416_3
             replace hx416_4 := (HB.out.cell (World.block_lt_of_cell? w _ hx416_4)).trans hx416_4
             replace hx416_5 := (HB.out.cell (World.block_lt_of_cell? w _ hx416_5)).trans hx416_5
             replace p416 := eq_true p416
             replace q416 := eq_true q416
             go_wp2
             go_ret
             exact ⟨by first | rfl | (simp [errW_none, errW_some] <;> rfl) | (simp [*, errW_none, errW_some] <;> rfl), by repeat (first | (with_reducible first | exact HB.out | apply below_alloc | apply pw_below_drewN | apply below_drew1) | exact HB.out)⟩
           ·replace c38 := Bool.eq_false_iff.mpr c38
            subst c38
            have H1 : (some false) = some r := by rw [if_neg (show ¬ (false = true) by decide)] at H; exact H
            clear H
            have H := H1
            clear H1
            obtain rfl := Option.some.inj H
            have p416 : 0 ≤ (0 : Int) := (by omega)
            have q416 : 0 < (l3.length : Int) := of_decide_eq_true (by first | (with_reducible assumption) | assumption)
            obtain ⟨ad416, e416, hx416_0, hx416_1, hx416_2, hx416_3, hx416_4, hx416_5⟩ := at_T28 HR3.out 0 p416 q416
            cases e416
            have qi416 : (0 < l3.length) = True := eq_true (by omega)
            (try rw [show ((0 : Int)).toNat = 0 from rfl] at hx416_0)
            (try rw [show 0 * 6 = 0 from rfl] at hx416_0)
            (try rw [Addr.add_zero'] at hx416_0)
            (try rw [show ((0 : Int)).toNat = 0 from rfl] at hx416_1)
            (try rw [show 0 * 6 = 0 from rfl] at hx416_1)
            (try rw [Addr.add_zero'] at hx416_1)
            (try rw [show ((0 : Int)).toNat = 0 from rfl] at hx416_2)
            (try rw [show 0 * 6 = 0 from rfl] at hx416_2)
            (try rw [Addr.add_zero'] at hx416_2)
            (try rw [show ((0 : Int)).toNat = 0 from rfl] at hx416_3)
            (try rw [show 0 * 6 = 0 from rfl] at hx416_3)
            (try rw [Addr.add_zero'] at hx416_3)
            (try rw [show ((0 : Int)).toNat = 0 from rfl] at hx416_4)
            (try rw [show 0 * 6 = 0 from rfl] at hx416_4)
            (try rw [Addr.add_zero'] at hx416_4)
            (try rw [show ((0 : Int)).toNat = 0 from rfl] at hx416_5)
            (try rw [show 0 * 6 = 0 from rfl] at hx416_5)
            (try rw [Addr.add_zero'] at hx416_5)
            replace hx416_0 := (HB.out.cell (World.block_lt_of_cell? w _ hx416_0)).trans hx416_0
            replace hx416_1 := (HB.out.cell (World.block_lt_of_cell? w _ hx416_1)).trans hx416_1
            replace hx416_2 := (HB.out.cell (World.block_lt_of_cell? w _ hx416_2)).trans hx416_2
            replace hx416_3 := (HB.out.cell (World.block_lt_of_cell? w _ hx416_3)).trans hx416_3
            replace hx416_4 := (HB.out.cell (World.block_lt_of_cell? w _ hx416_4)).trans hx416_4
            replace hx416_5 := (HB.out.cell (World.block_lt_of_cell? w _ hx416_5)).trans hx416_5
            replace p416 := eq_true p416
            replace q416 := eq_true q416
            go_wp2
            go_ret
            exact ⟨by first | rfl | (simp [errW_none, errW_some] <;> rfl) | (simp [*, errW_none, errW_some] <;> rfl), by repeat (first | (with_reducible first | exact HB.out | apply below_alloc | apply pw_below_drewN | apply below_drew1) | exact HB.out)⟩
         ·rw [if_neg c31] at H
          exact absurd H (by simp)
  ·rw [if_neg c11] at H
   have c11b0 : (t406 == 0) = false := beq_eq_false_iff_ne.mpr c11
   have c11b1 : (t406 != 0) = true := bne_iff_ne.mpr c11
   by_cases c40 : t403 = true
   ·subst c40
    have H1 : (some ((t405.length : Int) == 0)) = some r := by rw [if_pos rfl] at H; exact H
    clear H
    have H := H1
    clear H1
    obtain rfl := Option.some.inj H
    go_enter Tryd.func4, Tryd.ntmps4
    go_wp2_with (first | ((with_reducible refine gate_callee (f := 8) rfl ?_); refine goesL_ (some 24) rfl rfl Tryd.func8 (by kernel_rfl) rfl #[] rfl (by (try simp only [List.map_toArray, List.map_cons, List.map_nil]); first | done | rfl | (simp only [List.length_drop, List.length_take]; rfl)) ?_; (with_reducible refine (cohousinglaw20_head.calls  true _ ?side1 A7.out).mono ?_); (case side1 => exact TabOk.below HT.out (by repeat (first | (with_reducible first | exact HB.out | apply below_alloc | apply pw_below_drewN | apply below_drew1) | exact HB.out))); rintro e w41 ⟨rfl, hb⟩; refine ⟨_, rfl, ?_⟩; have n0_ := Aside0.mk (below_step (by repeat (first | (with_reducible first | exact HB.out | apply below_alloc | apply pw_below_drewN | apply below_drew1) | exact HB.out)) hb); clear HB; have HB := n0_; clear n0_; (try clear hb); (try clear hb2); (try clear hk); (try clear hi)) | ((with_reducible refine gate_callee (f := 9) rfl ?_); refine goesL_ (some 28) rfl rfl Tryd.func9 (by kernel_rfl) rfl #[.slice A0 l0.length c0, .slice A1 l1.length c1, .slice A3 l3.length c3] rfl (by (try simp only [List.map_toArray, List.map_cons, List.map_nil]); first | done | rfl | (simp only [List.length_drop, List.length_take]; rfl)) ?_; (with_reducible refine (cohousinglaw20_few.calls _ _ l0 _ _ l1 _ _ l3 true _ ?side1 ?side2 ?side3 ?side4 ?side5 ?side6 A8.out).mono ?_); (case side1 => repeat (first | exact (Kd.C_below HR0.out HB.out) | (with_reducible refine Kd.C_alloc ?_ _) | (with_reducible refine Kd.C_drewN ?_ _) | (with_reducible refine Kd.C_drew ?_))); (case side2 => exact HC0.out); (case side3 => repeat (first | exact (Kd.C_below HR1.out HB.out) | (with_reducible refine Kd.C_alloc ?_ _) | (with_reducible refine Kd.C_drewN ?_ _) | (with_reducible refine Kd.C_drew ?_))); (case side4 => exact HC1.out); (case side5 => repeat (first | exact (Kd.C_below HR3.out HB.out) | (with_reducible refine Kd.C_alloc ?_ _) | (with_reducible refine Kd.C_drewN ?_ _) | (with_reducible refine Kd.C_drew ?_))); (case side6 => exact HC3.out); rintro e w' ⟨rfl, ⟨nd, rfl⟩⟩; refine ⟨_, rfl, ?_⟩) | ((with_reducible refine gate_callee (f := 16) rfl ?_); refine goesL_ (some 36) rfl rfl Tryd.func16 (by kernel_rfl) rfl #[.slice A0 l0.length c0, .slice A1 l1.length c1, .int .i64 a2, .slice A3 l3.length c3] rfl (by (try simp only [List.map_toArray, List.map_cons, List.map_nil]); first | done | rfl | (simp only [List.length_drop, List.length_take]; rfl)) ?_; (with_reducible refine (keys_Renew.calls _ _ l0 _ _ l1 a2 _ _ l3 t405 t406 _ ?side1 ?side2 ?side3 ?side4 ?side5 ?side6 ?side7 A10.out).mono ?_); (case side1 => repeat (first | exact (Kd.C_below HR0.out (by repeat (first | (with_reducible first | exact HB.out | apply below_alloc | apply pw_below_drewN | apply below_drew1) | exact HB.out))) | (with_reducible refine Kd.C_alloc ?_ _) | (with_reducible refine Kd.C_drewN ?_ _) | (with_reducible refine Kd.C_drew ?_))); (case side2 => exact HC0.out); (case side3 => repeat (first | exact (Kd.C_below HR1.out (by repeat (first | (with_reducible first | exact HB.out | apply below_alloc | apply pw_below_drewN | apply below_drew1) | exact HB.out))) | (with_reducible refine Kd.C_alloc ?_ _) | (with_reducible refine Kd.C_drewN ?_ _) | (with_reducible refine Kd.C_drew ?_))); (case side4 => exact HC1.out); (case side5 => repeat (first | exact (Kd.C_below HR3.out (by repeat (first | (with_reducible first | exact HB.out | apply below_alloc | apply pw_below_drewN | apply below_drew1) | exact HB.out))) | (with_reducible refine Kd.C_alloc ?_ _) | (with_reducible refine Kd.C_drewN ?_ _) | (with_reducible refine Kd.C_drew ?_))); (case side6 => exact HC3.out); (case side7 => exact TabOk.below HT.out (by repeat (first | (with_reducible first | exact HB.out | apply below_alloc | apply pw_below_drewN | apply below_drew1) | exact HB.out))); rintro e w42 ⟨v407, rfl, ho0, hb⟩; refine ⟨_, rfl, ?_⟩; have n0_ := Aside0.mk (Kd.R_lower ho0 (below_size (by repeat (first | (with_reducible first | exact HB.out | apply below_alloc | apply pw_below_drewN | apply below_drew1) | exact HB.out)))); have n1_ := Aside0.mk (below_step (by repeat (first | (with_reducible first | exact HB.out | apply below_alloc | apply pw_below_drewN | apply below_drew1) | exact HB.out)) hb); clear HB; have HO408 := n0_; have HB := n1_; clear n0_ n1_; (try clear hb); (try clear hb2); (try clear hk); (try clear hi); (try clear ho0); obtain ⟨Ao43, co43, eo43⟩ := Kd.R_slice HO408.out; subst eo43))
    go_ret
    exact ⟨by first | rfl | (simp [errW_none, errW_some] <;> rfl) | (simp [*, errW_none, errW_some] <;> rfl), by repeat (first | (with_reducible first | exact HB.out | apply below_alloc | apply pw_below_drewN | apply below_drew1) | exact HB.out)⟩
   ·replace c40 := Bool.eq_false_iff.mpr c40
    subst c40
    have H1 : (some false) = some r := by rw [if_neg (show ¬ (false = true) by decide)] at H; exact H
    clear H
    have H := H1
    clear H1
    obtain rfl := Option.some.inj H
    go_enter Tryd.func4, Tryd.ntmps4
    go_wp2_with (first | ((with_reducible refine gate_callee (f := 8) rfl ?_); refine goesL_ (some 24) rfl rfl Tryd.func8 (by kernel_rfl) rfl #[] rfl (by (try simp only [List.map_toArray, List.map_cons, List.map_nil]); first | done | rfl | (simp only [List.length_drop, List.length_take]; rfl)) ?_; (with_reducible refine (cohousinglaw20_head.calls  false _ ?side1 A7.out).mono ?_); (case side1 => exact TabOk.below HT.out (by repeat (first | (with_reducible first | exact HB.out | apply below_alloc | apply pw_below_drewN | apply below_drew1) | exact HB.out))); rintro e w44 ⟨rfl, hb⟩; refine ⟨_, rfl, ?_⟩; have n0_ := Aside0.mk (below_step (by repeat (first | (with_reducible first | exact HB.out | apply below_alloc | apply pw_below_drewN | apply below_drew1) | exact HB.out)) hb); clear HB; have HB := n0_; clear n0_; (try clear hb); (try clear hb2); (try clear hk); (try clear hi)) | ((with_reducible refine gate_callee (f := 9) rfl ?_); refine goesL_ (some 28) rfl rfl Tryd.func9 (by kernel_rfl) rfl #[.slice A0 l0.length c0, .slice A1 l1.length c1, .slice A3 l3.length c3] rfl (by (try simp only [List.map_toArray, List.map_cons, List.map_nil]); first | done | rfl | (simp only [List.length_drop, List.length_take]; rfl)) ?_; (with_reducible refine (cohousinglaw20_few.calls _ _ l0 _ _ l1 _ _ l3 true _ ?side1 ?side2 ?side3 ?side4 ?side5 ?side6 A8.out).mono ?_); (case side1 => repeat (first | exact (Kd.C_below HR0.out HB.out) | (with_reducible refine Kd.C_alloc ?_ _) | (with_reducible refine Kd.C_drewN ?_ _) | (with_reducible refine Kd.C_drew ?_))); (case side2 => exact HC0.out); (case side3 => repeat (first | exact (Kd.C_below HR1.out HB.out) | (with_reducible refine Kd.C_alloc ?_ _) | (with_reducible refine Kd.C_drewN ?_ _) | (with_reducible refine Kd.C_drew ?_))); (case side4 => exact HC1.out); (case side5 => repeat (first | exact (Kd.C_below HR3.out HB.out) | (with_reducible refine Kd.C_alloc ?_ _) | (with_reducible refine Kd.C_drewN ?_ _) | (with_reducible refine Kd.C_drew ?_))); (case side6 => exact HC3.out); rintro e w' ⟨rfl, ⟨nd, rfl⟩⟩; refine ⟨_, rfl, ?_⟩) | ((with_reducible refine gate_callee (f := 16) rfl ?_); refine goesL_ (some 36) rfl rfl Tryd.func16 (by kernel_rfl) rfl #[.slice A0 l0.length c0, .slice A1 l1.length c1, .int .i64 a2, .slice A3 l3.length c3] rfl (by (try simp only [List.map_toArray, List.map_cons, List.map_nil]); first | done | rfl | (simp only [List.length_drop, List.length_take]; rfl)) ?_; (with_reducible refine (keys_Renew.calls _ _ l0 _ _ l1 a2 _ _ l3 t405 t406 _ ?side1 ?side2 ?side3 ?side4 ?side5 ?side6 ?side7 A10.out).mono ?_); (case side1 => repeat (first | exact (Kd.C_below HR0.out (by repeat (first | (with_reducible first | exact HB.out | apply below_alloc | apply pw_below_drewN | apply below_drew1) | exact HB.out))) | (with_reducible refine Kd.C_alloc ?_ _) | (with_reducible refine Kd.C_drewN ?_ _) | (with_reducible refine Kd.C_drew ?_))); (case side2 => exact HC0.out); (case side3 => repeat (first | exact (Kd.C_below HR1.out (by repeat (first | (with_reducible first | exact HB.out | apply below_alloc | apply pw_below_drewN | apply below_drew1) | exact HB.out))) | (with_reducible refine Kd.C_alloc ?_ _) | (with_reducible refine Kd.C_drewN ?_ _) | (with_reducible refine Kd.C_drew ?_))); (case side4 => exact HC1.out); (case side5 => repeat (first | exact (Kd.C_below HR3.out (by repeat (first | (with_reducible first | exact HB.out | apply below_alloc | apply pw_below_drewN | apply below_drew1) | exact HB.out))) | (with_reducible refine Kd.C_alloc ?_ _) | (with_reducible refine Kd.C_drewN ?_ _) | (with_reducible refine Kd.C_drew ?_))); (case side6 => exact HC3.out); (case side7 => exact TabOk.below HT.out (by repeat (first | (with_reducible first | exact HB.out | apply below_alloc | apply pw_below_drewN | apply below_drew1) | exact HB.out))); rintro e w45 ⟨v407, rfl, ho0, hb⟩; refine ⟨_, rfl, ?_⟩; have n0_ := Aside0.mk (Kd.R_lower ho0 (below_size (by repeat (first | (with_reducible first | exact HB.out | apply below_alloc | apply pw_below_drewN | apply below_drew1) | exact HB.out)))); have n1_ := Aside0.mk (below_step (by repeat (first | (with_reducible first | exact HB.out | apply below_alloc | apply pw_below_drewN | apply below_drew1) | exact HB.out)) hb); clear HB; have HO408 := n0_; have HB := n1_; clear n0_ n1_; (try clear hb); (try clear hb2); (try clear hk); (try clear hi); (try clear ho0)))
    go_ret
    exact ⟨by first | rfl | (simp [errW_none, errW_some] <;> rfl) | (simp [*, errW_none, errW_some] <;> rfl), by repeat (first | (with_reducible first | exact HB.out | apply below_alloc | apply pw_below_drewN | apply below_drew1) | exact HB.out)⟩
 ·replace c9 := Bool.eq_false_iff.mpr c9
  subst c9
  have H1 : (some t403) = some r := by rw [if_neg (show ¬ (false = true) by decide)] at H; exact H
  clear H
  have H := H1
  clear H1
  obtain rfl := Option.some.inj H
  go_enter Tryd.func4, Tryd.ntmps4
  go_wp2_with (first | ((with_reducible refine gate_callee (f := 8) rfl ?_); refine goesL_ (some 24) rfl rfl Tryd.func8 (by kernel_rfl) rfl #[] rfl (by (try simp only [List.map_toArray, List.map_cons, List.map_nil]); first | done | rfl | (simp only [List.length_drop, List.length_take]; rfl)) ?_; (with_reducible refine (cohousinglaw20_head.calls  t403 _ ?side1 A7.out).mono ?_); (case side1 => exact TabOk.below HT.out (by repeat (first | (with_reducible first | exact HB.out | apply below_alloc | apply pw_below_drewN | apply below_drew1) | exact HB.out))); rintro e w46 ⟨rfl, hb⟩; refine ⟨_, rfl, ?_⟩; have n0_ := Aside0.mk (below_step (by repeat (first | (with_reducible first | exact HB.out | apply below_alloc | apply pw_below_drewN | apply below_drew1) | exact HB.out)) hb); clear HB; have HB := n0_; clear n0_; (try clear hb); (try clear hb2); (try clear hk); (try clear hi)) | ((with_reducible refine gate_callee (f := 9) rfl ?_); refine goesL_ (some 28) rfl rfl Tryd.func9 (by kernel_rfl) rfl #[.slice A0 l0.length c0, .slice A1 l1.length c1, .slice A3 l3.length c3] rfl (by (try simp only [List.map_toArray, List.map_cons, List.map_nil]); first | done | rfl | (simp only [List.length_drop, List.length_take]; rfl)) ?_; (with_reducible refine (cohousinglaw20_few.calls _ _ l0 _ _ l1 _ _ l3 false _ ?side1 ?side2 ?side3 ?side4 ?side5 ?side6 A8.out).mono ?_); (case side1 => repeat (first | exact (Kd.C_below HR0.out HB.out) | (with_reducible refine Kd.C_alloc ?_ _) | (with_reducible refine Kd.C_drewN ?_ _) | (with_reducible refine Kd.C_drew ?_))); (case side2 => exact HC0.out); (case side3 => repeat (first | exact (Kd.C_below HR1.out HB.out) | (with_reducible refine Kd.C_alloc ?_ _) | (with_reducible refine Kd.C_drewN ?_ _) | (with_reducible refine Kd.C_drew ?_))); (case side4 => exact HC1.out); (case side5 => repeat (first | exact (Kd.C_below HR3.out HB.out) | (with_reducible refine Kd.C_alloc ?_ _) | (with_reducible refine Kd.C_drewN ?_ _) | (with_reducible refine Kd.C_drew ?_))); (case side6 => exact HC3.out); rintro e w' ⟨rfl, ⟨nd, rfl⟩⟩; refine ⟨_, rfl, ?_⟩))
  go_ret
  exact ⟨by first | rfl | (simp [errW_none, errW_some] <;> rfl) | (simp [*, errW_none, errW_some] <;> rfl), by repeat (first | (with_reducible first | exact HB.out | apply below_alloc | apply pw_below_drewN | apply below_drew1) | exact HB.out)⟩

end Go.Proofs.YtcnkenknbmmglaaDoor.P
