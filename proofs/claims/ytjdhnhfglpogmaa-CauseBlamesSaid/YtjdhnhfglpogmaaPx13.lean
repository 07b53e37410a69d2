-- Written by a program of this session out of the translation (wip/pp: the kit's print, turned). Not trusted: Lean checks it.
import Derived.Test.YtjdhnhfglpogmaaPx0
import Derived.Test.YtjdhnhfglpogmaaPx1
import Derived.Test.YtjdhnhfglpogmaaPx6
import Derived.Test.YtjdhnhfglpogmaaPx8
import Derived.Test.YtjdhnhfglpogmaaXC
import Derived.Test.YtjdhnhfglpogmaaXhead
namespace Go.Proofs.Ytjdhnhfglpogmaa.P
open Go.RowKit Go.Proofs.YtjdhnhfglpogmaaW.PrintWords Go.Proofs.YtjdhnhfglpogmaaW.PrintLast Go.Proofs.YtjdhnhfglpogmaaW.PrintMore
attribute [local go_sem] max2_int min2_int max_two min_two max_three min_three max_four min_four   -- for this text's walks alone
set_option linter.unusedVariables false
set_option linter.unusedSimpArgs false

/-! ### cohousinglaw36_blamed: function 28 -/
def cohousinglaw36_blamed.f (k : Nat) (l0 : List (S44)) (l1 : List Bool) (a2 : Int) (a3 : Int) : Option (Bool) := (cause_Run.f l0 l1).bind fun bt348 => ((cohousingref36_Without.f k l0 l1 a2).bind fun t352 => ((cause_Run.f l0 t352).bind fun bt355 => (if bt348.2 = 0 then (if bt355.2 = 0 then (if (bt348.1.length : Int) = (l0.length : Int) then (if (bt355.1.length : Int) = (l0.length : Int) then (if 0 ≤ a3 then (if a3 < (bt348.1.length : Int) then (if rdOf false bt348.1 a3 = true then (if a3 < (bt355.1.length : Int) then (some (!(rdOf false bt355.1 a3))) else (none)) else (some false)) else (none)) else (none)) else (some false)) else (some false)) else (some false)) else (some false))))
theorem cohousinglaw36_blamed.mono : ∀ a0 a1 a2 a3 k, LeO (cohousinglaw36_blamed.f k a0 a1 a2 a3) (cohousinglaw36_blamed.f (k + 1) a0 a1 a2 a3) := by
 intro a0 a1 a2 a3 k
 unfold cohousinglaw36_blamed.f
 repeat' first
   | (with_reducible exact cohousingref36_Without.mono _ _ _ _)
   | (with_reducible exact LeO.refl _)
   | (with_reducible exact LeO.none _)
   | (with_reducible refine LeO.ite ?_ ?_)
   | (with_reducible refine LeO.bind ?_ (fun _ => ?_))
   | exact cohousingref36_Without.mono _ _ _ _
   | exact LeO.none _
   | refine LeO.ite ?_ ?_
   | refine LeO.bind ?_ (fun _ => ?_)
set_option maxHeartbeats 8000000 in
set_option maxRecDepth 100000 in
theorem cohousinglaw36_blamed.calls (k : Nat) (A0 : Option Addr) (c0 : Nat) (l0 : List (S44)) (A1 : Option Addr) (c1 : Nat) (l1 : List Bool) (a2 : Int) (a3 : Int) (r : Bool) (w : World) (hr0 : Kd.C k44 w A0 l0.length l0) (hc0 : l0.length ≤ c0) (hr1 : Kd.C Kd.bool w A1 l1.length l1) (hc1 : l1.length ≤ c1) (h : cohousinglaw36_blamed.f k l0 l1 a2 a3 = some r) :
  Calls Try.prog 28 #[.slice A0 l0.length c0, .slice A1 l1.length c1, .int .i64 a2, .int .i64 a3] w fun e w' => e = .returned (.bool r) ∧ Below w.heap.size w w' := by
 have HR0 := Aside0.mk hr0
 have HC0 := Aside0.mk hc0
 clear hr0 hc0
 have HR1 := Aside0.mk hr1
 have HC1 := Aside0.mk hc1
 clear hr1 hc1
 have HB := Aside0.mk (Below.refl w.heap.size w)
 have H : ((cause_Run.f l0 l1).bind fun bt348 => ((cohousingref36_Without.f k l0 l1 a2).bind fun t352 => ((cause_Run.f l0 t352).bind fun bt355 => (if bt348.2 = 0 then (if bt355.2 = 0 then (if (bt348.1.length : Int) = (l0.length : Int) then (if (bt355.1.length : Int) = (l0.length : Int) then (if 0 ≤ a3 then (if a3 < (bt348.1.length : Int) then (if rdOf false bt348.1 a3 = true then (if a3 < (bt355.1.length : Int) then (some (!(rdOf false bt355.1 a3))) else (none)) else (some false)) else (none)) else (none)) else (some false)) else (some false)) else (some false)) else (some false))))) = some r := h
 clear h
 replace H := Option.bind_eq_some_iff.mp H
 obtain ⟨⟨t348, t349⟩, A50, H⟩ := H
 replace H : ((cohousingref36_Without.f k l0 l1 a2).bind fun t352 => ((cause_Run.f l0 t352).bind fun bt355 => (if t349 = 0 then (if bt355.2 = 0 then (if (t348.length : Int) = (l0.length : Int) then (if (bt355.1.length : Int) = (l0.length : Int) then (if 0 ≤ a3 then (if a3 < (t348.length : Int) then (if rdOf false t348 a3 = true then (if a3 < (bt355.1.length : Int) then (some (!(rdOf false bt355.1 a3))) else (none)) else (some false)) else (none)) else (none)) else (some false)) else (some false)) else (some false)) else (some false)))) = some r := H
 have A5 := Aside0.mk A50
 clear A50
 replace H := Option.bind_eq_some_iff.mp H
 obtain ⟨t352, A60, H⟩ := H
 replace H : ((cause_Run.f l0 t352).bind fun bt355 => (if t349 = 0 then (if bt355.2 = 0 then (if (t348.length : Int) = (l0.length : Int) then (if (bt355.1.length : Int) = (l0.length : Int) then (if 0 ≤ a3 then (if a3 < (t348.length : Int) then (if rdOf false t348 a3 = true then (if a3 < (bt355.1.length : Int) then (some (!(rdOf false bt355.1 a3))) else (none)) else (some false)) else (none)) else (none)) else (some false)) else (some false)) else (some false)) else (some false))) = some r := H
 have A6 := Aside0.mk A60
 clear A60
 replace H := Option.bind_eq_some_iff.mp H
 obtain ⟨⟨t355, t356⟩, A70, H⟩ := H
 replace H : (if t349 = 0 then (if t356 = 0 then (if (t348.length : Int) = (l0.length : Int) then (if (t355.length : Int) = (l0.length : Int) then (if 0 ≤ a3 then (if a3 < (t348.length : Int) then (if rdOf false t348 a3 = true then (if a3 < (t355.length : Int) then (some (!(rdOf false t355 a3))) else (none)) else (some false)) else (none)) else (none)) else (some false)) else (some false)) else (some false)) else (some false)) = some r := H
 have A7 := Aside0.mk A70
 clear A70
 by_cases c8 : t349 = 0
 ·rw [if_pos c8] at H
  have c8b0 : (t349 == 0) = true := beq_iff_eq.mpr c8
  have c8b1 : (t349 != 0) = false := bne_eq_false_iff_eq.mpr c8
  clear c8
  by_cases c9 : t356 = 0
  ·rw [if_pos c9] at H
   have c9b0 : (t356 == 0) = true := beq_iff_eq.mpr c9
   have c9b1 : (t356 != 0) = false := bne_eq_false_iff_eq.mpr c9
   clear c9
   by_cases c10 : (t348.length : Int) = (l0.length : Int)
   ·rw [if_pos c10] at H
    have c10b0 : ((t348.length : Int) == (l0.length : Int)) = true := beq_iff_eq.mpr c10
    have c10b1 : ((t348.length : Int) != (l0.length : Int)) = false := bne_eq_false_iff_eq.mpr c10
    have c10b2 : (t348.length == l0.length) = true := by first | simpa using c10 | (simp at c10 ⊢; omega)
    clear c10
    by_cases c11 : (t355.length : Int) = (l0.length : Int)
    ·rw [if_pos c11] at H
     have c11b0 : ((t355.length : Int) == (l0.length : Int)) = true := beq_iff_eq.mpr c11
     have c11b1 : ((t355.length : Int) != (l0.length : Int)) = false := bne_eq_false_iff_eq.mpr c11
     have c11b2 : (t355.length == l0.length) = true := by first | simpa using c11 | (simp at c11 ⊢; omega)
     clear c11
     by_cases c12 : 0 ≤ a3
     ·rw [if_pos c12] at H
      have c12b0 : decide (0 ≤ a3) = true := decide_eq_true c12
      clear c12
      by_cases c13 : a3 < (t348.length : Int)
      ·rw [if_pos c13] at H
       have c13b0 : decide (a3 < (t348.length : Int)) = true := decide_eq_true c13
       clear c13
       obtain ⟨bq14, hbq14⟩ : ∃ b_ : Bool, b_ = (rdOf false t348 a3) := ⟨_, rfl⟩
       replace H : (if bq14 = true then (if a3 < (t355.length : Int) then (some (!(rdOf false t355 a3))) else (none)) else (some false)) = some r := by rw [← hbq14] at H; exact H
       have Nbq14 := Aside0.mk hbq14
       clear hbq14
       by_cases c15 : bq14 = true
       ·subst c15
        have H1 : (if a3 < (t355.length : Int) then (some (!(rdOf false t355 a3))) else (none)) = some r := by rw [if_pos rfl] at H; exact H
        clear H
        have H := H1
        clear H1
        by_cases c16 : a3 < (t355.length : Int)
        ·rw [if_pos c16] at H
         have c16b0 : decide (a3 < (t355.length : Int)) = true := decide_eq_true c16
         clear c16
         obtain rfl := Option.some.inj H
         go_enter Try.func28, Try.ntmps28
         go_wp2_with (first | ((with_reducible refine gate_callee (f := 13) rfl ?_); refine goesL_ (some 16) rfl rfl Try.func13 (by kernel_rfl) rfl #[.slice A0 l0.length c0, .slice A1 l1.length c1] rfl (by (try simp only [List.map_toArray, List.map_cons, List.map_nil]); first | done | rfl | (simp only [List.length_drop, List.length_take]; rfl)) ?_; (with_reducible refine (cause_Run.calls _ _ l0 _ _ l1 t348 t349 _ ?side1 ?side2 ?side3 ?side4 A5.out).mono ?_); (case side1 => repeat (first | exact HR0.out | (with_reducible refine Kd.C_alloc ?_ _) | (with_reducible refine Kd.C_drewN ?_ _) | (with_reducible refine Kd.C_drew ?_))); (case side2 => exact HC0.out); (case side3 => repeat (first | exact HR1.out | (with_reducible refine Kd.C_alloc ?_ _) | (with_reducible refine Kd.C_drewN ?_ _) | (with_reducible refine Kd.C_drew ?_))); (case side4 => exact HC1.out); rintro e w17 ⟨v350, rfl, ho0, hb⟩; refine ⟨_, rfl, ?_⟩; have n0_ := Aside0.mk (Kd.R_lower ho0 (below_size (by repeat (first | (with_reducible first | exact HB.out | apply below_alloc | apply pw_below_drewN | apply below_drew1) | exact HB.out)))); have n1_ := Aside0.mk (below_step (by repeat (first | (with_reducible first | exact HB.out | apply below_alloc | apply pw_below_drewN | apply below_drew1) | exact HB.out)) hb); clear HB; have HO351 := n0_; have HB := n1_; clear n0_ n1_; (try clear hb); (try clear hb2); (try clear hk); (try clear hi); (try clear ho0)) | ((with_reducible refine gate_callee (f := 45) rfl ?_); refine goesL_ (some 24) rfl rfl Try.func45 (by kernel_rfl) rfl #[.slice A0 l0.length c0, .slice A1 l1.length c1, .int .i64 a2] rfl (by (try simp only [List.map_toArray, List.map_cons, List.map_nil]); first | done | rfl | (simp only [List.length_drop, List.length_take]; rfl)) ?_; (with_reducible refine (cohousingref36_Without.calls k _ _ l0 _ _ l1 a2 t352 _ ?side1 ?side2 ?side3 ?side4 A6.out).mono ?_); (case side1 => repeat (first | exact (Kd.C_below HR0.out HB.out) | (with_reducible refine Kd.C_alloc ?_ _) | (with_reducible refine Kd.C_drewN ?_ _) | (with_reducible refine Kd.C_drew ?_))); (case side2 => exact HC0.out); (case side3 => repeat (first | exact (Kd.C_below HR1.out HB.out) | (with_reducible refine Kd.C_alloc ?_ _) | (with_reducible refine Kd.C_drewN ?_ _) | (with_reducible refine Kd.C_drew ?_))); (case side4 => exact HC1.out); rintro e w18 ⟨v353, rfl, ho0, hb⟩; refine ⟨_, rfl, ?_⟩; have n0_ := Aside0.mk (Kd.R_elder' (by (with_reducible repeat (first | apply Kd.R_alloc | apply Kd.R_drewN | apply Kd.R_drew)); exact HO351.out) (Kd.R_base ho0) hb); have n1_ := Aside0.mk (Kd.R_lower (Kd.R_new' ho0 (Kd.R_lt (by (with_reducible repeat (first | apply Kd.R_alloc | apply Kd.R_drewN | apply Kd.R_drew)); exact HO351.out))) (below_size (by repeat (first | (with_reducible first | exact HB.out | apply below_alloc | apply pw_below_drewN | apply below_drew1) | exact HB.out)))); have n2_ := Aside0.mk (below_step (by repeat (first | (with_reducible first | exact HB.out | apply below_alloc | apply pw_below_drewN | apply below_drew1) | exact HB.out)) hb); clear HO351; clear HB; have HO351 := n0_; have HO354 := n1_; have HB := n2_; clear n0_ n1_ n2_; (try clear hb); (try clear hb2); (try clear hk); (try clear hi); (try clear ho0); obtain ⟨Ao19, co19, eo19⟩ := Kd.R_slice HO354.out; subst eo19) | ((with_reducible refine gate_callee (f := 13) rfl ?_); refine goesL_ (some 25) rfl rfl Try.func13 (by kernel_rfl) rfl #[.slice A0 l0.length c0, .slice Ao19 t352.length co19] rfl (by (try simp only [List.map_toArray, List.map_cons, List.map_nil]); first | done | rfl | (simp only [List.length_drop, List.length_take]; rfl)) ?_; (with_reducible refine (cause_Run.calls _ _ l0 _ _ t352 t355 t356 _ ?side1 ?side2 ?side3 ?side4 A7.out).mono ?_); (case side1 => repeat (first | exact (Kd.C_below HR0.out HB.out) | (with_reducible refine Kd.C_alloc ?_ _) | (with_reducible refine Kd.C_drewN ?_ _) | (with_reducible refine Kd.C_drew ?_))); (case side2 => exact HC0.out); (case side3 => repeat (first | exact (Kd.R_reads' HO354.out).2.2 | (with_reducible refine Kd.C_alloc ?_ _) | (with_reducible refine Kd.C_drewN ?_ _) | (with_reducible refine Kd.C_drew ?_))); (case side4 => exact (Kd.R_reads' HO354.out).2.1); rintro e w20 ⟨v357, rfl, ho0, hb⟩; refine ⟨_, rfl, ?_⟩; have n0_ := Aside0.mk (Kd.R_elder' (by (with_reducible repeat (first | apply Kd.R_alloc | apply Kd.R_drewN | apply Kd.R_drew)); exact HO351.out) (Kd.R_base ho0) hb); have n1_ := Aside0.mk (Kd.R_elder' (by (with_reducible repeat (first | apply Kd.R_alloc | apply Kd.R_drewN | apply Kd.R_drew)); exact HO354.out) (Kd.R_base ho0) hb); have n2_ := Aside0.mk (Kd.R_lower (Kd.R_new' (Kd.R_new' ho0 (Kd.R_lt (by (with_reducible repeat (first | apply Kd.R_alloc | apply Kd.R_drewN | apply Kd.R_drew)); exact HO351.out))) (Kd.R_lt (by (with_reducible repeat (first | apply Kd.R_alloc | apply Kd.R_drewN | apply Kd.R_drew)); exact HO354.out))) (below_size (by repeat (first | (with_reducible first | exact HB.out | apply below_alloc | apply pw_below_drewN | apply below_drew1) | exact HB.out)))); have n3_ := Aside0.mk (below_step (by repeat (first | (with_reducible first | exact HB.out | apply below_alloc | apply pw_below_drewN | apply below_drew1) | exact HB.out)) hb); clear HO351; clear HO354; clear HB; have HO351 := n0_; have HO354 := n1_; have HO358 := n2_; have HB := n3_; clear n0_ n1_ n2_ n3_; (try clear hb); (try clear hb2); (try clear hk); (try clear hi); (try clear ho0); obtain ⟨Ao21, co21, eo21⟩ := Kd.R_slice HO351.out; subst eo21; obtain ⟨Ao22, co22, eo22⟩ := Kd.R_slice HO358.out; subst eo22; have p359 : 0 ≤ (a3 : Int) := of_decide_eq_true (by first | (with_reducible assumption) | assumption); have q359 : a3 < (t348.length : Int) := of_decide_eq_true (by first | (with_reducible assumption) | assumption); obtain ⟨ad359, e359, hx359_0⟩ := Kd.at_bool (Kd.R_reads' HO351.out).2.2 a3 p359 q359; (try rw [← Nbq14.out] at hx359_0); cases e359; replace p359 := eq_true p359; replace q359 := eq_true q359; have p360 : 0 ≤ (a3 : Int) := of_decide_eq_true (by first | (with_reducible assumption) | assumption); have q360 : a3 < (t355.length : Int) := of_decide_eq_true (by first | (with_reducible assumption) | assumption); obtain ⟨ad360, e360, hx360_0⟩ := Kd.at_bool (Kd.R_reads' HO358.out).2.2 a3 p360 q360; (try rw [← Nbq14.out] at hx360_0); cases e360; replace p360 := eq_true p360; replace q360 := eq_true q360))
         go_ret
         exact ⟨by first | rfl | (simp [errW_none, errW_some] <;> rfl) | (simp [*, errW_none, errW_some] <;> rfl), by repeat (first | (with_reducible first | exact HB.out | apply below_alloc | apply pw_below_drewN | apply below_drew1) | exact HB.out)⟩
        ·rw [if_neg c16] at H
         exact absurd H (by simp)
       ·replace c15 := Bool.eq_false_iff.mpr c15
        subst c15
        have H1 : (some false) = some r := by rw [if_neg (show ¬ (false = true) by decide)] at H; exact H
        clear H
        have H := H1
        clear H1
        obtain rfl := Option.some.inj H
        go_enter Try.func28, Try.ntmps28
        go_wp2_with (first | ((with_reducible refine gate_callee (f := 13) rfl ?_); refine goesL_ (some 16) rfl rfl Try.func13 (by kernel_rfl) rfl #[.slice A0 l0.length c0, .slice A1 l1.length c1] rfl (by (try simp only [List.map_toArray, List.map_cons, List.map_nil]); first | done | rfl | (simp only [List.length_drop, List.length_take]; rfl)) ?_; (with_reducible refine (cause_Run.calls _ _ l0 _ _ l1 t348 t349 _ ?side1 ?side2 ?side3 ?side4 A5.out).mono ?_); (case side1 => repeat (first | exact HR0.out | (with_reducible refine Kd.C_alloc ?_ _) | (with_reducible refine Kd.C_drewN ?_ _) | (with_reducible refine Kd.C_drew ?_))); (case side2 => exact HC0.out); (case side3 => repeat (first | exact HR1.out | (with_reducible refine Kd.C_alloc ?_ _) | (with_reducible refine Kd.C_drewN ?_ _) | (with_reducible refine Kd.C_drew ?_))); (case side4 => exact HC1.out); rintro e w23 ⟨v350, rfl, ho0, hb⟩; refine ⟨_, rfl, ?_⟩; have n0_ := Aside0.mk (Kd.R_lower ho0 (below_size (by repeat (first | (with_reducible first | exact HB.out | apply below_alloc | apply pw_below_drewN | apply below_drew1) | exact HB.out)))); have n1_ := Aside0.mk (below_step (by repeat (first | (with_reducible first | exact HB.out | apply below_alloc | apply pw_below_drewN | apply below_drew1) | exact HB.out)) hb); clear HB; have HO351 := n0_; have HB := n1_; clear n0_ n1_; (try clear hb); (try clear hb2); (try clear hk); (try clear hi); (try clear ho0)) | ((with_reducible refine gate_callee (f := 45) rfl ?_); refine goesL_ (some 24) rfl rfl Try.func45 (by kernel_rfl) rfl #[.slice A0 l0.length c0, .slice A1 l1.length c1, .int .i64 a2] rfl (by (try simp only [List.map_toArray, List.map_cons, List.map_nil]); first | done | rfl | (simp only [List.length_drop, List.length_take]; rfl)) ?_; (with_reducible refine (cohousingref36_Without.calls k _ _ l0 _ _ l1 a2 t352 _ ?side1 ?side2 ?side3 ?side4 A6.out).mono ?_); (case side1 => repeat (first | exact (Kd.C_below HR0.out HB.out) | (with_reducible refine Kd.C_alloc ?_ _) | (with_reducible refine Kd.C_drewN ?_ _) | (with_reducible refine Kd.C_drew ?_))); (case side2 => exact HC0.out); (case side3 => repeat (first | exact (Kd.C_below HR1.out HB.out) | (with_reducible refine Kd.C_alloc ?_ _) | (with_reducible refine Kd.C_drewN ?_ _) | (with_reducible refine Kd.C_drew ?_))); (case side4 => exact HC1.out); rintro e w24 ⟨v353, rfl, ho0, hb⟩; refine ⟨_, rfl, ?_⟩; have n0_ := Aside0.mk (Kd.R_elder' (by (with_reducible repeat (first | apply Kd.R_alloc | apply Kd.R_drewN | apply Kd.R_drew)); exact HO351.out) (Kd.R_base ho0) hb); have n1_ := Aside0.mk (Kd.R_lower (Kd.R_new' ho0 (Kd.R_lt (by (with_reducible repeat (first | apply Kd.R_alloc | apply Kd.R_drewN | apply Kd.R_drew)); exact HO351.out))) (below_size (by repeat (first | (with_reducible first | exact HB.out | apply below_alloc | apply pw_below_drewN | apply below_drew1) | exact HB.out)))); have n2_ := Aside0.mk (below_step (by repeat (first | (with_reducible first | exact HB.out | apply below_alloc | apply pw_below_drewN | apply below_drew1) | exact HB.out)) hb); clear HO351; clear HB; have HO351 := n0_; have HO354 := n1_; have HB := n2_; clear n0_ n1_ n2_; (try clear hb); (try clear hb2); (try clear hk); (try clear hi); (try clear ho0); obtain ⟨Ao25, co25, eo25⟩ := Kd.R_slice HO354.out; subst eo25) | ((with_reducible refine gate_callee (f := 13) rfl ?_); refine goesL_ (some 25) rfl rfl Try.func13 (by kernel_rfl) rfl #[.slice A0 l0.length c0, .slice Ao25 t352.length co25] rfl (by (try simp only [List.map_toArray, List.map_cons, List.map_nil]); first | done | rfl | (simp only [List.length_drop, List.length_take]; rfl)) ?_; (with_reducible refine (cause_Run.calls _ _ l0 _ _ t352 t355 t356 _ ?side1 ?side2 ?side3 ?side4 A7.out).mono ?_); (case side1 => repeat (first | exact (Kd.C_below HR0.out HB.out) | (with_reducible refine Kd.C_alloc ?_ _) | (with_reducible refine Kd.C_drewN ?_ _) | (with_reducible refine Kd.C_drew ?_))); (case side2 => exact HC0.out); (case side3 => repeat (first | exact (Kd.R_reads' HO354.out).2.2 | (with_reducible refine Kd.C_alloc ?_ _) | (with_reducible refine Kd.C_drewN ?_ _) | (with_reducible refine Kd.C_drew ?_))); (case side4 => exact (Kd.R_reads' HO354.out).2.1); rintro e w26 ⟨v357, rfl, ho0, hb⟩; refine ⟨_, rfl, ?_⟩; have n0_ := Aside0.mk (Kd.R_elder' (by (with_reducible repeat (first | apply Kd.R_alloc | apply Kd.R_drewN | apply Kd.R_drew)); exact HO351.out) (Kd.R_base ho0) hb); have n1_ := Aside0.mk (Kd.R_elder' (by (with_reducible repeat (first | apply Kd.R_alloc | apply Kd.R_drewN | apply Kd.R_drew)); exact HO354.out) (Kd.R_base ho0) hb); have n2_ := Aside0.mk (Kd.R_lower (Kd.R_new' (Kd.R_new' ho0 (Kd.R_lt (by (with_reducible repeat (first | apply Kd.R_alloc | apply Kd.R_drewN | apply Kd.R_drew)); exact HO351.out))) (Kd.R_lt (by (with_reducible repeat (first | apply Kd.R_alloc | apply Kd.R_drewN | apply Kd.R_drew)); exact HO354.out))) (below_size (by repeat (first | (with_reducible first | exact HB.out | apply below_alloc | apply pw_below_drewN | apply below_drew1) | exact HB.out)))); have n3_ := Aside0.mk (below_step (by repeat (first | (with_reducible first | exact HB.out | apply below_alloc | apply pw_below_drewN | apply below_drew1) | exact HB.out)) hb); clear HO351; clear HO354; clear HB; have HO351 := n0_; have HO354 := n1_; have HO358 := n2_; have HB := n3_; clear n0_ n1_ n2_ n3_; (try clear hb); (try clear hb2); (try clear hk); (try clear hi); (try clear ho0); obtain ⟨Ao27, co27, eo27⟩ := Kd.R_slice HO351.out; subst eo27; obtain ⟨Ao28, co28, eo28⟩ := Kd.R_slice HO358.out; subst eo28; have p359 : 0 ≤ (a3 : Int) := of_decide_eq_true (by first | (with_reducible assumption) | assumption); have q359 : a3 < (t348.length : Int) := of_decide_eq_true (by first | (with_reducible assumption) | assumption); obtain ⟨ad359, e359, hx359_0⟩ := Kd.at_bool (Kd.R_reads' HO351.out).2.2 a3 p359 q359; (try rw [← Nbq14.out] at hx359_0); cases e359; replace p359 := eq_true p359; replace q359 := eq_true q359))
        go_ret
        exact ⟨by first | rfl | (simp [errW_none, errW_some] <;> rfl) | (simp [*, errW_none, errW_some] <;> rfl), by repeat (first | (with_reducible first | exact HB.out | apply below_alloc | apply pw_below_drewN | apply below_drew1) | exact HB.out)⟩
      ·rw [if_neg c13] at H
       exact absurd H (by simp)
     ·rw [if_neg c12] at H
      exact absurd H (by simp)
    ·rw [if_neg c11] at H
     have c11b0 : ((t355.length : Int) == (l0.length : Int)) = false := beq_eq_false_iff_ne.mpr c11
     have c11b1 : ((t355.length : Int) != (l0.length : Int)) = true := bne_iff_ne.mpr c11
     have c11b2 : (t355.length == l0.length) = false := by first | simpa using c11 | (simp at c11 ⊢; omega)
     obtain rfl := Option.some.inj H
     go_enter Try.func28, Try.ntmps28
     go_wp2_with (first | ((with_reducible refine gate_callee (f := 13) rfl ?_); refine goesL_ (some 16) rfl rfl Try.func13 (by kernel_rfl) rfl #[.slice A0 l0.length c0, .slice A1 l1.length c1] rfl (by (try simp only [List.map_toArray, List.map_cons, List.map_nil]); first | done | rfl | (simp only [List.length_drop, List.length_take]; rfl)) ?_; (with_reducible refine (cause_Run.calls _ _ l0 _ _ l1 t348 t349 _ ?side1 ?side2 ?side3 ?side4 A5.out).mono ?_); (case side1 => repeat (first | exact HR0.out | (with_reducible refine Kd.C_alloc ?_ _) | (with_reducible refine Kd.C_drewN ?_ _) | (with_reducible refine Kd.C_drew ?_))); (case side2 => exact HC0.out); (case side3 => repeat (first | exact HR1.out | (with_reducible refine Kd.C_alloc ?_ _) | (with_reducible refine Kd.C_drewN ?_ _) | (with_reducible refine Kd.C_drew ?_))); (case side4 => exact HC1.out); rintro e w29 ⟨v350, rfl, ho0, hb⟩; refine ⟨_, rfl, ?_⟩; have n0_ := Aside0.mk (Kd.R_lower ho0 (below_size (by repeat (first | (with_reducible first | exact HB.out | apply below_alloc | apply pw_below_drewN | apply below_drew1) | exact HB.out)))); have n1_ := Aside0.mk (below_step (by repeat (first | (with_reducible first | exact HB.out | apply below_alloc | apply pw_below_drewN | apply below_drew1) | exact HB.out)) hb); clear HB; have HO351 := n0_; have HB := n1_; clear n0_ n1_; (try clear hb); (try clear hb2); (try clear hk); (try clear hi); (try clear ho0)) | ((with_reducible refine gate_callee (f := 45) rfl ?_); refine goesL_ (some 24) rfl rfl Try.func45 (by kernel_rfl) rfl #[.slice A0 l0.length c0, .slice A1 l1.length c1, .int .i64 a2] rfl (by (try simp only [List.map_toArray, List.map_cons, List.map_nil]); first | done | rfl | (simp only [List.length_drop, List.length_take]; rfl)) ?_; (with_reducible refine (cohousingref36_Without.calls k _ _ l0 _ _ l1 a2 t352 _ ?side1 ?side2 ?side3 ?side4 A6.out).mono ?_); (case side1 => repeat (first | exact (Kd.C_below HR0.out HB.out) | (with_reducible refine Kd.C_alloc ?_ _) | (with_reducible refine Kd.C_drewN ?_ _) | (with_reducible refine Kd.C_drew ?_))); (case side2 => exact HC0.out); (case side3 => repeat (first | exact (Kd.C_below HR1.out HB.out) | (with_reducible refine Kd.C_alloc ?_ _) | (with_reducible refine Kd.C_drewN ?_ _) | (with_reducible refine Kd.C_drew ?_))); (case side4 => exact HC1.out); rintro e w30 ⟨v353, rfl, ho0, hb⟩; refine ⟨_, rfl, ?_⟩; have n0_ := Aside0.mk (Kd.R_elder' (by (with_reducible repeat (first | apply Kd.R_alloc | apply Kd.R_drewN | apply Kd.R_drew)); exact HO351.out) (Kd.R_base ho0) hb); have n1_ := Aside0.mk (Kd.R_lower (Kd.R_new' ho0 (Kd.R_lt (by (with_reducible repeat (first | apply Kd.R_alloc | apply Kd.R_drewN | apply Kd.R_drew)); exact HO351.out))) (below_size (by repeat (first | (with_reducible first | exact HB.out | apply below_alloc | apply pw_below_drewN | apply below_drew1) | exact HB.out)))); have n2_ := Aside0.mk (below_step (by repeat (first | (with_reducible first | exact HB.out | apply below_alloc | apply pw_below_drewN | apply below_drew1) | exact HB.out)) hb); clear HO351; clear HB; have HO351 := n0_; have HO354 := n1_; have HB := n2_; clear n0_ n1_ n2_; (try clear hb); (try clear hb2); (try clear hk); (try clear hi); (try clear ho0); obtain ⟨Ao31, co31, eo31⟩ := Kd.R_slice HO354.out; subst eo31) | ((with_reducible refine gate_callee (f := 13) rfl ?_); refine goesL_ (some 25) rfl rfl Try.func13 (by kernel_rfl) rfl #[.slice A0 l0.length c0, .slice Ao31 t352.length co31] rfl (by (try simp only [List.map_toArray, List.map_cons, List.map_nil]); first | done | rfl | (simp only [List.length_drop, List.length_take]; rfl)) ?_; (with_reducible refine (cause_Run.calls _ _ l0 _ _ t352 t355 t356 _ ?side1 ?side2 ?side3 ?side4 A7.out).mono ?_); (case side1 => repeat (first | exact (Kd.C_below HR0.out HB.out) | (with_reducible refine Kd.C_alloc ?_ _) | (with_reducible refine Kd.C_drewN ?_ _) | (with_reducible refine Kd.C_drew ?_))); (case side2 => exact HC0.out); (case side3 => repeat (first | exact (Kd.R_reads' HO354.out).2.2 | (with_reducible refine Kd.C_alloc ?_ _) | (with_reducible refine Kd.C_drewN ?_ _) | (with_reducible refine Kd.C_drew ?_))); (case side4 => exact (Kd.R_reads' HO354.out).2.1); rintro e w32 ⟨v357, rfl, ho0, hb⟩; refine ⟨_, rfl, ?_⟩; have n0_ := Aside0.mk (Kd.R_elder' (by (with_reducible repeat (first | apply Kd.R_alloc | apply Kd.R_drewN | apply Kd.R_drew)); exact HO351.out) (Kd.R_base ho0) hb); have n1_ := Aside0.mk (Kd.R_elder' (by (with_reducible repeat (first | apply Kd.R_alloc | apply Kd.R_drewN | apply Kd.R_drew)); exact HO354.out) (Kd.R_base ho0) hb); have n2_ := Aside0.mk (Kd.R_lower (Kd.R_new' (Kd.R_new' ho0 (Kd.R_lt (by (with_reducible repeat (first | apply Kd.R_alloc | apply Kd.R_drewN | apply Kd.R_drew)); exact HO351.out))) (Kd.R_lt (by (with_reducible repeat (first | apply Kd.R_alloc | apply Kd.R_drewN | apply Kd.R_drew)); exact HO354.out))) (below_size (by repeat (first | (with_reducible first | exact HB.out | apply below_alloc | apply pw_below_drewN | apply below_drew1) | exact HB.out)))); have n3_ := Aside0.mk (below_step (by repeat (first | (with_reducible first | exact HB.out | apply below_alloc | apply pw_below_drewN | apply below_drew1) | exact HB.out)) hb); clear HO351; clear HO354; clear HB; have HO351 := n0_; have HO354 := n1_; have HO358 := n2_; have HB := n3_; clear n0_ n1_ n2_ n3_; (try clear hb); (try clear hb2); (try clear hk); (try clear hi); (try clear ho0); obtain ⟨Ao33, co33, eo33⟩ := Kd.R_slice HO351.out; subst eo33; obtain ⟨Ao34, co34, eo34⟩ := Kd.R_slice HO358.out; subst eo34))
     go_ret
     exact ⟨by first | rfl | (simp [errW_none, errW_some] <;> rfl) | (simp [*, errW_none, errW_some] <;> rfl), by repeat (first | (with_reducible first | exact HB.out | apply below_alloc | apply pw_below_drewN | apply below_drew1) | exact HB.out)⟩
   ·rw [if_neg c10] at H
    have c10b0 : ((t348.length : Int) == (l0.length : Int)) = false := beq_eq_false_iff_ne.mpr c10
    have c10b1 : ((t348.length : Int) != (l0.length : Int)) = true := bne_iff_ne.mpr c10
    have c10b2 : (t348.length == l0.length) = false := by first | simpa using c10 | (simp at c10 ⊢; omega)
    obtain rfl := Option.some.inj H
    go_enter Try.func28, Try.ntmps28
    go_wp2_with (first | ((with_reducible refine gate_callee (f := 13) rfl ?_); refine goesL_ (some 16) rfl rfl Try.func13 (by kernel_rfl) rfl #[.slice A0 l0.length c0, .slice A1 l1.length c1] rfl (by (try simp only [List.map_toArray, List.map_cons, List.map_nil]); first | done | rfl | (simp only [List.length_drop, List.length_take]; rfl)) ?_; (with_reducible refine (cause_Run.calls _ _ l0 _ _ l1 t348 t349 _ ?side1 ?side2 ?side3 ?side4 A5.out).mono ?_); (case side1 => repeat (first | exact HR0.out | (with_reducible refine Kd.C_alloc ?_ _) | (with_reducible refine Kd.C_drewN ?_ _) | (with_reducible refine Kd.C_drew ?_))); (case side2 => exact HC0.out); (case side3 => repeat (first | exact HR1.out | (with_reducible refine Kd.C_alloc ?_ _) | (with_reducible refine Kd.C_drewN ?_ _) | (with_reducible refine Kd.C_drew ?_))); (case side4 => exact HC1.out); rintro e w35 ⟨v350, rfl, ho0, hb⟩; refine ⟨_, rfl, ?_⟩; have n0_ := Aside0.mk (Kd.R_lower ho0 (below_size (by repeat (first | (with_reducible first | exact HB.out | apply below_alloc | apply pw_below_drewN | apply below_drew1) | exact HB.out)))); have n1_ := Aside0.mk (below_step (by repeat (first | (with_reducible first | exact HB.out | apply below_alloc | apply pw_below_drewN | apply below_drew1) | exact HB.out)) hb); clear HB; have HO351 := n0_; have HB := n1_; clear n0_ n1_; (try clear hb); (try clear hb2); (try clear hk); (try clear hi); (try clear ho0)) | ((with_reducible refine gate_callee (f := 45) rfl ?_); refine goesL_ (some 24) rfl rfl Try.func45 (by kernel_rfl) rfl #[.slice A0 l0.length c0, .slice A1 l1.length c1, .int .i64 a2] rfl (by (try simp only [List.map_toArray, List.map_cons, List.map_nil]); first | done | rfl | (simp only [List.length_drop, List.length_take]; rfl)) ?_; (with_reducible refine (cohousingref36_Without.calls k _ _ l0 _ _ l1 a2 t352 _ ?side1 ?side2 ?side3 ?side4 A6.out).mono ?_); (case side1 => repeat (first | exact (Kd.C_below HR0.out HB.out) | (with_reducible refine Kd.C_alloc ?_ _) | (with_reducible refine Kd.C_drewN ?_ _) | (with_reducible refine Kd.C_drew ?_))); (case side2 => exact HC0.out); (case side3 => repeat (first | exact (Kd.C_below HR1.out HB.out) | (with_reducible refine Kd.C_alloc ?_ _) | (with_reducible refine Kd.C_drewN ?_ _) | (with_reducible refine Kd.C_drew ?_))); (case side4 => exact HC1.out); rintro e w36 ⟨v353, rfl, ho0, hb⟩; refine ⟨_, rfl, ?_⟩; have n0_ := Aside0.mk (Kd.R_elder' (by (with_reducible repeat (first | apply Kd.R_alloc | apply Kd.R_drewN | apply Kd.R_drew)); exact HO351.out) (Kd.R_base ho0) hb); have n1_ := Aside0.mk (Kd.R_lower (Kd.R_new' ho0 (Kd.R_lt (by (with_reducible repeat (first | apply Kd.R_alloc | apply Kd.R_drewN | apply Kd.R_drew)); exact HO351.out))) (below_size (by repeat (first | (with_reducible first | exact HB.out | apply below_alloc | apply pw_below_drewN | apply below_drew1) | exact HB.out)))); have n2_ := Aside0.mk (below_step (by repeat (first | (with_reducible first | exact HB.out | apply below_alloc | apply pw_below_drewN | apply below_drew1) | exact HB.out)) hb); clear HO351; clear HB; have HO351 := n0_; have HO354 := n1_; have HB := n2_; clear n0_ n1_ n2_; (try clear hb); (try clear hb2); (try clear hk); (try clear hi); (try clear ho0); obtain ⟨Ao37, co37, eo37⟩ := Kd.R_slice HO354.out; subst eo37) | ((with_reducible refine gate_callee (f := 13) rfl ?_); refine goesL_ (some 25) rfl rfl Try.func13 (by kernel_rfl) rfl #[.slice A0 l0.length c0, .slice Ao37 t352.length co37] rfl (by (try simp only [List.map_toArray, List.map_cons, List.map_nil]); first | done | rfl | (simp only [List.length_drop, List.length_take]; rfl)) ?_; (with_reducible refine (cause_Run.calls _ _ l0 _ _ t352 t355 t356 _ ?side1 ?side2 ?side3 ?side4 A7.out).mono ?_); (case side1 => repeat (first | exact (Kd.C_below HR0.out HB.out) | (with_reducible refine Kd.C_alloc ?_ _) | (with_reducible refine Kd.C_drewN ?_ _) | (with_reducible refine Kd.C_drew ?_))); (case side2 => exact HC0.out); (case side3 => repeat (first | exact (Kd.R_reads' HO354.out).2.2 | (with_reducible refine Kd.C_alloc ?_ _) | (with_reducible refine Kd.C_drewN ?_ _) | (with_reducible refine Kd.C_drew ?_))); (case side4 => exact (Kd.R_reads' HO354.out).2.1); rintro e w38 ⟨v357, rfl, ho0, hb⟩; refine ⟨_, rfl, ?_⟩; have n0_ := Aside0.mk (Kd.R_elder' (by (with_reducible repeat (first | apply Kd.R_alloc | apply Kd.R_drewN | apply Kd.R_drew)); exact HO351.out) (Kd.R_base ho0) hb); have n1_ := Aside0.mk (Kd.R_elder' (by (with_reducible repeat (first | apply Kd.R_alloc | apply Kd.R_drewN | apply Kd.R_drew)); exact HO354.out) (Kd.R_base ho0) hb); have n2_ := Aside0.mk (Kd.R_lower (Kd.R_new' (Kd.R_new' ho0 (Kd.R_lt (by (with_reducible repeat (first | apply Kd.R_alloc | apply Kd.R_drewN | apply Kd.R_drew)); exact HO351.out))) (Kd.R_lt (by (with_reducible repeat (first | apply Kd.R_alloc | apply Kd.R_drewN | apply Kd.R_drew)); exact HO354.out))) (below_size (by repeat (first | (with_reducible first | exact HB.out | apply below_alloc | apply pw_below_drewN | apply below_drew1) | exact HB.out)))); have n3_ := Aside0.mk (below_step (by repeat (first | (with_reducible first | exact HB.out | apply below_alloc | apply pw_below_drewN | apply below_drew1) | exact HB.out)) hb); clear HO351; clear HO354; clear HB; have HO351 := n0_; have HO354 := n1_; have HO358 := n2_; have HB := n3_; clear n0_ n1_ n2_ n3_; (try clear hb); (try clear hb2); (try clear hk); (try clear hi); (try clear ho0); obtain ⟨Ao39, co39, eo39⟩ := Kd.R_slice HO351.out; subst eo39))
    go_ret
    exact ⟨by first | rfl | (simp [errW_none, errW_some] <;> rfl) | (simp [*, errW_none, errW_some] <;> rfl), by repeat (first | (with_reducible first | exact HB.out | apply below_alloc | apply pw_below_drewN | apply below_drew1) | exact HB.out)⟩
  ·rw [if_neg c9] at H
   have c9b0 : (t356 == 0) = false := beq_eq_false_iff_ne.mpr c9
   have c9b1 : (t356 != 0) = true := bne_iff_ne.mpr c9
   obtain rfl := Option.some.inj H
   go_enter Try.func28, Try.ntmps28
   go_wp2_with (first | ((with_reducible refine gate_callee (f := 13) rfl ?_); refine goesL_ (some 16) rfl rfl Try.func13 (by kernel_rfl) rfl #[.slice A0 l0.length c0, .slice A1 l1.length c1] rfl (by (try simp only [List.map_toArray, List.map_cons, List.map_nil]); first | done | rfl | (simp only [List.length_drop, List.length_take]; rfl)) ?_; (with_reducible refine (cause_Run.calls _ _ l0 _ _ l1 t348 t349 _ ?side1 ?side2 ?side3 ?side4 A5.out).mono ?_); (case side1 => repeat (first | exact HR0.out | (with_reducible refine Kd.C_alloc ?_ _) | (with_reducible refine Kd.C_drewN ?_ _) | (with_reducible refine Kd.C_drew ?_))); (case side2 => exact HC0.out); (case side3 => repeat (first | exact HR1.out | (with_reducible refine Kd.C_alloc ?_ _) | (with_reducible refine Kd.C_drewN ?_ _) | (with_reducible refine Kd.C_drew ?_))); (case side4 => exact HC1.out); rintro e w40 ⟨v350, rfl, ho0, hb⟩; refine ⟨_, rfl, ?_⟩; have n0_ := Aside0.mk (Kd.R_lower ho0 (below_size (by repeat (first | (with_reducible first | exact HB.out | apply below_alloc | apply pw_below_drewN | apply below_drew1) | exact HB.out)))); have n1_ := Aside0.mk (below_step (by repeat (first | (with_reducible first | exact HB.out | apply below_alloc | apply pw_below_drewN | apply below_drew1) | exact HB.out)) hb); clear HB; have HO351 := n0_; have HB := n1_; clear n0_ n1_; (try clear hb); (try clear hb2); (try clear hk); (try clear hi); (try clear ho0)) | ((with_reducible refine gate_callee (f := 45) rfl ?_); refine goesL_ (some 24) rfl rfl Try.func45 (by kernel_rfl) rfl #[.slice A0 l0.length c0, .slice A1 l1.length c1, .int .i64 a2] rfl (by (try simp only [List.map_toArray, List.map_cons, List.map_nil]); first | done | rfl | (simp only [List.length_drop, List.length_take]; rfl)) ?_; (with_reducible refine (cohousingref36_Without.calls k _ _ l0 _ _ l1 a2 t352 _ ?side1 ?side2 ?side3 ?side4 A6.out).mono ?_); (case side1 => repeat (first | exact (Kd.C_below HR0.out HB.out) | (with_reducible refine Kd.C_alloc ?_ _) | (with_reducible refine Kd.C_drewN ?_ _) | (with_reducible refine Kd.C_drew ?_))); (case side2 => exact HC0.out); (case side3 => repeat (first | exact (Kd.C_below HR1.out HB.out) | (with_reducible refine Kd.C_alloc ?_ _) | (with_reducible refine Kd.C_drewN ?_ _) | (with_reducible refine Kd.C_drew ?_))); (case side4 => exact HC1.out); rintro e w41 ⟨v353, rfl, ho0, hb⟩; refine ⟨_, rfl, ?_⟩; have n0_ := Aside0.mk (Kd.R_elder' (by (with_reducible repeat (first | apply Kd.R_alloc | apply Kd.R_drewN | apply Kd.R_drew)); exact HO351.out) (Kd.R_base ho0) hb); have n1_ := Aside0.mk (Kd.R_lower (Kd.R_new' ho0 (Kd.R_lt (by (with_reducible repeat (first | apply Kd.R_alloc | apply Kd.R_drewN | apply Kd.R_drew)); exact HO351.out))) (below_size (by repeat (first | (with_reducible first | exact HB.out | apply below_alloc | apply pw_below_drewN | apply below_drew1) | exact HB.out)))); have n2_ := Aside0.mk (below_step (by repeat (first | (with_reducible first | exact HB.out | apply below_alloc | apply pw_below_drewN | apply below_drew1) | exact HB.out)) hb); clear HO351; clear HB; have HO351 := n0_; have HO354 := n1_; have HB := n2_; clear n0_ n1_ n2_; (try clear hb); (try clear hb2); (try clear hk); (try clear hi); (try clear ho0); obtain ⟨Ao42, co42, eo42⟩ := Kd.R_slice HO354.out; subst eo42) | ((with_reducible refine gate_callee (f := 13) rfl ?_); refine goesL_ (some 25) rfl rfl Try.func13 (by kernel_rfl) rfl #[.slice A0 l0.length c0, .slice Ao42 t352.length co42] rfl (by (try simp only [List.map_toArray, List.map_cons, List.map_nil]); first | done | rfl | (simp only [List.length_drop, List.length_take]; rfl)) ?_; (with_reducible refine (cause_Run.calls _ _ l0 _ _ t352 t355 t356 _ ?side1 ?side2 ?side3 ?side4 A7.out).mono ?_); (case side1 => repeat (first | exact (Kd.C_below HR0.out HB.out) | (with_reducible refine Kd.C_alloc ?_ _) | (with_reducible refine Kd.C_drewN ?_ _) | (with_reducible refine Kd.C_drew ?_))); (case side2 => exact HC0.out); (case side3 => repeat (first | exact (Kd.R_reads' HO354.out).2.2 | (with_reducible refine Kd.C_alloc ?_ _) | (with_reducible refine Kd.C_drewN ?_ _) | (with_reducible refine Kd.C_drew ?_))); (case side4 => exact (Kd.R_reads' HO354.out).2.1); rintro e w43 ⟨v357, rfl, ho0, hb⟩; refine ⟨_, rfl, ?_⟩; have n0_ := Aside0.mk (Kd.R_elder' (by (with_reducible repeat (first | apply Kd.R_alloc | apply Kd.R_drewN | apply Kd.R_drew)); exact HO351.out) (Kd.R_base ho0) hb); have n1_ := Aside0.mk (Kd.R_elder' (by (with_reducible repeat (first | apply Kd.R_alloc | apply Kd.R_drewN | apply Kd.R_drew)); exact HO354.out) (Kd.R_base ho0) hb); have n2_ := Aside0.mk (Kd.R_lower (Kd.R_new' (Kd.R_new' ho0 (Kd.R_lt (by (with_reducible repeat (first | apply Kd.R_alloc | apply Kd.R_drewN | apply Kd.R_drew)); exact HO351.out))) (Kd.R_lt (by (with_reducible repeat (first | apply Kd.R_alloc | apply Kd.R_drewN | apply Kd.R_drew)); exact HO354.out))) (below_size (by repeat (first | (with_reducible first | exact HB.out | apply below_alloc | apply pw_below_drewN | apply below_drew1) | exact HB.out)))); have n3_ := Aside0.mk (below_step (by repeat (first | (with_reducible first | exact HB.out | apply below_alloc | apply pw_below_drewN | apply below_drew1) | exact HB.out)) hb); clear HO351; clear HO354; clear HB; have HO351 := n0_; have HO354 := n1_; have HO358 := n2_; have HB := n3_; clear n0_ n1_ n2_ n3_; (try clear hb); (try clear hb2); (try clear hk); (try clear hi); (try clear ho0)))
   go_ret
   exact ⟨by first | rfl | (simp [errW_none, errW_some] <;> rfl) | (simp [*, errW_none, errW_some] <;> rfl), by repeat (first | (with_reducible first | exact HB.out | apply below_alloc | apply pw_below_drewN | apply below_drew1) | exact HB.out)⟩
 ·rw [if_neg c8] at H
  have c8b0 : (t349 == 0) = false := beq_eq_false_iff_ne.mpr c8
  have c8b1 : (t349 != 0) = true := bne_iff_ne.mpr c8
  obtain rfl := Option.some.inj H
  go_enter Try.func28, Try.ntmps28
  go_wp2_with (first | ((with_reducible refine gate_callee (f := 13) rfl ?_); refine goesL_ (some 16) rfl rfl Try.func13 (by kernel_rfl) rfl #[.slice A0 l0.length c0, .slice A1 l1.length c1] rfl (by (try simp only [List.map_toArray, List.map_cons, List.map_nil]); first | done | rfl | (simp only [List.length_drop, List.length_take]; rfl)) ?_; (with_reducible refine (cause_Run.calls _ _ l0 _ _ l1 t348 t349 _ ?side1 ?side2 ?side3 ?side4 A5.out).mono ?_); (case side1 => repeat (first | exact HR0.out | (with_reducible refine Kd.C_alloc ?_ _) | (with_reducible refine Kd.C_drewN ?_ _) | (with_reducible refine Kd.C_drew ?_))); (case side2 => exact HC0.out); (case side3 => repeat (first | exact HR1.out | (with_reducible refine Kd.C_alloc ?_ _) | (with_reducible refine Kd.C_drewN ?_ _) | (with_reducible refine Kd.C_drew ?_))); (case side4 => exact HC1.out); rintro e w44 ⟨v350, rfl, ho0, hb⟩; refine ⟨_, rfl, ?_⟩; have n0_ := Aside0.mk (Kd.R_lower ho0 (below_size (by repeat (first | (with_reducible first | exact HB.out | apply below_alloc | apply pw_below_drewN | apply below_drew1) | exact HB.out)))); have n1_ := Aside0.mk (below_step (by repeat (first | (with_reducible first | exact HB.out | apply below_alloc | apply pw_below_drewN | apply below_drew1) | exact HB.out)) hb); clear HB; have HO351 := n0_; have HB := n1_; clear n0_ n1_; (try clear hb); (try clear hb2); (try clear hk); (try clear hi); (try clear ho0)) | ((with_reducible refine gate_callee (f := 45) rfl ?_); refine goesL_ (some 24) rfl rfl Try.func45 (by kernel_rfl) rfl #[.slice A0 l0.length c0, .slice A1 l1.length c1, .int .i64 a2] rfl (by (try simp only [List.map_toArray, List.map_cons, List.map_nil]); first | done | rfl | (simp only [List.length_drop, List.length_take]; rfl)) ?_; (with_reducible refine (cohousingref36_Without.calls k _ _ l0 _ _ l1 a2 t352 _ ?side1 ?side2 ?side3 ?side4 A6.out).mono ?_); (case side1 => repeat (first | exact (Kd.C_below HR0.out HB.out) | (with_reducible refine Kd.C_alloc ?_ _) | (with_reducible refine Kd.C_drewN ?_ _) | (with_reducible refine Kd.C_drew ?_))); (case side2 => exact HC0.out); (case side3 => repeat (first | exact (Kd.C_below HR1.out HB.out) | (with_reducible refine Kd.C_alloc ?_ _) | (with_reducible refine Kd.C_drewN ?_ _) | (with_reducible refine Kd.C_drew ?_))); (case side4 => exact HC1.out); rintro e w45 ⟨v353, rfl, ho0, hb⟩; refine ⟨_, rfl, ?_⟩; have n0_ := Aside0.mk (Kd.R_elder' (by (with_reducible repeat (first | apply Kd.R_alloc | apply Kd.R_drewN | apply Kd.R_drew)); exact HO351.out) (Kd.R_base ho0) hb); have n1_ := Aside0.mk (Kd.R_lower (Kd.R_new' ho0 (Kd.R_lt (by (with_reducible repeat (first | apply Kd.R_alloc | apply Kd.R_drewN | apply Kd.R_drew)); exact HO351.out))) (below_size (by repeat (first | (with_reducible first | exact HB.out | apply below_alloc | apply pw_below_drewN | apply below_drew1) | exact HB.out)))); have n2_ := Aside0.mk (below_step (by repeat (first | (with_reducible first | exact HB.out | apply below_alloc | apply pw_below_drewN | apply below_drew1) | exact HB.out)) hb); clear HO351; clear HB; have HO351 := n0_; have HO354 := n1_; have HB := n2_; clear n0_ n1_ n2_; (try clear hb); (try clear hb2); (try clear hk); (try clear hi); (try clear ho0); obtain ⟨Ao46, co46, eo46⟩ := Kd.R_slice HO354.out; subst eo46) | ((with_reducible refine gate_callee (f := 13) rfl ?_); refine goesL_ (some 25) rfl rfl Try.func13 (by kernel_rfl) rfl #[.slice A0 l0.length c0, .slice Ao46 t352.length co46] rfl (by (try simp only [List.map_toArray, List.map_cons, List.map_nil]); first | done | rfl | (simp only [List.length_drop, List.length_take]; rfl)) ?_; (with_reducible refine (cause_Run.calls _ _ l0 _ _ t352 t355 t356 _ ?side1 ?side2 ?side3 ?side4 A7.out).mono ?_); (case side1 => repeat (first | exact (Kd.C_below HR0.out HB.out) | (with_reducible refine Kd.C_alloc ?_ _) | (with_reducible refine Kd.C_drewN ?_ _) | (with_reducible refine Kd.C_drew ?_))); (case side2 => exact HC0.out); (case side3 => repeat (first | exact (Kd.R_reads' HO354.out).2.2 | (with_reducible refine Kd.C_alloc ?_ _) | (with_reducible refine Kd.C_drewN ?_ _) | (with_reducible refine Kd.C_drew ?_))); (case side4 => exact (Kd.R_reads' HO354.out).2.1); rintro e w47 ⟨v357, rfl, ho0, hb⟩; refine ⟨_, rfl, ?_⟩; have n0_ := Aside0.mk (Kd.R_elder' (by (with_reducible repeat (first | apply Kd.R_alloc | apply Kd.R_drewN | apply Kd.R_drew)); exact HO351.out) (Kd.R_base ho0) hb); have n1_ := Aside0.mk (Kd.R_elder' (by (with_reducible repeat (first | apply Kd.R_alloc | apply Kd.R_drewN | apply Kd.R_drew)); exact HO354.out) (Kd.R_base ho0) hb); have n2_ := Aside0.mk (Kd.R_lower (Kd.R_new' (Kd.R_new' ho0 (Kd.R_lt (by (with_reducible repeat (first | apply Kd.R_alloc | apply Kd.R_drewN | apply Kd.R_drew)); exact HO351.out))) (Kd.R_lt (by (with_reducible repeat (first | apply Kd.R_alloc | apply Kd.R_drewN | apply Kd.R_drew)); exact HO354.out))) (below_size (by repeat (first | (with_reducible first | exact HB.out | apply below_alloc | apply pw_below_drewN | apply below_drew1) | exact HB.out)))); have n3_ := Aside0.mk (below_step (by repeat (first | (with_reducible first | exact HB.out | apply below_alloc | apply pw_below_drewN | apply below_drew1) | exact HB.out)) hb); clear HO351; clear HO354; clear HB; have HO351 := n0_; have HO354 := n1_; have HO358 := n2_; have HB := n3_; clear n0_ n1_ n2_ n3_; (try clear hb); (try clear hb2); (try clear hk); (try clear hi); (try clear ho0)))
  go_ret
  exact ⟨by first | rfl | (simp [errW_none, errW_some] <;> rfl) | (simp [*, errW_none, errW_some] <;> rfl), by repeat (first | (with_reducible first | exact HB.out | apply below_alloc | apply pw_below_drewN | apply below_drew1) | exact HB.out)⟩

-- an extern: function 29 (cohousinglaw36_in)

/-! ### cohousinglaw36_CauseBlames: function 7 -/
mutual
def cohousinglaw36_CauseBlames.j0 : Nat → List (S44) → List (S48) → Int → Int → Int → Bool → Bool → Option (Bool)
 | 0, _, _, _, _, _, _, _ => none
 | k + 1, x0, x1, x2, x3, x4, x11, x32 => if x32 = true then (some x11) else (if (x0.length : Int) = 0 then (none) else ((cause_Blame.f x0 x1 x2 (Int.tmod (wrap64 (x3)) (x0.length : Int))).bind fun bt363 => ((cause_States.f x0 x1 x2).bind fun bt370 => (if bt370.2 = 0 then (if ((bt363.2.2 == 4) != ((bt370.1.length : Int) == 0)) = true then (cohousinglaw36_CauseBlames.j1 k x0 x11 (Int.tmod (wrap64 (x3)) (x0.length : Int)) (wrap64 (1 + (Int.tmod (wrap64 (x4)) 64))) bt363.1 bt363.2.1 bt370.1 true) else (if bt363.2.2 = 0 then (cohousinglaw36_CauseBlames.j1 k x0 x11 (Int.tmod (wrap64 (x3)) (x0.length : Int)) (wrap64 (1 + (Int.tmod (wrap64 (x4)) 64))) bt363.1 bt363.2.1 bt370.1 false) else (cohousinglaw36_CauseBlames.j1 k x0 x11 (Int.tmod (wrap64 (x3)) (x0.length : Int)) (wrap64 (1 + (Int.tmod (wrap64 (x4)) 64))) bt363.1 bt363.2.1 bt370.1 (bt363.2.2 != 4)))) else (cohousinglaw36_CauseBlames.j1 k x0 x11 (Int.tmod (wrap64 (x3)) (x0.length : Int)) (wrap64 (1 + (Int.tmod (wrap64 (x4)) 64))) bt363.1 bt363.2.1 bt370.1 true)))))
def cohousinglaw36_CauseBlames.j1 : Nat → List (S44) → Bool → Int → Int → List Int → List Int → List (List Bool) → Bool → Option (Bool)
 | 0, _, _, _, _, _, _, _, _ => none
 | k + 1, x0, x11, x12, x13, x14, x15, x17, x76 => if x76 = true then (some false) else (cohousinglaw36_CauseBlames.l0 k x0 x11 x12 x13 x14 x15 x17 0 x17 (x17.length : Int) 0)
def cohousinglaw36_CauseBlames.l0 : Nat → List (S44) → Bool → Int → Int → List Int → List Int → List (List Bool) → Int → List (List Bool) → Int → Int → Option (Bool)
 | 0, _, _, _, _, _, _, _, _, _, _, _ => none
 | k + 1, x0, x11, x12, x13, x14, x15, x17, x19, x77, x78, x79 => if x79 < x78 then (if 0 ≤ x79 then (if x79 < (x77.length : Int) then ((cohousingref36_Free.f k x0).bind fun t387 => (if ((rd_L3 x77 x79).length : Int) = (t387.length : Int) then ((cohousinglaw36_blamed.f k x0 (rd_L3 x77 x79) x13 x12).bind fun t390 => (if t390 = true then (cohousinglaw36_CauseBlames.l0 k x0 x11 x12 x13 x14 x15 x17 (wrap64 (x19 + 1)) x77 x78 (wrap64 (x79 + 1))) else (cohousinglaw36_CauseBlames.l0 k x0 x11 x12 x13 x14 x15 x17 x19 x77 x78 (wrap64 (x79 + 1))))) else (cohousinglaw36_CauseBlames.l0 k x0 x11 x12 x13 x14 x15 x17 x19 x77 x78 (wrap64 (x79 + 1))))) else (none)) else (none)) else (if x11 = true then ((cohousinglaw36_in.f (([x13] : List Int)) x14).bind fun t377 => (if x19 > 0 then (if (t377 == (x19 == (x17.length : Int))) = true then ((cohousinglaw36_in.f (([x13] : List Int)) x15).bind fun t381 => (some (t381 == (decide (x19 > 0))))) else (some false)) else (if (t377 == false) = true then ((cohousinglaw36_in.f (([x13] : List Int)) x15).bind fun t385 => (some (t385 == (decide (x19 > 0))))) else (some false)))) else (some false))
end
def cohousinglaw36_CauseBlames.f (k : Nat) (l0 : List (S44)) (l1 : List (S48)) (a2 : Int) (a3 : Int) (a4 : Int) : Option (Bool) := (cohousinglaw36_head.f).bind fun t361 => ((cohousinglaw36_usable.f k l0 l1 a2).bind fun t362 => (if t362 = true then (cohousinglaw36_CauseBlames.j0 k l0 l1 a2 a3 a4 t361 ((l0.length : Int) == 0)) else (cohousinglaw36_CauseBlames.j0 k l0 l1 a2 a3 a4 t361 true)))
theorem cohousinglaw36_CauseBlames.mono_l : ∀ k, (∀ y0 y1 y2 y3 y4 y5 y6, LeO (cohousinglaw36_CauseBlames.j0 k y0 y1 y2 y3 y4 y5 y6) (cohousinglaw36_CauseBlames.j0 (k + 1) y0 y1 y2 y3 y4 y5 y6)) ∧ (∀ y0 y1 y2 y3 y4 y5 y6 y7, LeO (cohousinglaw36_CauseBlames.j1 k y0 y1 y2 y3 y4 y5 y6 y7) (cohousinglaw36_CauseBlames.j1 (k + 1) y0 y1 y2 y3 y4 y5 y6 y7)) ∧ (∀ y0 y1 y2 y3 y4 y5 y6 y7 y8 y9 y10, LeO (cohousinglaw36_CauseBlames.l0 k y0 y1 y2 y3 y4 y5 y6 y7 y8 y9 y10) (cohousinglaw36_CauseBlames.l0 (k + 1) y0 y1 y2 y3 y4 y5 y6 y7 y8 y9 y10))
 | 0 => ⟨fun _ _ _ _ _ _ _ r h => by simp [cohousinglaw36_CauseBlames.j0] at h, fun _ _ _ _ _ _ _ _ r h => by simp [cohousinglaw36_CauseBlames.j1] at h, fun _ _ _ _ _ _ _ _ _ _ _ r h => by simp [cohousinglaw36_CauseBlames.l0] at h⟩
 | k + 1 => by
  obtain ⟨ih0, ih1, ih2⟩ := cohousinglaw36_CauseBlames.mono_l k
  refine ⟨?_, ?_, ?_⟩
  ·intro y0 y1 y2 y3 y4 y5 y6
   unfold cohousinglaw36_CauseBlames.j0
   repeat' first
   | (with_reducible exact ih0 _ _ _ _ _ _ _)
   | (with_reducible exact ih1 _ _ _ _ _ _ _ _)
   | (with_reducible exact ih2 _ _ _ _ _ _ _ _ _ _ _)
   | (with_reducible exact cohousinglaw36_blamed.mono _ _ _ _ _)
   | (with_reducible exact cohousinglaw36_usable.mono _ _ _ _)
   | (with_reducible exact cohousingref36_Free.mono _ _)
   | (with_reducible exact LeO.refl _)
   | (with_reducible exact LeO.none _)
   | (with_reducible refine LeO.ite ?_ ?_)
   | (with_reducible refine LeO.bind ?_ (fun _ => ?_))
   | exact ih0 _ _ _ _ _ _ _
   | exact ih1 _ _ _ _ _ _ _ _
   | exact ih2 _ _ _ _ _ _ _ _ _ _ _
   | exact cohousinglaw36_blamed.mono _ _ _ _ _
   | exact cohousinglaw36_usable.mono _ _ _ _
   | exact cohousingref36_Free.mono _ _
   | exact LeO.none _
   | refine LeO.ite ?_ ?_
   | refine LeO.bind ?_ (fun _ => ?_)
  ·intro y0 y1 y2 y3 y4 y5 y6 y7
   unfold cohousinglaw36_CauseBlames.j1
   repeat' first
   | (with_reducible exact ih0 _ _ _ _ _ _ _)
   | (with_reducible exact ih1 _ _ _ _ _ _ _ _)
   | (with_reducible exact ih2 _ _ _ _ _ _ _ _ _ _ _)
   | (with_reducible exact cohousinglaw36_blamed.mono _ _ _ _ _)
   | (with_reducible exact cohousinglaw36_usable.mono _ _ _ _)
   | (with_reducible exact cohousingref36_Free.mono _ _)
   | (with_reducible exact LeO.refl _)
   | (with_reducible exact LeO.none _)
   | (with_reducible refine LeO.ite ?_ ?_)
   | (with_reducible refine LeO.bind ?_ (fun _ => ?_))
   | exact ih0 _ _ _ _ _ _ _
   | exact ih1 _ _ _ _ _ _ _ _
   | exact ih2 _ _ _ _ _ _ _ _ _ _ _
   | exact cohousinglaw36_blamed.mono _ _ _ _ _
   | exact cohousinglaw36_usable.mono _ _ _ _
   | exact cohousingref36_Free.mono _ _
   | exact LeO.none _
   | refine LeO.ite ?_ ?_
   | refine LeO.bind ?_ (fun _ => ?_)
  ·intro y0 y1 y2 y3 y4 y5 y6 y7 y8 y9 y10
   unfold cohousinglaw36_CauseBlames.l0
   repeat' first
   | (with_reducible exact ih0 _ _ _ _ _ _ _)
   | (with_reducible exact ih1 _ _ _ _ _ _ _ _)
   | (with_reducible exact ih2 _ _ _ _ _ _ _ _ _ _ _)
   | (with_reducible exact cohousinglaw36_blamed.mono _ _ _ _ _)
   | (with_reducible exact cohousinglaw36_usable.mono _ _ _ _)
   | (with_reducible exact cohousingref36_Free.mono _ _)
   | (with_reducible exact LeO.refl _)
   | (with_reducible exact LeO.none _)
   | (with_reducible refine LeO.ite ?_ ?_)
   | (with_reducible refine LeO.bind ?_ (fun _ => ?_))
   | exact ih0 _ _ _ _ _ _ _
   | exact ih1 _ _ _ _ _ _ _ _
   | exact ih2 _ _ _ _ _ _ _ _ _ _ _
   | exact cohousinglaw36_blamed.mono _ _ _ _ _
   | exact cohousinglaw36_usable.mono _ _ _ _
   | exact cohousingref36_Free.mono _ _
   | exact LeO.none _
   | refine LeO.ite ?_ ?_
   | refine LeO.bind ?_ (fun _ => ?_)
theorem cohousinglaw36_CauseBlames.mono : ∀ a0 a1 a2 a3 a4 k, LeO (cohousinglaw36_CauseBlames.f k a0 a1 a2 a3 a4) (cohousinglaw36_CauseBlames.f (k + 1) a0 a1 a2 a3 a4) := by
 intro a0 a1 a2 a3 a4 k
 obtain ⟨ih0, ih1, ih2⟩ := cohousinglaw36_CauseBlames.mono_l k
 unfold cohousinglaw36_CauseBlames.f
 repeat' first
   | (with_reducible exact ih0 _ _ _ _ _ _ _)
   | (with_reducible exact ih1 _ _ _ _ _ _ _ _)
   | (with_reducible exact ih2 _ _ _ _ _ _ _ _ _ _ _)
   | (with_reducible exact cohousinglaw36_blamed.mono _ _ _ _ _)
   | (with_reducible exact cohousinglaw36_usable.mono _ _ _ _)
   | (with_reducible exact cohousingref36_Free.mono _ _)
   | (with_reducible exact LeO.refl _)
   | (with_reducible exact LeO.none _)
   | (with_reducible refine LeO.ite ?_ ?_)
   | (with_reducible refine LeO.bind ?_ (fun _ => ?_))
   | exact ih0 _ _ _ _ _ _ _
   | exact ih1 _ _ _ _ _ _ _ _
   | exact ih2 _ _ _ _ _ _ _ _ _ _ _
   | exact cohousinglaw36_blamed.mono _ _ _ _ _
   | exact cohousinglaw36_usable.mono _ _ _ _
   | exact cohousingref36_Free.mono _ _
   | exact LeO.none _
   | refine LeO.ite ?_ ?_
   | refine LeO.bind ?_ (fun _ => ?_)
set_option maxHeartbeats 8000000 in
set_option maxRecDepth 100000 in
theorem cohousinglaw36_CauseBlames.calls (k : Nat) (A0 : Option Addr) (c0 : Nat) (l0 : List (S44)) (A1 : Option Addr) (c1 : Nat) (l1 : List (S48)) (a2 : Int) (a3 : Int) (a4 : Int) (r : Bool) (w : World) (hr0 : Kd.C k44 w A0 l0.length l0) (hc0 : l0.length ≤ c0) (hr1 : Kd.C k48 w A1 l1.length l1) (hc1 : l1.length ≤ c1) (h : cohousinglaw36_CauseBlames.f k l0 l1 a2 a3 a4 = some r) :
  Calls Try.prog 7 #[.slice A0 l0.length c0, .slice A1 l1.length c1, .int .i64 a2, .int .u8 a3, .int .u8 a4] w fun e w' => e = .returned (.bool r) ∧ Below w.heap.size w w' := by
 have HR0 := Aside0.mk hr0
 have HC0 := Aside0.mk hc0
 clear hr0 hc0
 have HR1 := Aside0.mk hr1
 have HC1 := Aside0.mk hc1
 clear hr1 hc1
 have HB := Aside0.mk (Below.refl w.heap.size w)
 have H : ((cohousinglaw36_head.f).bind fun t361 => ((cohousinglaw36_usable.f k l0 l1 a2).bind fun t362 => (if t362 = true then (cohousinglaw36_CauseBlames.j0 k l0 l1 a2 a3 a4 t361 ((l0.length : Int) == 0)) else (cohousinglaw36_CauseBlames.j0 k l0 l1 a2 a3 a4 t361 true)))) = some r := h
 clear h
 replace H := Option.bind_eq_some_iff.mp H
 obtain ⟨t361, A60, H⟩ := H
 replace H : ((cohousinglaw36_usable.f k l0 l1 a2).bind fun t362 => (if t362 = true then (cohousinglaw36_CauseBlames.j0 k l0 l1 a2 a3 a4 t361 ((l0.length : Int) == 0)) else (cohousinglaw36_CauseBlames.j0 k l0 l1 a2 a3 a4 t361 true))) = some r := H
 have A6 := Aside0.mk A60
 clear A60
 have HC7 := Aside0.mk H
 clear H
 go_enter Try.func7, Try.ntmps7
 go_upto_region 2 with (first | ((with_reducible refine gate_callee (f := 11) rfl ?_); refine goesL_ (some 22) rfl rfl Try.func11 (by kernel_rfl) rfl #[] rfl (by (try simp only [List.map_toArray, List.map_cons, List.map_nil]); first | done | rfl | (simp only [List.length_drop, List.length_take]; rfl)) ?_; (with_reducible refine (cohousinglaw36_head.calls  t361 _ A6.out).mono ?_); rintro e w8 ⟨rfl, hb⟩; refine ⟨_, rfl, ?_⟩; have n0_ := Aside0.mk (below_step (by repeat (first | (with_reducible first | exact HB.out | apply below_alloc | apply pw_below_drewN | apply below_drew1) | exact HB.out)) hb); clear HB; have HB := n0_; clear n0_; (try clear hb); (try clear hb2); (try clear hk); (try clear hi)))
 (try simp only [Act.put, List.setIfInBounds_toArray, List.set_cons_zero, List.set_cons_succ])
 go_cut [32] (fun v32 wc => ∃ (kq : Nat) (x32_6 : Bool), v32 = .bool x32_6 ∧ Aside0 (cohousinglaw36_CauseBlames.j0 kq l0 l1 a2 a3 a4 t361 x32_6 = some r) ∧ Aside0 (kq ≤ k) ∧ Aside0 (Below w.heap.size w wc))
 case first =>
  have H := HC7.out
  clear HC7
  replace H := Option.bind_eq_some_iff.mp H
  obtain ⟨t362, A90, H⟩ := H
  replace H : (if t362 = true then (cohousinglaw36_CauseBlames.j0 k l0 l1 a2 a3 a4 t361 ((l0.length : Int) == 0)) else (cohousinglaw36_CauseBlames.j0 k l0 l1 a2 a3 a4 t361 true)) = some r := H
  have A9 := Aside0.mk A90
  clear A90
  by_cases c10 : t362 = true
  ·subst c10
   have H1 : (cohousinglaw36_CauseBlames.j0 k l0 l1 a2 a3 a4 t361 ((l0.length : Int) == 0)) = some r := by rw [if_pos rfl] at H; exact H
   clear H
   have H := H1
   clear H1
   have H' := Aside0.mk H
   clear H
   go_wp2_with (first | ((with_reducible refine gate_callee (f := 24) rfl ?_); refine goesL_ (some 26) rfl rfl Try.func24 (by kernel_rfl) rfl #[.slice A0 l0.length c0, .slice A1 l1.length c1, .int .i64 a2] rfl (by (try simp only [List.map_toArray, List.map_cons, List.map_nil]); first | done | rfl | (simp only [List.length_drop, List.length_take]; rfl)) ?_; (with_reducible refine (cohousinglaw36_usable.calls k _ _ l0 _ _ l1 a2 true _ ?side1 ?side2 ?side3 ?side4 A9.out).mono ?_); (case side1 => repeat (first | exact (Kd.C_below HR0.out HB.out) | (with_reducible refine Kd.C_alloc ?_ _) | (with_reducible refine Kd.C_drewN ?_ _) | (with_reducible refine Kd.C_drew ?_))); (case side2 => exact HC0.out); (case side3 => repeat (first | exact (Kd.C_below HR1.out HB.out) | (with_reducible refine Kd.C_alloc ?_ _) | (with_reducible refine Kd.C_drewN ?_ _) | (with_reducible refine Kd.C_drew ?_))); (case side4 => exact HC1.out); rintro e w11 ⟨rfl, hb⟩; refine ⟨_, rfl, ?_⟩; have n0_ := Aside0.mk (below_step (by repeat (first | (with_reducible first | exact HB.out | apply below_alloc | apply pw_below_drewN | apply below_drew1) | exact HB.out)) hb); clear HB; have HB := n0_; clear n0_; (try clear hb); (try clear hb2); (try clear hk); (try clear hi)))
   go_meet
   case rel => exact ⟨_, (((l0.length : Int) == 0)), (by first | rfl | (simp; done) | (simp [*]; done)), H', ⟨by first | omega | exact Nat.le_refl _⟩, ⟨by repeat (first | (with_reducible first | exact HB.out | apply below_alloc | apply pw_below_drewN | apply below_drew1) | exact HB.out)⟩⟩
  ·replace c10 := Bool.eq_false_iff.mpr c10
   subst c10
   have H1 : (cohousinglaw36_CauseBlames.j0 k l0 l1 a2 a3 a4 t361 true) = some r := by rw [if_neg (show ¬ (false = true) by decide)] at H; exact H
   clear H
   have H := H1
   clear H1
   have H' := Aside0.mk H
   clear H
   go_wp2_with (first | ((with_reducible refine gate_callee (f := 24) rfl ?_); refine goesL_ (some 26) rfl rfl Try.func24 (by kernel_rfl) rfl #[.slice A0 l0.length c0, .slice A1 l1.length c1, .int .i64 a2] rfl (by (try simp only [List.map_toArray, List.map_cons, List.map_nil]); first | done | rfl | (simp only [List.length_drop, List.length_take]; rfl)) ?_; (with_reducible refine (cohousinglaw36_usable.calls k _ _ l0 _ _ l1 a2 false _ ?side1 ?side2 ?side3 ?side4 A9.out).mono ?_); (case side1 => repeat (first | exact (Kd.C_below HR0.out HB.out) | (with_reducible refine Kd.C_alloc ?_ _) | (with_reducible refine Kd.C_drewN ?_ _) | (with_reducible refine Kd.C_drew ?_))); (case side2 => exact HC0.out); (case side3 => repeat (first | exact (Kd.C_below HR1.out HB.out) | (with_reducible refine Kd.C_alloc ?_ _) | (with_reducible refine Kd.C_drewN ?_ _) | (with_reducible refine Kd.C_drew ?_))); (case side4 => exact HC1.out); rintro e w12 ⟨rfl, hb⟩; refine ⟨_, rfl, ?_⟩; have n0_ := Aside0.mk (below_step (by repeat (first | (with_reducible first | exact HB.out | apply below_alloc | apply pw_below_drewN | apply below_drew1) | exact HB.out)) hb); clear HB; have HB := n0_; clear n0_; (try clear hb); (try clear hb2); (try clear hk); (try clear hi)))
   go_meet
   case rel => exact ⟨_, (true), (by first | rfl | (simp; done) | (simp [*]; done)), H', ⟨by first | omega | exact Nat.le_refl _⟩, ⟨by repeat (first | (with_reducible first | exact HB.out | apply below_alloc | apply pw_below_drewN | apply below_drew1) | exact HB.out)⟩⟩
 case rest =>
  clear HC7
  try clear c1
  try clear c2
  try clear p2
  try clear c7
  try clear c10
  try clear c11
  obtain ⟨kq, x32_6, rfl, HA, HJ6, HB⟩ := hcut
  cases kq with
  | zero => exact absurd HA.out (by simp [cohousinglaw36_CauseBlames.j0])
  | succ kj6 =>
   have H := HA.out
   clear HA
   simp only [cohousinglaw36_CauseBlames.j0] at H
   by_cases c13 : x32_6 = true
   ·subst c13
    have H1 : (some t361) = some r := by rw [if_pos rfl] at H; exact H
    clear H
    have H := H1
    clear H1
    obtain rfl := Option.some.inj H
    go_wp2
    go_ret
    exact ⟨by first | rfl | (simp [errW_none, errW_some] <;> rfl) | (simp [*, errW_none, errW_some] <;> rfl), by repeat (first | (with_reducible first | exact HB.out | apply below_alloc | apply pw_below_drewN | apply below_drew1) | exact HB.out)⟩
   ·replace c13 := Bool.eq_false_iff.mpr c13
    subst c13
    have H1 : (if (l0.length : Int) = 0 then (none) else ((cause_Blame.f l0 l1 a2 (Int.tmod (wrap64 (a3)) (l0.length : Int))).bind fun bt363 => ((cause_States.f l0 l1 a2).bind fun bt370 => (if bt370.2 = 0 then (if ((bt363.2.2 == 4) != ((bt370.1.length : Int) == 0)) = true then (cohousinglaw36_CauseBlames.j1 kj6 l0 t361 (Int.tmod (wrap64 (a3)) (l0.length : Int)) (wrap64 (1 + (Int.tmod (wrap64 (a4)) 64))) bt363.1 bt363.2.1 bt370.1 true) else (if bt363.2.2 = 0 then (cohousinglaw36_CauseBlames.j1 kj6 l0 t361 (Int.tmod (wrap64 (a3)) (l0.length : Int)) (wrap64 (1 + (Int.tmod (wrap64 (a4)) 64))) bt363.1 bt363.2.1 bt370.1 false) else (cohousinglaw36_CauseBlames.j1 kj6 l0 t361 (Int.tmod (wrap64 (a3)) (l0.length : Int)) (wrap64 (1 + (Int.tmod (wrap64 (a4)) 64))) bt363.1 bt363.2.1 bt370.1 (bt363.2.2 != 4)))) else (cohousinglaw36_CauseBlames.j1 kj6 l0 t361 (Int.tmod (wrap64 (a3)) (l0.length : Int)) (wrap64 (1 + (Int.tmod (wrap64 (a4)) 64))) bt363.1 bt363.2.1 bt370.1 true))))) = some r := by rw [if_neg (show ¬ (false = true) by decide)] at H; exact H
    clear H
    have H := H1
    clear H1
    by_cases c14 : (l0.length : Int) = 0
    ·rw [if_pos c14] at H
     exact absurd H (by simp)
    ·rw [if_neg c14] at H
     have c14b0 : ((l0.length : Int) == 0) = false := beq_eq_false_iff_ne.mpr c14
     have c14b1 : ((l0.length : Int) != 0) = true := bne_iff_ne.mpr c14
     have c14b2 : ¬ (l0 = []) := fun h_ => c14 (by rw [h_]; rfl)
     replace H := Option.bind_eq_some_iff.mp H
     obtain ⟨⟨t363, t364, t365⟩, A150, H⟩ := H
     replace H : ((cause_States.f l0 l1 a2).bind fun bt370 => (if bt370.2 = 0 then (if ((t365 == 4) != ((bt370.1.length : Int) == 0)) = true then (cohousinglaw36_CauseBlames.j1 kj6 l0 t361 (Int.tmod (wrap64 (a3)) (l0.length : Int)) (wrap64 (1 + (Int.tmod (wrap64 (a4)) 64))) t363 t364 bt370.1 true) else (if t365 = 0 then (cohousinglaw36_CauseBlames.j1 kj6 l0 t361 (Int.tmod (wrap64 (a3)) (l0.length : Int)) (wrap64 (1 + (Int.tmod (wrap64 (a4)) 64))) t363 t364 bt370.1 false) else (cohousinglaw36_CauseBlames.j1 kj6 l0 t361 (Int.tmod (wrap64 (a3)) (l0.length : Int)) (wrap64 (1 + (Int.tmod (wrap64 (a4)) 64))) t363 t364 bt370.1 (t365 != 4)))) else (cohousinglaw36_CauseBlames.j1 kj6 l0 t361 (Int.tmod (wrap64 (a3)) (l0.length : Int)) (wrap64 (1 + (Int.tmod (wrap64 (a4)) 64))) t363 t364 bt370.1 true))) = some r := H
     have A15 := Aside0.mk A150
     clear A150
     replace H := Option.bind_eq_some_iff.mp H
     obtain ⟨⟨t370, t371⟩, A160, H⟩ := H
     replace H : (if t371 = 0 then (if ((t365 == 4) != ((t370.length : Int) == 0)) = true then (cohousinglaw36_CauseBlames.j1 kj6 l0 t361 (Int.tmod (wrap64 (a3)) (l0.length : Int)) (wrap64 (1 + (Int.tmod (wrap64 (a4)) 64))) t363 t364 t370 true) else (if t365 = 0 then (cohousinglaw36_CauseBlames.j1 kj6 l0 t361 (Int.tmod (wrap64 (a3)) (l0.length : Int)) (wrap64 (1 + (Int.tmod (wrap64 (a4)) 64))) t363 t364 t370 false) else (cohousinglaw36_CauseBlames.j1 kj6 l0 t361 (Int.tmod (wrap64 (a3)) (l0.length : Int)) (wrap64 (1 + (Int.tmod (wrap64 (a4)) 64))) t363 t364 t370 (t365 != 4)))) else (cohousinglaw36_CauseBlames.j1 kj6 l0 t361 (Int.tmod (wrap64 (a3)) (l0.length : Int)) (wrap64 (1 + (Int.tmod (wrap64 (a4)) 64))) t363 t364 t370 true)) = some r := H
     have A16 := Aside0.mk A160
     clear A160
     have HC17 := Aside0.mk H
     clear H
     go_upto_region 7 with (first | ((with_reducible refine gate_callee (f := 21) rfl ?_); refine goesL_ (some 48) rfl rfl Try.func21 (by kernel_rfl) rfl #[.slice A0 l0.length c0, .slice A1 l1.length c1, .int .i64 a2, .int .i64 (Int.tmod (wrap64 (a3)) (l0.length : Int))] rfl (by (try simp only [List.map_toArray, List.map_cons, List.map_nil]); first | done | rfl | (simp only [List.length_drop, List.length_take]; rfl)) ?_; (with_reducible refine (cause_Blame.calls _ _ l0 _ _ l1 a2 (Int.tmod (wrap64 (a3)) (l0.length : Int)) t363 t364 t365 _ ?side1 ?side2 ?side3 ?side4 A15.out).mono ?_); (case side1 => repeat (first | exact (Kd.C_below HR0.out HB.out) | (with_reducible refine Kd.C_alloc ?_ _) | (with_reducible refine Kd.C_drewN ?_ _) | (with_reducible refine Kd.C_drew ?_))); (case side2 => exact HC0.out); (case side3 => repeat (first | exact (Kd.C_below HR1.out HB.out) | (with_reducible refine Kd.C_alloc ?_ _) | (with_reducible refine Kd.C_drewN ?_ _) | (with_reducible refine Kd.C_drew ?_))); (case side4 => exact HC1.out); rintro e w18 ⟨v366, v368, rfl, ho0, ho1, hb⟩; refine ⟨_, rfl, ?_⟩; have n0_ := Aside0.mk (Kd.R_lower ho0 (below_size (by repeat (first | (with_reducible first | exact HB.out | apply below_alloc | apply pw_below_drewN | apply below_drew1) | exact HB.out)))); have n1_ := Aside0.mk (Kd.R_lower ho1 (below_size (by repeat (first | (with_reducible first | exact HB.out | apply below_alloc | apply pw_below_drewN | apply below_drew1) | exact HB.out)))); have n2_ := Aside0.mk (below_step (by repeat (first | (with_reducible first | exact HB.out | apply below_alloc | apply pw_below_drewN | apply below_drew1) | exact HB.out)) hb); clear HB; have HO367 := n0_; have HO369 := n1_; have HB := n2_; clear n0_ n1_ n2_; (try clear hb); (try clear hb2); (try clear hk); (try clear hi); (try clear ho0); (try clear ho1)) | ((with_reducible refine gate_callee (f := 18) rfl ?_); refine goesL_ (some 56) rfl rfl Try.func18 (by kernel_rfl) rfl #[.slice A0 l0.length c0, .slice A1 l1.length c1, .int .i64 a2] rfl (by (try simp only [List.map_toArray, List.map_cons, List.map_nil]); first | done | rfl | (simp only [List.length_drop, List.length_take]; rfl)) ?_; (with_reducible refine (cause_States.calls _ _ l0 _ _ l1 a2 t370 t371 _ ?side1 ?side2 ?side3 ?side4 A16.out).mono ?_); (case side1 => repeat (first | exact (Kd.C_below HR0.out HB.out) | (with_reducible refine Kd.C_alloc ?_ _) | (with_reducible refine Kd.C_drewN ?_ _) | (with_reducible refine Kd.C_drew ?_))); (case side2 => exact HC0.out); (case side3 => repeat (first | exact (Kd.C_below HR1.out HB.out) | (with_reducible refine Kd.C_alloc ?_ _) | (with_reducible refine Kd.C_drewN ?_ _) | (with_reducible refine Kd.C_drew ?_))); (case side4 => exact HC1.out); rintro e w19 ⟨v372, rfl, ho0, hb⟩; refine ⟨_, rfl, ?_⟩; have n0_ := Aside0.mk (Kd.R_below (by (with_reducible repeat (first | apply Kd.R_alloc | apply Kd.R_drewN | apply Kd.R_drew)); exact HO367.out) hb); have n1_ := Aside0.mk (Kd.R_below (by (with_reducible repeat (first | apply Kd.R_alloc | apply Kd.R_drewN | apply Kd.R_drew)); exact HO369.out) hb); have n2_ := Aside0.mk (Kd.S_lower ho0 (below_size (by repeat (first | (with_reducible first | exact HB.out | apply below_alloc | apply pw_below_drewN | apply below_drew1) | exact HB.out)))); have n3_ := Aside0.mk (below_step (by repeat (first | (with_reducible first | exact HB.out | apply below_alloc | apply pw_below_drewN | apply below_drew1) | exact HB.out)) hb); clear HO367; clear HO369; clear HB; have HO367 := n0_; have HO369 := n1_; have HO373 := n2_; have HB := n3_; clear n0_ n1_ n2_ n3_; (try clear hb); (try clear hb2); (try clear hk); (try clear hi); (try clear ho0)))
     (try simp only [Act.put, List.setIfInBounds_toArray, List.set_cons_zero, List.set_cons_succ])
     go_cut [76] (fun v76 wc => ∃ (kq : Nat) (x76_16 : Bool), v76 = .bool x76_16 ∧ Aside0 (cohousinglaw36_CauseBlames.j1 kq l0 t361 (Int.tmod (wrap64 (a3)) (l0.length : Int)) (wrap64 (1 + (Int.tmod (wrap64 (a4)) 64))) t363 t364 t370 x76_16 = some r) ∧ Aside0 (kq ≤ kj6) ∧ Aside0 (Kd.R (Kd.int .i64) 3 wc w.heap.size (fun k_ => some k_ ≠ (v368 : Value).ownBlock) v366 t363) ∧ Aside0 (Kd.R (Kd.int .i64) 3 wc w.heap.size (fun k_ => some k_ ≠ (v366 : Value).ownBlock) v368 t364) ∧ Aside0 (Kd.S (Kd.slice 4 Kd.bool) 23 wc w.heap.size (fun _ => True) v372 t370) ∧ Aside0 (Below w.heap.size w wc))
     case first =>
      have H := HC17.out
      clear HC17
      by_cases c20 : t371 = 0
      ·rw [if_pos c20] at H
       have c20b0 : (t371 == 0) = true := beq_iff_eq.mpr c20
       have c20b1 : (t371 != 0) = false := bne_eq_false_iff_eq.mpr c20
       clear c20
       (first | rw [c20b0] | (simp only [i64_w, i32_w]; rw [c20b0]) | skip)
       by_cases c21 : ((t365 == 4) != ((t370.length : Int) == 0)) = true
       ·rw [if_pos c21] at H
        have c21b0 : ((t365 == 4) != ((t370.length : Int) == 0)) = true := c21
        (try (have c21b1 : decide ((t365 == 4) = ((t370.length : Int) == 0)) = false := by simpa using c21))
        (try (have c21b2 : ((t365 == 4) == ((t370.length : Int) == 0)) = false := by simpa using c21))
        (try (have c21b3 : ¬ ((t365 == 4) = ((t370.length : Int) == 0)) := by simpa using c21))
        clear c21
        have H' := Aside0.mk H
        clear H
        obtain ⟨Ao22, co22, eo22⟩ := Kd.S_slice HO373.out
        subst eo22
        go_wp2
        go_meet
        case rel => exact ⟨_, (true), (by first | rfl | (simp; done) | (simp [*]; done)), H', ⟨by have := HJ6.out; first | omega | exact Nat.le_refl _⟩, ⟨by (with_reducible repeat (first | apply Kd.R_alloc | apply Kd.R_drewN | apply Kd.R_drew)); exact HO367.out⟩, ⟨by (with_reducible repeat (first | apply Kd.R_alloc | apply Kd.R_drewN | apply Kd.R_drew)); exact HO369.out⟩, ⟨by (with_reducible repeat (first | apply Kd.S_alloc | apply Kd.S_drewN | apply Kd.S_drew)); exact HO373.out⟩, ⟨by repeat (first | (with_reducible first | exact HB.out | apply below_alloc | apply pw_below_drewN | apply below_drew1) | exact HB.out)⟩⟩
       ·rw [if_neg c21] at H
        have c21b0 : ((t365 == 4) != ((t370.length : Int) == 0)) = false := by simpa using c21
        (try (have c21b1 : decide ((t365 == 4) = ((t370.length : Int) == 0)) = true := by simpa using c21))
        (try (have c21b2 : ((t365 == 4) == ((t370.length : Int) == 0)) = true := by simpa using c21))
        clear c21
        by_cases c23 : t365 = 0
        ·rw [if_pos c23] at H
         have c23b0 : (t365 == 0) = true := beq_iff_eq.mpr c23
         have c23b1 : (t365 != 0) = false := bne_eq_false_iff_eq.mpr c23
         clear c23
         have H' := Aside0.mk H
         clear H
         obtain ⟨Ao24, co24, eo24⟩ := Kd.S_slice HO373.out
         subst eo24
         go_wp2
         go_meet
         case rel => exact ⟨_, (false), (by first | rfl | (simp; done) | (simp [*]; done)), H', ⟨by have := HJ6.out; first | omega | exact Nat.le_refl _⟩, ⟨by (with_reducible repeat (first | apply Kd.R_alloc | apply Kd.R_drewN | apply Kd.R_drew)); exact HO367.out⟩, ⟨by (with_reducible repeat (first | apply Kd.R_alloc | apply Kd.R_drewN | apply Kd.R_drew)); exact HO369.out⟩, ⟨by (with_reducible repeat (first | apply Kd.S_alloc | apply Kd.S_drewN | apply Kd.S_drew)); exact HO373.out⟩, ⟨by repeat (first | (with_reducible first | exact HB.out | apply below_alloc | apply pw_below_drewN | apply below_drew1) | exact HB.out)⟩⟩
        ·rw [if_neg c23] at H
         have c23b0 : (t365 == 0) = false := beq_eq_false_iff_ne.mpr c23
         have c23b1 : (t365 != 0) = true := bne_iff_ne.mpr c23
         have H' := Aside0.mk H
         clear H
         obtain ⟨Ao25, co25, eo25⟩ := Kd.S_slice HO373.out
         subst eo25
         go_wp2
         go_meet
         case rel => exact ⟨_, ((t365 != 4)), (by first | rfl | (simp; done) | (simp [*]; done)), H', ⟨by have := HJ6.out; first | omega | exact Nat.le_refl _⟩, ⟨by (with_reducible repeat (first | apply Kd.R_alloc | apply Kd.R_drewN | apply Kd.R_drew)); exact HO367.out⟩, ⟨by (with_reducible repeat (first | apply Kd.R_alloc | apply Kd.R_drewN | apply Kd.R_drew)); exact HO369.out⟩, ⟨by (with_reducible repeat (first | apply Kd.S_alloc | apply Kd.S_drewN | apply Kd.S_drew)); exact HO373.out⟩, ⟨by repeat (first | (with_reducible first | exact HB.out | apply below_alloc | apply pw_below_drewN | apply below_drew1) | exact HB.out)⟩⟩
      ·rw [if_neg c20] at H
       have c20b0 : (t371 == 0) = false := beq_eq_false_iff_ne.mpr c20
       have c20b1 : (t371 != 0) = true := bne_iff_ne.mpr c20
       (first | rw [c20b0] | (simp only [i64_w, i32_w]; rw [c20b0]) | skip)
       have H' := Aside0.mk H
       clear H
       go_wp2
       go_meet
       case rel => exact ⟨_, (true), (by first | rfl | (simp; done) | (simp [*]; done)), H', ⟨by have := HJ6.out; first | omega | exact Nat.le_refl _⟩, ⟨by (with_reducible repeat (first | apply Kd.R_alloc | apply Kd.R_drewN | apply Kd.R_drew)); exact HO367.out⟩, ⟨by (with_reducible repeat (first | apply Kd.R_alloc | apply Kd.R_drewN | apply Kd.R_drew)); exact HO369.out⟩, ⟨by (with_reducible repeat (first | apply Kd.S_alloc | apply Kd.S_drewN | apply Kd.S_drew)); exact HO373.out⟩, ⟨by repeat (first | (with_reducible first | exact HB.out | apply below_alloc | apply pw_below_drewN | apply below_drew1) | exact HB.out)⟩⟩
     case rest =>
      clear HC17
      try clear c1
      try clear c2
      try clear p2
      try clear p6
      try clear c7
      try clear c10
      try clear c11
      try clear c13
      try clear c14
      try clear c14b0
      try clear c14b1
      try clear c14b2
      try clear c18
      try clear c20
      try clear c20b0
      try clear c20b1
      try clear c21
      try clear c21b0
      try clear c21b1
      try clear c21b2
      try clear c23
      try clear c23b0
      try clear c23b1
      try clear c24
      try clear p2
      obtain ⟨kq, x76_16, rfl, HA, HJ16, HO_14, HO_15, HO_17, HB⟩ := hcut
      cases kq with
      | zero => exact absurd HA.out (by simp [cohousinglaw36_CauseBlames.j1])
      | succ kj16 =>
       have H := HA.out
       clear HA
       simp only [cohousinglaw36_CauseBlames.j1] at H
       by_cases c26 : x76_16 = true
       ·subst c26
        have H1 : (some false) = some r := by rw [if_pos rfl] at H; exact H
        clear H
        have H := H1
        clear H1
        obtain rfl := Option.some.inj H
        go_wp2
        go_ret
        exact ⟨by first | rfl | (simp [errW_none, errW_some] <;> rfl) | (simp [*, errW_none, errW_some] <;> rfl), by repeat (first | (with_reducible first | exact HB.out | apply below_alloc | apply pw_below_drewN | apply below_drew1) | exact HB.out)⟩
       ·replace c26 := Bool.eq_false_iff.mpr c26
        subst c26
        have H1 : (cohousinglaw36_CauseBlames.l0 kj16 l0 t361 (Int.tmod (wrap64 (a3)) (l0.length : Int)) (wrap64 (1 + (Int.tmod (wrap64 (a4)) 64))) t363 t364 t370 0 t370 (t370.length : Int) 0) = some r := by rw [if_neg (show ¬ (false = true) by decide)] at H; exact H
        clear H
        have H := H1
        clear H1
        have H' := Aside0.mk H
        clear H
        obtain ⟨Ao27, co27, eo27⟩ := Kd.S_slice HO_17.out
        subst eo27
        go_wp2
        go_loopg [19, 79] kj16 (fun kq v19 v79 w' => ∃ (x19_3 : Int) (x79_3 : Int), v19 = .int .i64 x19_3 ∧ v79 = .int .i64 x79_3 ∧ Aside0 (cohousinglaw36_CauseBlames.l0 kq l0 t361 (Int.tmod (wrap64 (a3)) (l0.length : Int)) (wrap64 (1 + (Int.tmod (wrap64 (a4)) 64))) t363 t364 t370 x19_3 t370 (t370.length : Int) x79_3 = some r) ∧ Aside0 (kq ≤ kj16) ∧ Aside0 (Kd.R (Kd.int .i64) 3 w' w.heap.size (fun k_ => some k_ ≠ (v368 : Value).ownBlock) v366 t363) ∧ Aside0 (Kd.R (Kd.int .i64) 3 w' w.heap.size (fun k_ => some k_ ≠ (v366 : Value).ownBlock) v368 t364) ∧ Aside0 (Kd.S (Kd.slice 4 Kd.bool) 23 w' w.heap.size (fun _ => True) (.slice Ao27 t370.length co27) t370) ∧ Aside0 (Kd.S (Kd.slice 4 Kd.bool) 23 w' w.heap.size (fun _ => True) (.slice Ao27 t370.length co27) t370) ∧ Aside0 (Below w.heap.size w w'))
        case atStart => exact ⟨(0), (0), (by first | rfl | (simp; done) | (simp [*]; done)), (by first | rfl | (simp; done) | (simp [*]; done)), H', ⟨Nat.le_refl _⟩, ⟨by (with_reducible repeat (first | apply Kd.R_alloc | apply Kd.R_drewN | apply Kd.R_drew)); exact HO_14.out⟩, ⟨by (with_reducible repeat (first | apply Kd.R_alloc | apply Kd.R_drewN | apply Kd.R_drew)); exact HO_15.out⟩, ⟨by (with_reducible repeat (first | apply Kd.S_alloc | apply Kd.S_drewN | apply Kd.S_drew)); exact HO_17.out⟩, ⟨by (with_reducible repeat (first | apply Kd.S_alloc | apply Kd.S_drewN | apply Kd.S_drew)); exact HO_17.out⟩, ⟨by repeat (first | (with_reducible first | exact HB.out | apply below_alloc | apply pw_below_drewN | apply below_drew1) | exact HB.out)⟩⟩
        case round =>
         clear H'
         try clear c1
         try clear c2
         try clear p2
         try clear p6
         try clear c7
         try clear c10
         try clear c11
         try clear c13
         try clear c14
         try clear c14b0
         try clear c14b1
         try clear c14b2
         try clear c18
         try clear c20
         try clear c20b0
         try clear c20b1
         try clear c21
         try clear c21b0
         try clear c21b1
         try clear c21b2
         try clear c23
         try clear c23b0
         try clear c23b1
         try clear c24
         try clear c26
         try clear p2
         try clear p6
         obtain ⟨x19_3, x79_3, rfl, rfl, HA, HK3, HO_14, HO_15, HO_17, HO_77, HB⟩ := hrel
         cases gk with
         | zero => exact absurd HA.out (by simp [cohousinglaw36_CauseBlames.l0])
         | succ k3 =>
          have H := HA.out
          clear HA
          simp only [cohousinglaw36_CauseBlames.l0] at H
          by_cases c28 : x79_3 < (t370.length : Int)
          ·rw [if_pos c28] at H
           have c28b0 : decide (x79_3 < (t370.length : Int)) = true := decide_eq_true c28
           clear c28
           by_cases c29 : 0 ≤ x79_3
           ·rw [if_pos c29] at H
            have c29b0 : decide (0 ≤ x79_3) = true := decide_eq_true c29
            clear c29
            by_cases c30 : x79_3 < (t370.length : Int)
            ·rw [if_pos c30] at H
             have c30b0 : decide (x79_3 < (t370.length : Int)) = true := decide_eq_true c30
             clear c30
             replace H := Option.bind_eq_some_iff.mp H
             obtain ⟨t387, A310, H⟩ := H
             replace H : (if ((rd_L3 t370 x79_3).length : Int) = (t387.length : Int) then ((cohousinglaw36_blamed.f k3 l0 (rd_L3 t370 x79_3) (wrap64 (1 + (Int.tmod (wrap64 (a4)) 64))) (Int.tmod (wrap64 (a3)) (l0.length : Int))).bind fun t390 => (if t390 = true then (cohousinglaw36_CauseBlames.l0 k3 l0 t361 (Int.tmod (wrap64 (a3)) (l0.length : Int)) (wrap64 (1 + (Int.tmod (wrap64 (a4)) 64))) t363 t364 t370 (wrap64 (x19_3 + 1)) t370 (t370.length : Int) (wrap64 (x79_3 + 1))) else (cohousinglaw36_CauseBlames.l0 k3 l0 t361 (Int.tmod (wrap64 (a3)) (l0.length : Int)) (wrap64 (1 + (Int.tmod (wrap64 (a4)) 64))) t363 t364 t370 x19_3 t370 (t370.length : Int) (wrap64 (x79_3 + 1))))) else (cohousinglaw36_CauseBlames.l0 k3 l0 t361 (Int.tmod (wrap64 (a3)) (l0.length : Int)) (wrap64 (1 + (Int.tmod (wrap64 (a4)) 64))) t363 t364 t370 x19_3 t370 (t370.length : Int) (wrap64 (x79_3 + 1)))) = some r := H
             have A31 := Aside0.mk A310
             clear A310
             by_cases c32 : ((rd_L3 t370 x79_3).length : Int) = (t387.length : Int)
             ·rw [if_pos c32] at H
              have c32b0 : (((rd_L3 t370 x79_3).length : Int) == (t387.length : Int)) = true := beq_iff_eq.mpr c32
              have c32b1 : (((rd_L3 t370 x79_3).length : Int) != (t387.length : Int)) = false := bne_eq_false_iff_eq.mpr c32
              have c32b2 : ((rd_L3 t370 x79_3).length == t387.length) = true := by first | simpa using c32 | (simp at c32 ⊢; omega)
              clear c32
              replace H := Option.bind_eq_some_iff.mp H
              obtain ⟨t390, A330, H⟩ := H
              replace H : (if t390 = true then (cohousinglaw36_CauseBlames.l0 k3 l0 t361 (Int.tmod (wrap64 (a3)) (l0.length : Int)) (wrap64 (1 + (Int.tmod (wrap64 (a4)) 64))) t363 t364 t370 (wrap64 (x19_3 + 1)) t370 (t370.length : Int) (wrap64 (x79_3 + 1))) else (cohousinglaw36_CauseBlames.l0 k3 l0 t361 (Int.tmod (wrap64 (a3)) (l0.length : Int)) (wrap64 (1 + (Int.tmod (wrap64 (a4)) 64))) t363 t364 t370 x19_3 t370 (t370.length : Int) (wrap64 (x79_3 + 1)))) = some r := H
              have A33 := Aside0.mk A330
              clear A330
              by_cases c34 : t390 = true
              ·subst c34
               have H1 : (cohousinglaw36_CauseBlames.l0 k3 l0 t361 (Int.tmod (wrap64 (a3)) (l0.length : Int)) (wrap64 (1 + (Int.tmod (wrap64 (a4)) 64))) t363 t364 t370 (wrap64 (x19_3 + 1)) t370 (t370.length : Int) (wrap64 (x79_3 + 1))) = some r := by rw [if_pos rfl] at H; exact H
               clear H
               have H := H1
               clear H1
               have H' := Aside0.mk H
               clear H
               have p386 : 0 ≤ (x79_3 : Int) := of_decide_eq_true (by first | (with_reducible assumption) | assumption)
               have q386 : x79_3 < (t370.length : Int) := of_decide_eq_true (by first | (with_reducible assumption) | assumption)
               obtain ⟨ad386, A386_0, c386_0, e386, hx386_0, hl386_0, hi386_0⟩ := at_L3 (Kd.S_reads' HO_77.out).2.2 x79_3 p386 q386
               cases e386
               obtain ⟨ce386, hce386, hMe386, hcc386⟩ := Kd.S_get HO_77.out [] x79_3 p386 (by first | exact q386 | exact of_decide_eq_true (by first | (with_reducible assumption) | assumption) | (have e_ := (Kd.S_reads' HO_77.out).1; omega))
               obtain ⟨ve386_0, rfl, ge386_0⟩ := hMe386
               have hv386_0 := hcc386 0 _ rfl
               rw [Nat.add_zero, show ((Kd.slice 4 Kd.bool)).sz = 1 from rfl, Nat.mul_one] at hv386_0
               replace hv386_0 := Option.some.inj (hv386_0.symm.trans hx386_0)
               rw [hv386_0] at ge386_0
               have HL386_0 := Aside0.mk (show Kd.R Kd.bool 4 _ _ _ _ (rd_L3 t370 x79_3) from ge386_0)
               clear hv386_0 ge386_0
               clear hcc386 hce386
               have HR386_0 := Aside0.mk hi386_0
               have HC386_0 := Aside0.mk hl386_0
               clear hi386_0 hl386_0
               replace p386 := eq_true p386
               replace q386 := eq_true q386
               go_wp2_with (first | ((with_reducible refine gate_callee (f := 25) rfl ?_); refine goesL_ (some 86) rfl rfl Try.func25 (by kernel_rfl) rfl #[.slice A0 l0.length c0] rfl (by (try simp only [List.map_toArray, List.map_cons, List.map_nil]); first | done | rfl | (simp only [List.length_drop, List.length_take]; rfl)) ?_; (with_reducible refine (cohousingref36_Free.calls k3 _ _ l0 t387 _ ?side1 ?side2 A31.out).mono ?_); (case side1 => repeat (first | exact (Kd.C_below HR0.out HB.out) | (with_reducible refine Kd.C_alloc ?_ _) | (with_reducible refine Kd.C_drewN ?_ _) | (with_reducible refine Kd.C_drew ?_))); (case side2 => exact HC0.out); rintro e w35 ⟨v388, rfl, ho0, hb⟩; refine ⟨_, rfl, ?_⟩; have n0_ := Aside0.mk (Kd.R_elder' (by (with_reducible repeat (first | apply Kd.R_alloc | apply Kd.R_drewN | apply Kd.R_drew)); exact HO_14.out) (Kd.R_base ho0) hb); have n1_ := Aside0.mk (Kd.R_elder' (by (with_reducible repeat (first | apply Kd.R_alloc | apply Kd.R_drewN | apply Kd.R_drew)); exact HO_15.out) (Kd.R_base ho0) hb); have n2_ := Aside0.mk (Kd.S_below (by (with_reducible repeat (first | apply Kd.S_alloc | apply Kd.S_drewN | apply Kd.S_drew)); exact HO_17.out) hb); have n3_ := Aside0.mk (Kd.S_below (by (with_reducible repeat (first | apply Kd.S_alloc | apply Kd.S_drewN | apply Kd.S_drew)); exact HO_77.out) hb); have n4_ := Aside0.mk (Kd.R_below (by (with_reducible repeat (first | apply Kd.R_alloc | apply Kd.R_drewN | apply Kd.R_drew)); exact HL386_0.out) hb); have n5_ := Aside0.mk (Kd.R_lower (Kd.R_new' (Kd.R_new' ho0 (Kd.R_lt (by (with_reducible repeat (first | apply Kd.R_alloc | apply Kd.R_drewN | apply Kd.R_drew)); exact HO_14.out))) (Kd.R_lt (by (with_reducible repeat (first | apply Kd.R_alloc | apply Kd.R_drewN | apply Kd.R_drew)); exact HO_15.out))) (below_size (by repeat (first | (with_reducible first | exact HB.out | apply below_alloc | apply pw_below_drewN | apply below_drew1) | exact HB.out)))); have n6_ := Aside0.mk (Kd.C_below (by repeat (first | (with_reducible exact HR386_0.out) | (with_reducible refine Kd.C_alloc ?_ _) | (with_reducible refine Kd.C_drewN ?_ _) | (with_reducible refine Kd.C_drew ?_) | exact HR386_0.out)) hb); have n7_ := Aside0.mk (below_step (by repeat (first | (with_reducible first | exact HB.out | apply below_alloc | apply pw_below_drewN | apply below_drew1) | exact HB.out)) hb); clear HO_14; clear HO_15; clear HO_17; clear HO_77; clear HL386_0; clear HR386_0; clear HB; have HO_14 := n0_; have HO_15 := n1_; have HO_17 := n2_; have HO_77 := n3_; have HL386_0 := n4_; have HO389 := n5_; have HR386_0 := n6_; have HB := n7_; clear n0_ n1_ n2_ n3_ n4_ n5_ n6_ n7_; (try clear hb); (try clear hb2); (try clear hk); (try clear hi); (try clear ho0); obtain ⟨Ao36, co36, eo36⟩ := Kd.R_slice HO389.out; subst eo36) | (go_at_call 28; (with_reducible refine (cohousinglaw36_blamed.calls k3 _ _ l0 _ _ (rd_L3 t370 x79_3) (wrap64 (1 + (Int.tmod (wrap64 (a4)) 64))) (Int.tmod (wrap64 (a3)) (l0.length : Int)) true _ ?side1 ?side2 ?side3 ?side4 A33.out).mono ?_); (case side1 => repeat (first | exact (Kd.C_below HR0.out HB.out) | (with_reducible refine Kd.C_alloc ?_ _) | (with_reducible refine Kd.C_drewN ?_ _) | (with_reducible refine Kd.C_drew ?_))); (case side2 => exact HC0.out); (case side3 => repeat (first | exact (by repeat (first | (with_reducible exact HR386_0.out) | (with_reducible refine Kd.C_alloc ?_ _) | (with_reducible refine Kd.C_drewN ?_ _) | (with_reducible refine Kd.C_drew ?_) | exact HR386_0.out)) | (with_reducible refine Kd.C_alloc ?_ _) | (with_reducible refine Kd.C_drewN ?_ _) | (with_reducible refine Kd.C_drew ?_))); (case side4 => exact HC386_0.out); rintro e w37 ⟨rfl, hb⟩; have n0_ := Aside0.mk (Kd.R_below (by (with_reducible repeat (first | apply Kd.R_alloc | apply Kd.R_drewN | apply Kd.R_drew)); exact HO_14.out) hb); have n1_ := Aside0.mk (Kd.R_below (by (with_reducible repeat (first | apply Kd.R_alloc | apply Kd.R_drewN | apply Kd.R_drew)); exact HO_15.out) hb); have n2_ := Aside0.mk (Kd.S_below (by (with_reducible repeat (first | apply Kd.S_alloc | apply Kd.S_drewN | apply Kd.S_drew)); exact HO_17.out) hb); have n3_ := Aside0.mk (Kd.S_below (by (with_reducible repeat (first | apply Kd.S_alloc | apply Kd.S_drewN | apply Kd.S_drew)); exact HO_77.out) hb); have n4_ := Aside0.mk (Kd.R_below (by (with_reducible repeat (first | apply Kd.R_alloc | apply Kd.R_drewN | apply Kd.R_drew)); exact HL386_0.out) hb); have n5_ := Aside0.mk (Kd.R_below (by (with_reducible repeat (first | apply Kd.R_alloc | apply Kd.R_drewN | apply Kd.R_drew)); exact HO389.out) hb); have n6_ := Aside0.mk (Kd.C_below (by repeat (first | (with_reducible exact HR386_0.out) | (with_reducible refine Kd.C_alloc ?_ _) | (with_reducible refine Kd.C_drewN ?_ _) | (with_reducible refine Kd.C_drew ?_) | exact HR386_0.out)) hb); have n7_ := Aside0.mk (below_step (by repeat (first | (with_reducible first | exact HB.out | apply below_alloc | apply pw_below_drewN | apply below_drew1) | exact HB.out)) hb); clear HO_14; clear HO_15; clear HO_17; clear HO_77; clear HL386_0; clear HO389; clear HR386_0; clear HB; have HO_14 := n0_; have HO_15 := n1_; have HO_17 := n2_; have HO_77 := n3_; have HL386_0 := n4_; have HO389 := n5_; have HR386_0 := n6_; have HB := n7_; clear n0_ n1_ n2_ n3_ n4_ n5_ n6_ n7_; (try clear hb); (try clear hb2); (try clear hk); (try clear hi)))
               go_roundg k3
               case measure => have := HJ6.out; have := HJ16.out; have := HK3.out; omega
               case rel => exact ⟨(wrap64 (x19_3 + 1)), (wrap64 (x79_3 + 1)), (by first | rfl | (simp; done) | (simp [*]; done)), (by first | rfl | (simp; done) | (simp [*]; done)), H', ⟨by have := HJ6.out; have := HJ16.out; have := HK3.out; omega⟩, ⟨by (with_reducible repeat (first | apply Kd.R_alloc | apply Kd.R_drewN | apply Kd.R_drew)); exact Kd.R_mono HO_14.out (fun _ hk => hk.1)⟩, ⟨by (with_reducible repeat (first | apply Kd.R_alloc | apply Kd.R_drewN | apply Kd.R_drew)); exact Kd.R_mono HO_15.out (fun _ hk => hk.1)⟩, ⟨by (with_reducible repeat (first | apply Kd.S_alloc | apply Kd.S_drewN | apply Kd.S_drew)); exact HO_17.out⟩, ⟨by (with_reducible repeat (first | apply Kd.S_alloc | apply Kd.S_drewN | apply Kd.S_drew)); exact HO_77.out⟩, ⟨by repeat (first | (with_reducible first | exact HB.out | apply below_alloc | apply pw_below_drewN | apply below_drew1) | exact HB.out)⟩⟩
              ·replace c34 := Bool.eq_false_iff.mpr c34
               subst c34
               have H1 : (cohousinglaw36_CauseBlames.l0 k3 l0 t361 (Int.tmod (wrap64 (a3)) (l0.length : Int)) (wrap64 (1 + (Int.tmod (wrap64 (a4)) 64))) t363 t364 t370 x19_3 t370 (t370.length : Int) (wrap64 (x79_3 + 1))) = some r := by rw [if_neg (show ¬ (false = true) by decide)] at H; exact H
               clear H
               have H := H1
               clear H1
               have H' := Aside0.mk H
               clear H
               have p386 : 0 ≤ (x79_3 : Int) := of_decide_eq_true (by first | (with_reducible assumption) | assumption)
               have q386 : x79_3 < (t370.length : Int) := of_decide_eq_true (by first | (with_reducible assumption) | assumption)
               obtain ⟨ad386, A386_0, c386_0, e386, hx386_0, hl386_0, hi386_0⟩ := at_L3 (Kd.S_reads' HO_77.out).2.2 x79_3 p386 q386
               cases e386
               obtain ⟨ce386, hce386, hMe386, hcc386⟩ := Kd.S_get HO_77.out [] x79_3 p386 (by first | exact q386 | exact of_decide_eq_true (by first | (with_reducible assumption) | assumption) | (have e_ := (Kd.S_reads' HO_77.out).1; omega))
               obtain ⟨ve386_0, rfl, ge386_0⟩ := hMe386
               have hv386_0 := hcc386 0 _ rfl
               rw [Nat.add_zero, show ((Kd.slice 4 Kd.bool)).sz = 1 from rfl, Nat.mul_one] at hv386_0
               replace hv386_0 := Option.some.inj (hv386_0.symm.trans hx386_0)
               rw [hv386_0] at ge386_0
               have HL386_0 := Aside0.mk (show Kd.R Kd.bool 4 _ _ _ _ (rd_L3 t370 x79_3) from ge386_0)
               clear hv386_0 ge386_0
               clear hcc386 hce386
               have HR386_0 := Aside0.mk hi386_0
               have HC386_0 := Aside0.mk hl386_0
               clear hi386_0 hl386_0
               replace p386 := eq_true p386
               replace q386 := eq_true q386
               go_wp2_with (first | ((with_reducible refine gate_callee (f := 25) rfl ?_); refine goesL_ (some 86) rfl rfl Try.func25 (by kernel_rfl) rfl #[.slice A0 l0.length c0] rfl (by (try simp only [List.map_toArray, List.map_cons, List.map_nil]); first | done | rfl | (simp only [List.length_drop, List.length_take]; rfl)) ?_; (with_reducible refine (cohousingref36_Free.calls k3 _ _ l0 t387 _ ?side1 ?side2 A31.out).mono ?_); (case side1 => repeat (first | exact (Kd.C_below HR0.out HB.out) | (with_reducible refine Kd.C_alloc ?_ _) | (with_reducible refine Kd.C_drewN ?_ _) | (with_reducible refine Kd.C_drew ?_))); (case side2 => exact HC0.out); rintro e w38 ⟨v388, rfl, ho0, hb⟩; refine ⟨_, rfl, ?_⟩; have n0_ := Aside0.mk (Kd.R_elder' (by (with_reducible repeat (first | apply Kd.R_alloc | apply Kd.R_drewN | apply Kd.R_drew)); exact HO_14.out) (Kd.R_base ho0) hb); have n1_ := Aside0.mk (Kd.R_elder' (by (with_reducible repeat (first | apply Kd.R_alloc | apply Kd.R_drewN | apply Kd.R_drew)); exact HO_15.out) (Kd.R_base ho0) hb); have n2_ := Aside0.mk (Kd.S_below (by (with_reducible repeat (first | apply Kd.S_alloc | apply Kd.S_drewN | apply Kd.S_drew)); exact HO_17.out) hb); have n3_ := Aside0.mk (Kd.S_below (by (with_reducible repeat (first | apply Kd.S_alloc | apply Kd.S_drewN | apply Kd.S_drew)); exact HO_77.out) hb); have n4_ := Aside0.mk (Kd.R_below (by (with_reducible repeat (first | apply Kd.R_alloc | apply Kd.R_drewN | apply Kd.R_drew)); exact HL386_0.out) hb); have n5_ := Aside0.mk (Kd.R_lower (Kd.R_new' (Kd.R_new' ho0 (Kd.R_lt (by (with_reducible repeat (first | apply Kd.R_alloc | apply Kd.R_drewN | apply Kd.R_drew)); exact HO_14.out))) (Kd.R_lt (by (with_reducible repeat (first | apply Kd.R_alloc | apply Kd.R_drewN | apply Kd.R_drew)); exact HO_15.out))) (below_size (by repeat (first | (with_reducible first | exact HB.out | apply below_alloc | apply pw_below_drewN | apply below_drew1) | exact HB.out)))); have n6_ := Aside0.mk (Kd.C_below (by repeat (first | (with_reducible exact HR386_0.out) | (with_reducible refine Kd.C_alloc ?_ _) | (with_reducible refine Kd.C_drewN ?_ _) | (with_reducible refine Kd.C_drew ?_) | exact HR386_0.out)) hb); have n7_ := Aside0.mk (below_step (by repeat (first | (with_reducible first | exact HB.out | apply below_alloc | apply pw_below_drewN | apply below_drew1) | exact HB.out)) hb); clear HO_14; clear HO_15; clear HO_17; clear HO_77; clear HL386_0; clear HR386_0; clear HB; have HO_14 := n0_; have HO_15 := n1_; have HO_17 := n2_; have HO_77 := n3_; have HL386_0 := n4_; have HO389 := n5_; have HR386_0 := n6_; have HB := n7_; clear n0_ n1_ n2_ n3_ n4_ n5_ n6_ n7_; (try clear hb); (try clear hb2); (try clear hk); (try clear hi); (try clear ho0); obtain ⟨Ao39, co39, eo39⟩ := Kd.R_slice HO389.out; subst eo39) | (go_at_call 28; (with_reducible refine (cohousinglaw36_blamed.calls k3 _ _ l0 _ _ (rd_L3 t370 x79_3) (wrap64 (1 + (Int.tmod (wrap64 (a4)) 64))) (Int.tmod (wrap64 (a3)) (l0.length : Int)) false _ ?side1 ?side2 ?side3 ?side4 A33.out).mono ?_); (case side1 => repeat (first | exact (Kd.C_below HR0.out HB.out) | (with_reducible refine Kd.C_alloc ?_ _) | (with_reducible refine Kd.C_drewN ?_ _) | (with_reducible refine Kd.C_drew ?_))); (case side2 => exact HC0.out); (case side3 => repeat (first | exact (by repeat (first | (with_reducible exact HR386_0.out) | (with_reducible refine Kd.C_alloc ?_ _) | (with_reducible refine Kd.C_drewN ?_ _) | (with_reducible refine Kd.C_drew ?_) | exact HR386_0.out)) | (with_reducible refine Kd.C_alloc ?_ _) | (with_reducible refine Kd.C_drewN ?_ _) | (with_reducible refine Kd.C_drew ?_))); (case side4 => exact HC386_0.out); rintro e w40 ⟨rfl, hb⟩; have n0_ := Aside0.mk (Kd.R_below (by (with_reducible repeat (first | apply Kd.R_alloc | apply Kd.R_drewN | apply Kd.R_drew)); exact HO_14.out) hb); have n1_ := Aside0.mk (Kd.R_below (by (with_reducible repeat (first | apply Kd.R_alloc | apply Kd.R_drewN | apply Kd.R_drew)); exact HO_15.out) hb); have n2_ := Aside0.mk (Kd.S_below (by (with_reducible repeat (first | apply Kd.S_alloc | apply Kd.S_drewN | apply Kd.S_drew)); exact HO_17.out) hb); have n3_ := Aside0.mk (Kd.S_below (by (with_reducible repeat (first | apply Kd.S_alloc | apply Kd.S_drewN | apply Kd.S_drew)); exact HO_77.out) hb); have n4_ := Aside0.mk (Kd.R_below (by (with_reducible repeat (first | apply Kd.R_alloc | apply Kd.R_drewN | apply Kd.R_drew)); exact HL386_0.out) hb); have n5_ := Aside0.mk (Kd.R_below (by (with_reducible repeat (first | apply Kd.R_alloc | apply Kd.R_drewN | apply Kd.R_drew)); exact HO389.out) hb); have n6_ := Aside0.mk (Kd.C_below (by repeat (first | (with_reducible exact HR386_0.out) | (with_reducible refine Kd.C_alloc ?_ _) | (with_reducible refine Kd.C_drewN ?_ _) | (with_reducible refine Kd.C_drew ?_) | exact HR386_0.out)) hb); have n7_ := Aside0.mk (below_step (by repeat (first | (with_reducible first | exact HB.out | apply below_alloc | apply pw_below_drewN | apply below_drew1) | exact HB.out)) hb); clear HO_14; clear HO_15; clear HO_17; clear HO_77; clear HL386_0; clear HO389; clear HR386_0; clear HB; have HO_14 := n0_; have HO_15 := n1_; have HO_17 := n2_; have HO_77 := n3_; have HL386_0 := n4_; have HO389 := n5_; have HR386_0 := n6_; have HB := n7_; clear n0_ n1_ n2_ n3_ n4_ n5_ n6_ n7_; (try clear hb); (try clear hb2); (try clear hk); (try clear hi)))
               go_roundg k3
               case measure => have := HJ6.out; have := HJ16.out; have := HK3.out; omega
               case rel => exact ⟨(x19_3), (wrap64 (x79_3 + 1)), (by first | rfl | (simp; done) | (simp [*]; done)), (by first | rfl | (simp; done) | (simp [*]; done)), H', ⟨by have := HJ6.out; have := HJ16.out; have := HK3.out; omega⟩, ⟨by (with_reducible repeat (first | apply Kd.R_alloc | apply Kd.R_drewN | apply Kd.R_drew)); exact Kd.R_mono HO_14.out (fun _ hk => hk.1)⟩, ⟨by (with_reducible repeat (first | apply Kd.R_alloc | apply Kd.R_drewN | apply Kd.R_drew)); exact Kd.R_mono HO_15.out (fun _ hk => hk.1)⟩, ⟨by (with_reducible repeat (first | apply Kd.S_alloc | apply Kd.S_drewN | apply Kd.S_drew)); exact HO_17.out⟩, ⟨by (with_reducible repeat (first | apply Kd.S_alloc | apply Kd.S_drewN | apply Kd.S_drew)); exact HO_77.out⟩, ⟨by repeat (first | (with_reducible first | exact HB.out | apply below_alloc | apply pw_below_drewN | apply below_drew1) | exact HB.out)⟩⟩
             ·rw [if_neg c32] at H
              have c32b0 : (((rd_L3 t370 x79_3).length : Int) == (t387.length : Int)) = false := beq_eq_false_iff_ne.mpr c32
              have c32b1 : (((rd_L3 t370 x79_3).length : Int) != (t387.length : Int)) = true := bne_iff_ne.mpr c32
              have c32b2 : ((rd_L3 t370 x79_3).length == t387.length) = false := by first | simpa using c32 | (simp at c32 ⊢; omega)
              have H' := Aside0.mk H
              clear H
              have p386 : 0 ≤ (x79_3 : Int) := of_decide_eq_true (by first | (with_reducible assumption) | assumption)
              have q386 : x79_3 < (t370.length : Int) := of_decide_eq_true (by first | (with_reducible assumption) | assumption)
              obtain ⟨ad386, A386_0, c386_0, e386, hx386_0, hl386_0, hi386_0⟩ := at_L3 (Kd.S_reads' HO_77.out).2.2 x79_3 p386 q386
              cases e386
              obtain ⟨ce386, hce386, hMe386, hcc386⟩ := Kd.S_get HO_77.out [] x79_3 p386 (by first | exact q386 | exact of_decide_eq_true (by first | (with_reducible assumption) | assumption) | (have e_ := (Kd.S_reads' HO_77.out).1; omega))
              obtain ⟨ve386_0, rfl, ge386_0⟩ := hMe386
              have hv386_0 := hcc386 0 _ rfl
              rw [Nat.add_zero, show ((Kd.slice 4 Kd.bool)).sz = 1 from rfl, Nat.mul_one] at hv386_0
              replace hv386_0 := Option.some.inj (hv386_0.symm.trans hx386_0)
              rw [hv386_0] at ge386_0
              have HL386_0 := Aside0.mk (show Kd.R Kd.bool 4 _ _ _ _ (rd_L3 t370 x79_3) from ge386_0)
              clear hv386_0 ge386_0
              clear hcc386 hce386
              have HR386_0 := Aside0.mk hi386_0
              have HC386_0 := Aside0.mk hl386_0
              clear hi386_0 hl386_0
              replace p386 := eq_true p386
              replace q386 := eq_true q386
              go_wp2_with (first | ((with_reducible refine gate_callee (f := 25) rfl ?_); refine goesL_ (some 86) rfl rfl Try.func25 (by kernel_rfl) rfl #[.slice A0 l0.length c0] rfl (by (try simp only [List.map_toArray, List.map_cons, List.map_nil]); first | done | rfl | (simp only [List.length_drop, List.length_take]; rfl)) ?_; (with_reducible refine (cohousingref36_Free.calls k3 _ _ l0 t387 _ ?side1 ?side2 A31.out).mono ?_); (case side1 => repeat (first | exact (Kd.C_below HR0.out HB.out) | (with_reducible refine Kd.C_alloc ?_ _) | (with_reducible refine Kd.C_drewN ?_ _) | (with_reducible refine Kd.C_drew ?_))); (case side2 => exact HC0.out); rintro e w41 ⟨v388, rfl, ho0, hb⟩; refine ⟨_, rfl, ?_⟩; have n0_ := Aside0.mk (Kd.R_elder' (by (with_reducible repeat (first | apply Kd.R_alloc | apply Kd.R_drewN | apply Kd.R_drew)); exact HO_14.out) (Kd.R_base ho0) hb); have n1_ := Aside0.mk (Kd.R_elder' (by (with_reducible repeat (first | apply Kd.R_alloc | apply Kd.R_drewN | apply Kd.R_drew)); exact HO_15.out) (Kd.R_base ho0) hb); have n2_ := Aside0.mk (Kd.S_below (by (with_reducible repeat (first | apply Kd.S_alloc | apply Kd.S_drewN | apply Kd.S_drew)); exact HO_17.out) hb); have n3_ := Aside0.mk (Kd.S_below (by (with_reducible repeat (first | apply Kd.S_alloc | apply Kd.S_drewN | apply Kd.S_drew)); exact HO_77.out) hb); have n4_ := Aside0.mk (Kd.R_below (by (with_reducible repeat (first | apply Kd.R_alloc | apply Kd.R_drewN | apply Kd.R_drew)); exact HL386_0.out) hb); have n5_ := Aside0.mk (Kd.R_lower (Kd.R_new' (Kd.R_new' ho0 (Kd.R_lt (by (with_reducible repeat (first | apply Kd.R_alloc | apply Kd.R_drewN | apply Kd.R_drew)); exact HO_14.out))) (Kd.R_lt (by (with_reducible repeat (first | apply Kd.R_alloc | apply Kd.R_drewN | apply Kd.R_drew)); exact HO_15.out))) (below_size (by repeat (first | (with_reducible first | exact HB.out | apply below_alloc | apply pw_below_drewN | apply below_drew1) | exact HB.out)))); have n6_ := Aside0.mk (Kd.C_below (by repeat (first | (with_reducible exact HR386_0.out) | (with_reducible refine Kd.C_alloc ?_ _) | (with_reducible refine Kd.C_drewN ?_ _) | (with_reducible refine Kd.C_drew ?_) | exact HR386_0.out)) hb); have n7_ := Aside0.mk (below_step (by repeat (first | (with_reducible first | exact HB.out | apply below_alloc | apply pw_below_drewN | apply below_drew1) | exact HB.out)) hb); clear HO_14; clear HO_15; clear HO_17; clear HO_77; clear HL386_0; clear HR386_0; clear HB; have HO_14 := n0_; have HO_15 := n1_; have HO_17 := n2_; have HO_77 := n3_; have HL386_0 := n4_; have HO389 := n5_; have HR386_0 := n6_; have HB := n7_; clear n0_ n1_ n2_ n3_ n4_ n5_ n6_ n7_; (try clear hb); (try clear hb2); (try clear hk); (try clear hi); (try clear ho0); obtain ⟨Ao42, co42, eo42⟩ := Kd.R_slice HO389.out; subst eo42))
              go_roundg k3
              case measure => have := HJ6.out; have := HJ16.out; have := HK3.out; omega
              case rel => exact ⟨(x19_3), (wrap64 (x79_3 + 1)), (by first | rfl | (simp; done) | (simp [*]; done)), (by first | rfl | (simp; done) | (simp [*]; done)), H', ⟨by have := HJ6.out; have := HJ16.out; have := HK3.out; omega⟩, ⟨by (with_reducible repeat (first | apply Kd.R_alloc | apply Kd.R_drewN | apply Kd.R_drew)); exact Kd.R_mono HO_14.out (fun _ hk => hk.1)⟩, ⟨by (with_reducible repeat (first | apply Kd.R_alloc | apply Kd.R_drewN | apply Kd.R_drew)); exact Kd.R_mono HO_15.out (fun _ hk => hk.1)⟩, ⟨by (with_reducible repeat (first | apply Kd.S_alloc | apply Kd.S_drewN | apply Kd.S_drew)); exact HO_17.out⟩, ⟨by (with_reducible repeat (first | apply Kd.S_alloc | apply Kd.S_drewN | apply Kd.S_drew)); exact HO_77.out⟩, ⟨by repeat (first | (with_reducible first | exact HB.out | apply below_alloc | apply pw_below_drewN | apply below_drew1) | exact HB.out)⟩⟩
            ·rw [if_neg c30] at H
             exact absurd H (by simp)
           ·rw [if_neg c29] at H
            exact absurd H (by simp)
          ·rw [if_neg c28] at H
           have c28b0 : decide (x79_3 < (t370.length : Int)) = false := decide_eq_false c28
           clear c28
           by_cases c43 : t361 = true
           ·subst c43
            have H1 : ((cohousinglaw36_in.f (([(wrap64 (1 + (Int.tmod (wrap64 (a4)) 64)))] : List Int)) t363).bind fun t377 => (if x19_3 > 0 then (if (t377 == (x19_3 == (t370.length : Int))) = true then ((cohousinglaw36_in.f (([(wrap64 (1 + (Int.tmod (wrap64 (a4)) 64)))] : List Int)) t364).bind fun t381 => (some (t381 == (decide (x19_3 > 0))))) else (some false)) else (if (t377 == false) = true then ((cohousinglaw36_in.f (([(wrap64 (1 + (Int.tmod (wrap64 (a4)) 64)))] : List Int)) t364).bind fun t385 => (some (t385 == (decide (x19_3 > 0))))) else (some false)))) = some r := by rw [if_pos rfl] at H; exact H
            clear H
            have H := H1
            clear H1
            obtain ⟨y374, hy374⟩ : ∃ y_ : List Int, y_ = (([(wrap64 (1 + (Int.tmod (wrap64 (a4)) 64)))] : List Int)) := ⟨_, rfl⟩
            replace H : ((cohousinglaw36_in.f y374 t363).bind fun t377 => (if x19_3 > 0 then (if (t377 == (x19_3 == (t370.length : Int))) = true then ((cohousinglaw36_in.f (([(wrap64 (1 + (Int.tmod (wrap64 (a4)) 64)))] : List Int)) t364).bind fun t381 => (some (t381 == (decide (x19_3 > 0))))) else (some false)) else (if (t377 == false) = true then ((cohousinglaw36_in.f (([(wrap64 (1 + (Int.tmod (wrap64 (a4)) 64)))] : List Int)) t364).bind fun t385 => (some (t385 == (decide (x19_3 > 0))))) else (some false)))) = some r := by first | (rw [hy374]; with_reducible exact H) | (have H2_ := (Option.bind_some _ _).symm.trans H; rw [hy374]; with_reducible exact H2_) | (have H2_ := (Option.bind_some _ _).symm.trans H; with_reducible exact H2_) | with_reducible exact H | (rw [hy374]; exact H) | exact H
            have Ny374 := Aside0.mk hy374
            clear hy374
            replace H := Option.bind_eq_some_iff.mp H
            obtain ⟨t377, A440, H⟩ := H
            replace H : (if x19_3 > 0 then (if (t377 == (x19_3 == (t370.length : Int))) = true then ((cohousinglaw36_in.f (([(wrap64 (1 + (Int.tmod (wrap64 (a4)) 64)))] : List Int)) t364).bind fun t381 => (some (t381 == (decide (x19_3 > 0))))) else (some false)) else (if (t377 == false) = true then ((cohousinglaw36_in.f (([(wrap64 (1 + (Int.tmod (wrap64 (a4)) 64)))] : List Int)) t364).bind fun t385 => (some (t385 == (decide (x19_3 > 0))))) else (some false))) = some r := H
            have A44 := Aside0.mk A440
            clear A440
            by_cases c45 : x19_3 > 0
            ·rw [if_pos c45] at H
             have c45b0 : decide (0 < x19_3) = true := decide_eq_true c45
             clear c45
             by_cases c46 : (t377 == (x19_3 == (t370.length : Int))) = true
             ·rw [if_pos c46] at H
              have c46b0 : (t377 == (x19_3 == (t370.length : Int))) = true := c46
              (try (have c46b1 : decide (t377 = (x19_3 == (t370.length : Int))) = true := by simpa using c46))
              (try (have c46b2 : (t377 == (x19_3 == (t370.length : Int))) = true := by simpa using c46))
              clear c46
              obtain ⟨y378, hy378⟩ : ∃ y_ : List Int, y_ = (([(wrap64 (1 + (Int.tmod (wrap64 (a4)) 64)))] : List Int)) := ⟨_, rfl⟩
              replace H : ((cohousinglaw36_in.f y378 t364).bind fun t381 => (some (t381 == (decide (x19_3 > 0))))) = some r := by first | (rw [hy378]; with_reducible exact H) | (have H2_ := (Option.bind_some _ _).symm.trans H; rw [hy378]; with_reducible exact H2_) | (have H2_ := (Option.bind_some _ _).symm.trans H; with_reducible exact H2_) | with_reducible exact H | (rw [hy378]; exact H) | exact H
              have Ny378 := Aside0.mk hy378
              clear hy378
              replace H := Option.bind_eq_some_iff.mp H
              obtain ⟨t381, A470, H⟩ := H
              replace H : (some (t381 == (decide (x19_3 > 0)))) = some r := H
              have A47 := Aside0.mk A470
              clear A470
              obtain rfl := Option.some.inj H
              go_wp2_with (first | ((with_reducible refine gate_dst (N := 102) rfl ?_); (try (refine gate_guard (by rfl) ?_; dsimp only)); refine Kd.R_lit (Kd.int .i64) _ 3 ?hg (N := 102) ?hd (xs := ([(wrap64 (1 + (Int.tmod (wrap64 (a4)) 64)))] : List Int)) (inner := [.int .i64 (wrap64 (1 + (Int.tmod (wrap64 (a4)) 64)))]) (ok := fun _ => True) (okp := fun _ => True) ?hr ?hp (fun _ hk => hk) trivial (Below.refl _ _) (Nat.le_refl _) (by simp) ?_; (case hd => rfl); (case hg => rfl); (case hr => first | (go_simp; done) | (go_simp; rfl)); (case hp => exact (Reps.one (show Kd.M (Kd.int .i64) _ _ _ (wrap64 (1 + (Int.tmod (wrap64 (a4)) 64))) [.int .i64 (wrap64 (1 + (Int.tmod (wrap64 (a4)) 64)))] from rfl) (Reps.none _ _))); intro v375 w48 ho49 hb hg_ hnew_; clear hg_ hnew_; (first | rw [← Ny374.out] at ho49 | (simp only [Int.reduceToNat] at ho49; rw [← Ny374.out] at ho49)); have n0_ := Aside0.mk (Kd.R_elder' (by (with_reducible repeat (first | apply Kd.R_alloc | apply Kd.R_drewN | apply Kd.R_drew)); exact HO_14.out) (Kd.R_base ho49) hb); have n1_ := Aside0.mk (Kd.R_elder' (by (with_reducible repeat (first | apply Kd.R_alloc | apply Kd.R_drewN | apply Kd.R_drew)); exact HO_15.out) (Kd.R_base ho49) hb); have n2_ := Aside0.mk (Kd.S_below (by (with_reducible repeat (first | apply Kd.S_alloc | apply Kd.S_drewN | apply Kd.S_drew)); exact HO_17.out) hb); have n3_ := Aside0.mk (Kd.S_below (by (with_reducible repeat (first | apply Kd.S_alloc | apply Kd.S_drewN | apply Kd.S_drew)); exact HO_77.out) hb); have n4_ := Aside0.mk (Kd.R_lower (Kd.R_new' (Kd.R_new' ho49 (Kd.R_lt (by (with_reducible repeat (first | apply Kd.R_alloc | apply Kd.R_drewN | apply Kd.R_drew)); exact HO_14.out))) (Kd.R_lt (by (with_reducible repeat (first | apply Kd.R_alloc | apply Kd.R_drewN | apply Kd.R_drew)); exact HO_15.out))) (below_size (by repeat (first | (with_reducible first | exact HB.out | apply below_alloc | apply pw_below_drewN | apply below_drew1) | exact HB.out)))); have n5_ := Aside0.mk (below_step (by repeat (first | (with_reducible first | exact HB.out | apply below_alloc | apply pw_below_drewN | apply below_drew1) | exact HB.out)) hb); clear HO_14; clear HO_15; clear HO_17; clear HO_77; clear HB; have HO_14 := n0_; have HO_15 := n1_; have HO_17 := n2_; have HO_77 := n3_; have HO376 := n4_; have HB := n5_; clear n0_ n1_ n2_ n3_ n4_ n5_; clear hb ho49; obtain ⟨Ao50, co50, eo50⟩ := Kd.R_slice HO376.out; subst eo50; obtain ⟨Ao51, co51, eo51⟩ := Kd.R_slice HO_14.out; subst eo51) | (go_at_call 29; (with_reducible refine (cohousinglaw36_in.calls _ _ y374 _ _ t363 t377 _ ?side1 ?side2 ?side3 ?side4 A44.out).mono ?_); (case side1 => repeat (first | exact (Kd.R_reads' HO376.out).2.2 | (with_reducible refine Kd.C_alloc ?_ _) | (with_reducible refine Kd.C_drewN ?_ _) | (with_reducible refine Kd.C_drew ?_))); (case side2 => exact (Kd.R_reads' HO376.out).2.1); (case side3 => repeat (first | exact (Kd.R_reads' HO_14.out).2.2 | (with_reducible refine Kd.C_alloc ?_ _) | (with_reducible refine Kd.C_drewN ?_ _) | (with_reducible refine Kd.C_drew ?_))); (case side4 => exact (Kd.R_reads' HO_14.out).2.1); rintro e w52 ⟨rfl, hb⟩; have n0_ := Aside0.mk (Kd.R_below (by (with_reducible repeat (first | apply Kd.R_alloc | apply Kd.R_drewN | apply Kd.R_drew)); exact HO_14.out) hb); have n1_ := Aside0.mk (Kd.R_below (by (with_reducible repeat (first | apply Kd.R_alloc | apply Kd.R_drewN | apply Kd.R_drew)); exact HO_15.out) hb); have n2_ := Aside0.mk (Kd.S_below (by (with_reducible repeat (first | apply Kd.S_alloc | apply Kd.S_drewN | apply Kd.S_drew)); exact HO_17.out) hb); have n3_ := Aside0.mk (Kd.S_below (by (with_reducible repeat (first | apply Kd.S_alloc | apply Kd.S_drewN | apply Kd.S_drew)); exact HO_77.out) hb); have n4_ := Aside0.mk (Kd.R_below (by (with_reducible repeat (first | apply Kd.R_alloc | apply Kd.R_drewN | apply Kd.R_drew)); exact HO376.out) hb); have n5_ := Aside0.mk (below_step (by repeat (first | (with_reducible first | exact HB.out | apply below_alloc | apply pw_below_drewN | apply below_drew1) | exact HB.out)) hb); clear HO_14; clear HO_15; clear HO_17; clear HO_77; clear HO376; clear HB; have HO_14 := n0_; have HO_15 := n1_; have HO_17 := n2_; have HO_77 := n3_; have HO376 := n4_; have HB := n5_; clear n0_ n1_ n2_ n3_ n4_ n5_; (try clear hb); (try clear hb2); (try clear hk); (try clear hi)) | ((with_reducible refine gate_dst (N := 117) rfl ?_); (try (refine gate_guard (by rfl) ?_; dsimp only)); refine Kd.R_lit (Kd.int .i64) _ 3 ?hg (N := 117) ?hd (xs := ([(wrap64 (1 + (Int.tmod (wrap64 (a4)) 64)))] : List Int)) (inner := [.int .i64 (wrap64 (1 + (Int.tmod (wrap64 (a4)) 64)))]) (ok := fun _ => True) (okp := fun _ => True) ?hr ?hp (fun _ hk => hk) trivial (Below.refl _ _) (Nat.le_refl _) (by simp) ?_; (case hd => rfl); (case hg => rfl); (case hr => first | (go_simp; done) | (go_simp; rfl)); (case hp => exact (Reps.one (show Kd.M (Kd.int .i64) _ _ _ (wrap64 (1 + (Int.tmod (wrap64 (a4)) 64))) [.int .i64 (wrap64 (1 + (Int.tmod (wrap64 (a4)) 64)))] from rfl) (Reps.none _ _))); intro v379 w53 ho54 hb hg_ hnew_; clear hg_ hnew_; (first | rw [← Ny378.out] at ho54 | (simp only [Int.reduceToNat] at ho54; rw [← Ny378.out] at ho54)); have n0_ := Aside0.mk (Kd.R_elder' (by (with_reducible repeat (first | apply Kd.R_alloc | apply Kd.R_drewN | apply Kd.R_drew)); exact HO_14.out) (Kd.R_base ho54) hb); have n1_ := Aside0.mk (Kd.R_elder' (by (with_reducible repeat (first | apply Kd.R_alloc | apply Kd.R_drewN | apply Kd.R_drew)); exact HO_15.out) (Kd.R_base ho54) hb); have n2_ := Aside0.mk (Kd.S_below (by (with_reducible repeat (first | apply Kd.S_alloc | apply Kd.S_drewN | apply Kd.S_drew)); exact HO_17.out) hb); have n3_ := Aside0.mk (Kd.S_below (by (with_reducible repeat (first | apply Kd.S_alloc | apply Kd.S_drewN | apply Kd.S_drew)); exact HO_77.out) hb); have n4_ := Aside0.mk (Kd.R_elder' (by (with_reducible repeat (first | apply Kd.R_alloc | apply Kd.R_drewN | apply Kd.R_drew)); exact HO376.out) (Kd.R_base ho54) hb); have n5_ := Aside0.mk (Kd.R_lower (Kd.R_new' (Kd.R_new' (Kd.R_new' ho54 (Kd.R_lt (by (with_reducible repeat (first | apply Kd.R_alloc | apply Kd.R_drewN | apply Kd.R_drew)); exact HO_14.out))) (Kd.R_lt (by (with_reducible repeat (first | apply Kd.R_alloc | apply Kd.R_drewN | apply Kd.R_drew)); exact HO_15.out))) (Kd.R_lt (by (with_reducible repeat (first | apply Kd.R_alloc | apply Kd.R_drewN | apply Kd.R_drew)); exact HO376.out))) (below_size (by repeat (first | (with_reducible first | exact HB.out | apply below_alloc | apply pw_below_drewN | apply below_drew1) | exact HB.out)))); have n6_ := Aside0.mk (below_step (by repeat (first | (with_reducible first | exact HB.out | apply below_alloc | apply pw_below_drewN | apply below_drew1) | exact HB.out)) hb); clear HO_14; clear HO_15; clear HO_17; clear HO_77; clear HO376; clear HB; have HO_14 := n0_; have HO_15 := n1_; have HO_17 := n2_; have HO_77 := n3_; have HO376 := n4_; have HO380 := n5_; have HB := n6_; clear n0_ n1_ n2_ n3_ n4_ n5_ n6_; clear hb ho54; obtain ⟨Ao55, co55, eo55⟩ := Kd.R_slice HO380.out; subst eo55; obtain ⟨Ao56, co56, eo56⟩ := Kd.R_slice HO_15.out; subst eo56) | (go_at_call 29; (with_reducible refine (cohousinglaw36_in.calls _ _ y378 _ _ t364 t381 _ ?side1 ?side2 ?side3 ?side4 A47.out).mono ?_); (case side1 => repeat (first | exact (Kd.R_reads' HO380.out).2.2 | (with_reducible refine Kd.C_alloc ?_ _) | (with_reducible refine Kd.C_drewN ?_ _) | (with_reducible refine Kd.C_drew ?_))); (case side2 => exact (Kd.R_reads' HO380.out).2.1); (case side3 => repeat (first | exact (Kd.R_reads' HO_15.out).2.2 | (with_reducible refine Kd.C_alloc ?_ _) | (with_reducible refine Kd.C_drewN ?_ _) | (with_reducible refine Kd.C_drew ?_))); (case side4 => exact (Kd.R_reads' HO_15.out).2.1); rintro e w57 ⟨rfl, hb⟩; have n0_ := Aside0.mk (Kd.R_below (by (with_reducible repeat (first | apply Kd.R_alloc | apply Kd.R_drewN | apply Kd.R_drew)); exact HO_14.out) hb); have n1_ := Aside0.mk (Kd.R_below (by (with_reducible repeat (first | apply Kd.R_alloc | apply Kd.R_drewN | apply Kd.R_drew)); exact HO_15.out) hb); have n2_ := Aside0.mk (Kd.S_below (by (with_reducible repeat (first | apply Kd.S_alloc | apply Kd.S_drewN | apply Kd.S_drew)); exact HO_17.out) hb); have n3_ := Aside0.mk (Kd.S_below (by (with_reducible repeat (first | apply Kd.S_alloc | apply Kd.S_drewN | apply Kd.S_drew)); exact HO_77.out) hb); have n4_ := Aside0.mk (Kd.R_below (by (with_reducible repeat (first | apply Kd.R_alloc | apply Kd.R_drewN | apply Kd.R_drew)); exact HO376.out) hb); have n5_ := Aside0.mk (Kd.R_below (by (with_reducible repeat (first | apply Kd.R_alloc | apply Kd.R_drewN | apply Kd.R_drew)); exact HO380.out) hb); have n6_ := Aside0.mk (below_step (by repeat (first | (with_reducible first | exact HB.out | apply below_alloc | apply pw_below_drewN | apply below_drew1) | exact HB.out)) hb); clear HO_14; clear HO_15; clear HO_17; clear HO_77; clear HO376; clear HO380; clear HB; have HO_14 := n0_; have HO_15 := n1_; have HO_17 := n2_; have HO_77 := n3_; have HO376 := n4_; have HO380 := n5_; have HB := n6_; clear n0_ n1_ n2_ n3_ n4_ n5_ n6_; (try clear hb); (try clear hb2); (try clear hk); (try clear hi)))
              go_ret
              exact ⟨by first | rfl | (simp [errW_none, errW_some] <;> rfl) | (simp [*, errW_none, errW_some] <;> rfl), by repeat (first | (with_reducible first | exact HB.out | apply below_alloc | apply pw_below_drewN | apply below_drew1) | exact HB.out)⟩
             ·rw [if_neg c46] at H
              have c46b0 : (t377 == (x19_3 == (t370.length : Int))) = false := by simpa using c46
              (try (have c46b1 : decide (t377 = (x19_3 == (t370.length : Int))) = false := by simpa using c46))
              (try (have c46b2 : (t377 == (x19_3 == (t370.length : Int))) = false := by simpa using c46))
              (try (have c46b3 : ¬ (t377 = (x19_3 == (t370.length : Int))) := by simpa using c46))
              clear c46
              obtain rfl := Option.some.inj H
              go_wp2_with (first | ((with_reducible refine gate_dst (N := 102) rfl ?_); (try (refine gate_guard (by rfl) ?_; dsimp only)); refine Kd.R_lit (Kd.int .i64) _ 3 ?hg (N := 102) ?hd (xs := ([(wrap64 (1 + (Int.tmod (wrap64 (a4)) 64)))] : List Int)) (inner := [.int .i64 (wrap64 (1 + (Int.tmod (wrap64 (a4)) 64)))]) (ok := fun _ => True) (okp := fun _ => True) ?hr ?hp (fun _ hk => hk) trivial (Below.refl _ _) (Nat.le_refl _) (by simp) ?_; (case hd => rfl); (case hg => rfl); (case hr => first | (go_simp; done) | (go_simp; rfl)); (case hp => exact (Reps.one (show Kd.M (Kd.int .i64) _ _ _ (wrap64 (1 + (Int.tmod (wrap64 (a4)) 64))) [.int .i64 (wrap64 (1 + (Int.tmod (wrap64 (a4)) 64)))] from rfl) (Reps.none _ _))); intro v375 w58 ho59 hb hg_ hnew_; clear hg_ hnew_; (first | rw [← Ny374.out] at ho59 | (simp only [Int.reduceToNat] at ho59; rw [← Ny374.out] at ho59)); have n0_ := Aside0.mk (Kd.R_elder' (by (with_reducible repeat (first | apply Kd.R_alloc | apply Kd.R_drewN | apply Kd.R_drew)); exact HO_14.out) (Kd.R_base ho59) hb); have n1_ := Aside0.mk (Kd.R_elder' (by (with_reducible repeat (first | apply Kd.R_alloc | apply Kd.R_drewN | apply Kd.R_drew)); exact HO_15.out) (Kd.R_base ho59) hb); have n2_ := Aside0.mk (Kd.S_below (by (with_reducible repeat (first | apply Kd.S_alloc | apply Kd.S_drewN | apply Kd.S_drew)); exact HO_17.out) hb); have n3_ := Aside0.mk (Kd.S_below (by (with_reducible repeat (first | apply Kd.S_alloc | apply Kd.S_drewN | apply Kd.S_drew)); exact HO_77.out) hb); have n4_ := Aside0.mk (Kd.R_lower (Kd.R_new' (Kd.R_new' ho59 (Kd.R_lt (by (with_reducible repeat (first | apply Kd.R_alloc | apply Kd.R_drewN | apply Kd.R_drew)); exact HO_14.out))) (Kd.R_lt (by (with_reducible repeat (first | apply Kd.R_alloc | apply Kd.R_drewN | apply Kd.R_drew)); exact HO_15.out))) (below_size (by repeat (first | (with_reducible first | exact HB.out | apply below_alloc | apply pw_below_drewN | apply below_drew1) | exact HB.out)))); have n5_ := Aside0.mk (below_step (by repeat (first | (with_reducible first | exact HB.out | apply below_alloc | apply pw_below_drewN | apply below_drew1) | exact HB.out)) hb); clear HO_14; clear HO_15; clear HO_17; clear HO_77; clear HB; have HO_14 := n0_; have HO_15 := n1_; have HO_17 := n2_; have HO_77 := n3_; have HO376 := n4_; have HB := n5_; clear n0_ n1_ n2_ n3_ n4_ n5_; clear hb ho59; obtain ⟨Ao60, co60, eo60⟩ := Kd.R_slice HO376.out; subst eo60; obtain ⟨Ao61, co61, eo61⟩ := Kd.R_slice HO_14.out; subst eo61) | (go_at_call 29; (with_reducible refine (cohousinglaw36_in.calls _ _ y374 _ _ t363 t377 _ ?side1 ?side2 ?side3 ?side4 A44.out).mono ?_); (case side1 => repeat (first | exact (Kd.R_reads' HO376.out).2.2 | (with_reducible refine Kd.C_alloc ?_ _) | (with_reducible refine Kd.C_drewN ?_ _) | (with_reducible refine Kd.C_drew ?_))); (case side2 => exact (Kd.R_reads' HO376.out).2.1); (case side3 => repeat (first | exact (Kd.R_reads' HO_14.out).2.2 | (with_reducible refine Kd.C_alloc ?_ _) | (with_reducible refine Kd.C_drewN ?_ _) | (with_reducible refine Kd.C_drew ?_))); (case side4 => exact (Kd.R_reads' HO_14.out).2.1); rintro e w62 ⟨rfl, hb⟩; have n0_ := Aside0.mk (Kd.R_below (by (with_reducible repeat (first | apply Kd.R_alloc | apply Kd.R_drewN | apply Kd.R_drew)); exact HO_14.out) hb); have n1_ := Aside0.mk (Kd.R_below (by (with_reducible repeat (first | apply Kd.R_alloc | apply Kd.R_drewN | apply Kd.R_drew)); exact HO_15.out) hb); have n2_ := Aside0.mk (Kd.S_below (by (with_reducible repeat (first | apply Kd.S_alloc | apply Kd.S_drewN | apply Kd.S_drew)); exact HO_17.out) hb); have n3_ := Aside0.mk (Kd.S_below (by (with_reducible repeat (first | apply Kd.S_alloc | apply Kd.S_drewN | apply Kd.S_drew)); exact HO_77.out) hb); have n4_ := Aside0.mk (Kd.R_below (by (with_reducible repeat (first | apply Kd.R_alloc | apply Kd.R_drewN | apply Kd.R_drew)); exact HO376.out) hb); have n5_ := Aside0.mk (below_step (by repeat (first | (with_reducible first | exact HB.out | apply below_alloc | apply pw_below_drewN | apply below_drew1) | exact HB.out)) hb); clear HO_14; clear HO_15; clear HO_17; clear HO_77; clear HO376; clear HB; have HO_14 := n0_; have HO_15 := n1_; have HO_17 := n2_; have HO_77 := n3_; have HO376 := n4_; have HB := n5_; clear n0_ n1_ n2_ n3_ n4_ n5_; (try clear hb); (try clear hb2); (try clear hk); (try clear hi)))
              go_ret
              exact ⟨by first | rfl | (simp [errW_none, errW_some] <;> rfl) | (simp [*, errW_none, errW_some] <;> rfl), by repeat (first | (with_reducible first | exact HB.out | apply below_alloc | apply pw_below_drewN | apply below_drew1) | exact HB.out)⟩
            ·rw [if_neg c45] at H
             have c45b0 : decide (0 < x19_3) = false := decide_eq_false c45
             clear c45
             by_cases c63 : (t377 == false) = true
             ·rw [if_pos c63] at H
              have c63b0 : (t377 == false) = true := c63
              (try (have c63b1 : decide (t377 = false) = true := by simpa using c63))
              (try (have c63b2 : (t377 == false) = true := by simpa using c63))
              clear c63
              obtain ⟨y382, hy382⟩ : ∃ y_ : List Int, y_ = (([(wrap64 (1 + (Int.tmod (wrap64 (a4)) 64)))] : List Int)) := ⟨_, rfl⟩
              replace H : ((cohousinglaw36_in.f y382 t364).bind fun t385 => (some (t385 == (decide (x19_3 > 0))))) = some r := by first | (rw [hy382]; with_reducible exact H) | (have H2_ := (Option.bind_some _ _).symm.trans H; rw [hy382]; with_reducible exact H2_) | (have H2_ := (Option.bind_some _ _).symm.trans H; with_reducible exact H2_) | with_reducible exact H | (rw [hy382]; exact H) | exact H
              have Ny382 := Aside0.mk hy382
              clear hy382
              replace H := Option.bind_eq_some_iff.mp H
              obtain ⟨t385, A640, H⟩ := H
              replace H : (some (t385 == (decide (x19_3 > 0)))) = some r := H
              have A64 := Aside0.mk A640
              clear A640
              obtain rfl := Option.some.inj H
              go_wp2_with (first | ((with_reducible refine gate_dst (N := 102) rfl ?_); (try (refine gate_guard (by rfl) ?_; dsimp only)); refine Kd.R_lit (Kd.int .i64) _ 3 ?hg (N := 102) ?hd (xs := ([(wrap64 (1 + (Int.tmod (wrap64 (a4)) 64)))] : List Int)) (inner := [.int .i64 (wrap64 (1 + (Int.tmod (wrap64 (a4)) 64)))]) (ok := fun _ => True) (okp := fun _ => True) ?hr ?hp (fun _ hk => hk) trivial (Below.refl _ _) (Nat.le_refl _) (by simp) ?_; (case hd => rfl); (case hg => rfl); (case hr => first | (go_simp; done) | (go_simp; rfl)); (case hp => exact (Reps.one (show Kd.M (Kd.int .i64) _ _ _ (wrap64 (1 + (Int.tmod (wrap64 (a4)) 64))) [.int .i64 (wrap64 (1 + (Int.tmod (wrap64 (a4)) 64)))] from rfl) (Reps.none _ _))); intro v375 w65 ho66 hb hg_ hnew_; clear hg_ hnew_; (first | rw [← Ny374.out] at ho66 | (simp only [Int.reduceToNat] at ho66; rw [← Ny374.out] at ho66)); have n0_ := Aside0.mk (Kd.R_elder' (by (with_reducible repeat (first | apply Kd.R_alloc | apply Kd.R_drewN | apply Kd.R_drew)); exact HO_14.out) (Kd.R_base ho66) hb); have n1_ := Aside0.mk (Kd.R_elder' (by (with_reducible repeat (first | apply Kd.R_alloc | apply Kd.R_drewN | apply Kd.R_drew)); exact HO_15.out) (Kd.R_base ho66) hb); have n2_ := Aside0.mk (Kd.S_below (by (with_reducible repeat (first | apply Kd.S_alloc | apply Kd.S_drewN | apply Kd.S_drew)); exact HO_17.out) hb); have n3_ := Aside0.mk (Kd.S_below (by (with_reducible repeat (first | apply Kd.S_alloc | apply Kd.S_drewN | apply Kd.S_drew)); exact HO_77.out) hb); have n4_ := Aside0.mk (Kd.R_lower (Kd.R_new' (Kd.R_new' ho66 (Kd.R_lt (by (with_reducible repeat (first | apply Kd.R_alloc | apply Kd.R_drewN | apply Kd.R_drew)); exact HO_14.out))) (Kd.R_lt (by (with_reducible repeat (first | apply Kd.R_alloc | apply Kd.R_drewN | apply Kd.R_drew)); exact HO_15.out))) (below_size (by repeat (first | (with_reducible first | exact HB.out | apply below_alloc | apply pw_below_drewN | apply below_drew1) | exact HB.out)))); have n5_ := Aside0.mk (below_step (by repeat (first | (with_reducible first | exact HB.out | apply below_alloc | apply pw_below_drewN | apply below_drew1) | exact HB.out)) hb); clear HO_14; clear HO_15; clear HO_17; clear HO_77; clear HB; have HO_14 := n0_; have HO_15 := n1_; have HO_17 := n2_; have HO_77 := n3_; have HO376 := n4_; have HB := n5_; clear n0_ n1_ n2_ n3_ n4_ n5_; clear hb ho66; obtain ⟨Ao67, co67, eo67⟩ := Kd.R_slice HO376.out; subst eo67; obtain ⟨Ao68, co68, eo68⟩ := Kd.R_slice HO_14.out; subst eo68) | (go_at_call 29; (with_reducible refine (cohousinglaw36_in.calls _ _ y374 _ _ t363 t377 _ ?side1 ?side2 ?side3 ?side4 A44.out).mono ?_); (case side1 => repeat (first | exact (Kd.R_reads' HO376.out).2.2 | (with_reducible refine Kd.C_alloc ?_ _) | (with_reducible refine Kd.C_drewN ?_ _) | (with_reducible refine Kd.C_drew ?_))); (case side2 => exact (Kd.R_reads' HO376.out).2.1); (case side3 => repeat (first | exact (Kd.R_reads' HO_14.out).2.2 | (with_reducible refine Kd.C_alloc ?_ _) | (with_reducible refine Kd.C_drewN ?_ _) | (with_reducible refine Kd.C_drew ?_))); (case side4 => exact (Kd.R_reads' HO_14.out).2.1); rintro e w69 ⟨rfl, hb⟩; have n0_ := Aside0.mk (Kd.R_below (by (with_reducible repeat (first | apply Kd.R_alloc | apply Kd.R_drewN | apply Kd.R_drew)); exact HO_14.out) hb); have n1_ := Aside0.mk (Kd.R_below (by (with_reducible repeat (first | apply Kd.R_alloc | apply Kd.R_drewN | apply Kd.R_drew)); exact HO_15.out) hb); have n2_ := Aside0.mk (Kd.S_below (by (with_reducible repeat (first | apply Kd.S_alloc | apply Kd.S_drewN | apply Kd.S_drew)); exact HO_17.out) hb); have n3_ := Aside0.mk (Kd.S_below (by (with_reducible repeat (first | apply Kd.S_alloc | apply Kd.S_drewN | apply Kd.S_drew)); exact HO_77.out) hb); have n4_ := Aside0.mk (Kd.R_below (by (with_reducible repeat (first | apply Kd.R_alloc | apply Kd.R_drewN | apply Kd.R_drew)); exact HO376.out) hb); have n5_ := Aside0.mk (below_step (by repeat (first | (with_reducible first | exact HB.out | apply below_alloc | apply pw_below_drewN | apply below_drew1) | exact HB.out)) hb); clear HO_14; clear HO_15; clear HO_17; clear HO_77; clear HO376; clear HB; have HO_14 := n0_; have HO_15 := n1_; have HO_17 := n2_; have HO_77 := n3_; have HO376 := n4_; have HB := n5_; clear n0_ n1_ n2_ n3_ n4_ n5_; (try clear hb); (try clear hb2); (try clear hk); (try clear hi)) | ((with_reducible refine gate_dst (N := 117) rfl ?_); (try (refine gate_guard (by rfl) ?_; dsimp only)); refine Kd.R_lit (Kd.int .i64) _ 3 ?hg (N := 117) ?hd (xs := ([(wrap64 (1 + (Int.tmod (wrap64 (a4)) 64)))] : List Int)) (inner := [.int .i64 (wrap64 (1 + (Int.tmod (wrap64 (a4)) 64)))]) (ok := fun _ => True) (okp := fun _ => True) ?hr ?hp (fun _ hk => hk) trivial (Below.refl _ _) (Nat.le_refl _) (by simp) ?_; (case hd => rfl); (case hg => rfl); (case hr => first | (go_simp; done) | (go_simp; rfl)); (case hp => exact (Reps.one (show Kd.M (Kd.int .i64) _ _ _ (wrap64 (1 + (Int.tmod (wrap64 (a4)) 64))) [.int .i64 (wrap64 (1 + (Int.tmod (wrap64 (a4)) 64)))] from rfl) (Reps.none _ _))); intro v383 w70 ho71 hb hg_ hnew_; clear hg_ hnew_; (first | rw [← Ny382.out] at ho71 | (simp only [Int.reduceToNat] at ho71; rw [← Ny382.out] at ho71)); have n0_ := Aside0.mk (Kd.R_elder' (by (with_reducible repeat (first | apply Kd.R_alloc | apply Kd.R_drewN | apply Kd.R_drew)); exact HO_14.out) (Kd.R_base ho71) hb); have n1_ := Aside0.mk (Kd.R_elder' (by (with_reducible repeat (first | apply Kd.R_alloc | apply Kd.R_drewN | apply Kd.R_drew)); exact HO_15.out) (Kd.R_base ho71) hb); have n2_ := Aside0.mk (Kd.S_below (by (with_reducible repeat (first | apply Kd.S_alloc | apply Kd.S_drewN | apply Kd.S_drew)); exact HO_17.out) hb); have n3_ := Aside0.mk (Kd.S_below (by (with_reducible repeat (first | apply Kd.S_alloc | apply Kd.S_drewN | apply Kd.S_drew)); exact HO_77.out) hb); have n4_ := Aside0.mk (Kd.R_elder' (by (with_reducible repeat (first | apply Kd.R_alloc | apply Kd.R_drewN | apply Kd.R_drew)); exact HO376.out) (Kd.R_base ho71) hb); have n5_ := Aside0.mk (Kd.R_lower (Kd.R_new' (Kd.R_new' (Kd.R_new' ho71 (Kd.R_lt (by (with_reducible repeat (first | apply Kd.R_alloc | apply Kd.R_drewN | apply Kd.R_drew)); exact HO_14.out))) (Kd.R_lt (by (with_reducible repeat (first | apply Kd.R_alloc | apply Kd.R_drewN | apply Kd.R_drew)); exact HO_15.out))) (Kd.R_lt (by (with_reducible repeat (first | apply Kd.R_alloc | apply Kd.R_drewN | apply Kd.R_drew)); exact HO376.out))) (below_size (by repeat (first | (with_reducible first | exact HB.out | apply below_alloc | apply pw_below_drewN | apply below_drew1) | exact HB.out)))); have n6_ := Aside0.mk (below_step (by repeat (first | (with_reducible first | exact HB.out | apply below_alloc | apply pw_below_drewN | apply below_drew1) | exact HB.out)) hb); clear HO_14; clear HO_15; clear HO_17; clear HO_77; clear HO376; clear HB; have HO_14 := n0_; have HO_15 := n1_; have HO_17 := n2_; have HO_77 := n3_; have HO376 := n4_; have HO384 := n5_; have HB := n6_; clear n0_ n1_ n2_ n3_ n4_ n5_ n6_; clear hb ho71; obtain ⟨Ao72, co72, eo72⟩ := Kd.R_slice HO384.out; subst eo72; obtain ⟨Ao73, co73, eo73⟩ := Kd.R_slice HO_15.out; subst eo73) | (go_at_call 29; (with_reducible refine (cohousinglaw36_in.calls _ _ y382 _ _ t364 t385 _ ?side1 ?side2 ?side3 ?side4 A64.out).mono ?_); (case side1 => repeat (first | exact (Kd.R_reads' HO384.out).2.2 | (with_reducible refine Kd.C_alloc ?_ _) | (with_reducible refine Kd.C_drewN ?_ _) | (with_reducible refine Kd.C_drew ?_))); (case side2 => exact (Kd.R_reads' HO384.out).2.1); (case side3 => repeat (first | exact (Kd.R_reads' HO_15.out).2.2 | (with_reducible refine Kd.C_alloc ?_ _) | (with_reducible refine Kd.C_drewN ?_ _) | (with_reducible refine Kd.C_drew ?_))); (case side4 => exact (Kd.R_reads' HO_15.out).2.1); rintro e w74 ⟨rfl, hb⟩; have n0_ := Aside0.mk (Kd.R_below (by (with_reducible repeat (first | apply Kd.R_alloc | apply Kd.R_drewN | apply Kd.R_drew)); exact HO_14.out) hb); have n1_ := Aside0.mk (Kd.R_below (by (with_reducible repeat (first | apply Kd.R_alloc | apply Kd.R_drewN | apply Kd.R_drew)); exact HO_15.out) hb); have n2_ := Aside0.mk (Kd.S_below (by (with_reducible repeat (first | apply Kd.S_alloc | apply Kd.S_drewN | apply Kd.S_drew)); exact HO_17.out) hb); have n3_ := Aside0.mk (Kd.S_below (by (with_reducible repeat (first | apply Kd.S_alloc | apply Kd.S_drewN | apply Kd.S_drew)); exact HO_77.out) hb); have n4_ := Aside0.mk (Kd.R_below (by (with_reducible repeat (first | apply Kd.R_alloc | apply Kd.R_drewN | apply Kd.R_drew)); exact HO376.out) hb); have n5_ := Aside0.mk (Kd.R_below (by (with_reducible repeat (first | apply Kd.R_alloc | apply Kd.R_drewN | apply Kd.R_drew)); exact HO384.out) hb); have n6_ := Aside0.mk (below_step (by repeat (first | (with_reducible first | exact HB.out | apply below_alloc | apply pw_below_drewN | apply below_drew1) | exact HB.out)) hb); clear HO_14; clear HO_15; clear HO_17; clear HO_77; clear HO376; clear HO384; clear HB; have HO_14 := n0_; have HO_15 := n1_; have HO_17 := n2_; have HO_77 := n3_; have HO376 := n4_; have HO384 := n5_; have HB := n6_; clear n0_ n1_ n2_ n3_ n4_ n5_ n6_; (try clear hb); (try clear hb2); (try clear hk); (try clear hi)))
              go_ret
              exact ⟨by first | rfl | (simp [errW_none, errW_some] <;> rfl) | (simp [*, errW_none, errW_some] <;> rfl), by repeat (first | (with_reducible first | exact HB.out | apply below_alloc | apply pw_below_drewN | apply below_drew1) | exact HB.out)⟩
             ·rw [if_neg c63] at H
              have c63b0 : (t377 == false) = false := by simpa using c63
              (try (have c63b1 : decide (t377 = false) = false := by simpa using c63))
              (try (have c63b2 : (t377 == false) = false := by simpa using c63))
              (try (have c63b3 : ¬ (t377 = false) := by simpa using c63))
              clear c63
              obtain rfl := Option.some.inj H
              go_wp2_with (first | ((with_reducible refine gate_dst (N := 102) rfl ?_); (try (refine gate_guard (by rfl) ?_; dsimp only)); refine Kd.R_lit (Kd.int .i64) _ 3 ?hg (N := 102) ?hd (xs := ([(wrap64 (1 + (Int.tmod (wrap64 (a4)) 64)))] : List Int)) (inner := [.int .i64 (wrap64 (1 + (Int.tmod (wrap64 (a4)) 64)))]) (ok := fun _ => True) (okp := fun _ => True) ?hr ?hp (fun _ hk => hk) trivial (Below.refl _ _) (Nat.le_refl _) (by simp) ?_; (case hd => rfl); (case hg => rfl); (case hr => first | (go_simp; done) | (go_simp; rfl)); (case hp => exact (Reps.one (show Kd.M (Kd.int .i64) _ _ _ (wrap64 (1 + (Int.tmod (wrap64 (a4)) 64))) [.int .i64 (wrap64 (1 + (Int.tmod (wrap64 (a4)) 64)))] from rfl) (Reps.none _ _))); intro v375 w75 ho76 hb hg_ hnew_; clear hg_ hnew_; (first | rw [← Ny374.out] at ho76 | (simp only [Int.reduceToNat] at ho76; rw [← Ny374.out] at ho76)); have n0_ := Aside0.mk (Kd.R_elder' (by (with_reducible repeat (first | apply Kd.R_alloc | apply Kd.R_drewN | apply Kd.R_drew)); exact HO_14.out) (Kd.R_base ho76) hb); have n1_ := Aside0.mk (Kd.R_elder' (by (with_reducible repeat (first | apply Kd.R_alloc | apply Kd.R_drewN | apply Kd.R_drew)); exact HO_15.out) (Kd.R_base ho76) hb); have n2_ := Aside0.mk (Kd.S_below (by (with_reducible repeat (first | apply Kd.S_alloc | apply Kd.S_drewN | apply Kd.S_drew)); exact HO_17.out) hb); have n3_ := Aside0.mk (Kd.S_below (by (with_reducible repeat (first | apply Kd.S_alloc | apply Kd.S_drewN | apply Kd.S_drew)); exact HO_77.out) hb); have n4_ := Aside0.mk (Kd.R_lower (Kd.R_new' (Kd.R_new' ho76 (Kd.R_lt (by (with_reducible repeat (first | apply Kd.R_alloc | apply Kd.R_drewN | apply Kd.R_drew)); exact HO_14.out))) (Kd.R_lt (by (with_reducible repeat (first | apply Kd.R_alloc | apply Kd.R_drewN | apply Kd.R_drew)); exact HO_15.out))) (below_size (by repeat (first | (with_reducible first | exact HB.out | apply below_alloc | apply pw_below_drewN | apply below_drew1) | exact HB.out)))); have n5_ := Aside0.mk (below_step (by repeat (first | (with_reducible first | exact HB.out | apply below_alloc | apply pw_below_drewN | apply below_drew1) | exact HB.out)) hb); clear HO_14; clear HO_15; clear HO_17; clear HO_77; clear HB; have HO_14 := n0_; have HO_15 := n1_; have HO_17 := n2_; have HO_77 := n3_; have HO376 := n4_; have HB := n5_; clear n0_ n1_ n2_ n3_ n4_ n5_; clear hb ho76; obtain ⟨Ao77, co77, eo77⟩ := Kd.R_slice HO376.out; subst eo77; obtain ⟨Ao78, co78, eo78⟩ := Kd.R_slice HO_14.out; subst eo78) | (go_at_call 29; (with_reducible refine (cohousinglaw36_in.calls _ _ y374 _ _ t363 t377 _ ?side1 ?side2 ?side3 ?side4 A44.out).mono ?_); (case side1 => repeat (first | exact (Kd.R_reads' HO376.out).2.2 | (with_reducible refine Kd.C_alloc ?_ _) | (with_reducible refine Kd.C_drewN ?_ _) | (with_reducible refine Kd.C_drew ?_))); (case side2 => exact (Kd.R_reads' HO376.out).2.1); (case side3 => repeat (first | exact (Kd.R_reads' HO_14.out).2.2 | (with_reducible refine Kd.C_alloc ?_ _) | (with_reducible refine Kd.C_drewN ?_ _) | (with_reducible refine Kd.C_drew ?_))); (case side4 => exact (Kd.R_reads' HO_14.out).2.1); rintro e w79 ⟨rfl, hb⟩; have n0_ := Aside0.mk (Kd.R_below (by (with_reducible repeat (first | apply Kd.R_alloc | apply Kd.R_drewN | apply Kd.R_drew)); exact HO_14.out) hb); have n1_ := Aside0.mk (Kd.R_below (by (with_reducible repeat (first | apply Kd.R_alloc | apply Kd.R_drewN | apply Kd.R_drew)); exact HO_15.out) hb); have n2_ := Aside0.mk (Kd.S_below (by (with_reducible repeat (first | apply Kd.S_alloc | apply Kd.S_drewN | apply Kd.S_drew)); exact HO_17.out) hb); have n3_ := Aside0.mk (Kd.S_below (by (with_reducible repeat (first | apply Kd.S_alloc | apply Kd.S_drewN | apply Kd.S_drew)); exact HO_77.out) hb); have n4_ := Aside0.mk (Kd.R_below (by (with_reducible repeat (first | apply Kd.R_alloc | apply Kd.R_drewN | apply Kd.R_drew)); exact HO376.out) hb); have n5_ := Aside0.mk (below_step (by repeat (first | (with_reducible first | exact HB.out | apply below_alloc | apply pw_below_drewN | apply below_drew1) | exact HB.out)) hb); clear HO_14; clear HO_15; clear HO_17; clear HO_77; clear HO376; clear HB; have HO_14 := n0_; have HO_15 := n1_; have HO_17 := n2_; have HO_77 := n3_; have HO376 := n4_; have HB := n5_; clear n0_ n1_ n2_ n3_ n4_ n5_; (try clear hb); (try clear hb2); (try clear hk); (try clear hi)))
              go_ret
              exact ⟨by first | rfl | (simp [errW_none, errW_some] <;> rfl) | (simp [*, errW_none, errW_some] <;> rfl), by repeat (first | (with_reducible first | exact HB.out | apply below_alloc | apply pw_below_drewN | apply below_drew1) | exact HB.out)⟩
           ·replace c43 := Bool.eq_false_iff.mpr c43
            subst c43
            have H1 : (some false) = some r := by rw [if_neg (show ¬ (false = true) by decide)] at H; exact H
            clear H
            have H := H1
            clear H1
            obtain rfl := Option.some.inj H
            go_wp2
            go_ret
            exact ⟨by first | rfl | (simp [errW_none, errW_some] <;> rfl) | (simp [*, errW_none, errW_some] <;> rfl), by repeat (first | (with_reducible first | exact HB.out | apply below_alloc | apply pw_below_drewN | apply below_drew1) | exact HB.out)⟩

end Go.Proofs.Ytjdhnhfglpogmaa.P
