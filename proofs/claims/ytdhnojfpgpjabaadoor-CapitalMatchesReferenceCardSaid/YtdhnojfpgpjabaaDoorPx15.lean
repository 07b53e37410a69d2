-- Written by a program of this session out of the translation (wip/pp: the kit's print, turned). Not trusted: Lean checks it.
import Derived.Test.YtdhnojfpgpjabaaDoorPx0
import Derived.Test.YtdhnojfpgpjabaaDoorPx1
import Derived.Test.YtdhnojfpgpjabaaDoorPx6
import Derived.Test.YtdhnojfpgpjabaaDoorPx8
import Derived.Test.YtdhnojfpgpjabaaDoorPx13
import Derived.Test.YtdhnojfpgpjabaaDoorPx14
import Derived.Test.YtdhnojfpgpjabaaDoorXValid
import Derived.Test.YtdhnojfpgpjabaaDoorXhead32
import Derived.Test.YtdhnojfpgpjabaaDoorXstate
namespace Go.Proofs.YtdhnojfpgpjabaaDoor.P
open Go.RowKit Go.Proofs.YtdhnojfpgpjabaaDoorW.PrintWords Go.Proofs.YtdhnojfpgpjabaaDoorW.PrintLast Go.Proofs.YtdhnojfpgpjabaaDoorW.PrintMore
attribute [local go_sem] max2_int min2_int max_two min_two max_three min_three max_four min_four   -- for this text's walks alone
set_option linter.unusedVariables false
set_option linter.unusedSimpArgs false

attribute [local go_sem high] eqA26
/-! ### cohousinglaw32_CapitalMatchesReference: function 3 -/
def cohousinglaw32_CapitalMatchesReference.f (k : Nat) (a0 : Int) (l1 : List (S36)) (a2 : Int) (a3 : Int) : Option (Bool) := (cohousinglaw32_head.f k).bind fun t198 => ((cohousingref32_Few.f l1).bind fun t199 => (if t199 = true then ((capital_State.f k a0 l1 a2).bind fun bt200 => ((cohousingref32_State.f k a0 l1 a2).bind fun bt207 => (if t198 = true then ((capital_Valid.f l1).bind fun t214 => ((cohousingref32_Valid.f k l1).bind fun t215 => (if (t214 == t215) = true then (if (bt200.1 == bt207.1 && (bt200.2.1 == bt207.2.1 && (bt200.2.2.1 == bt207.2.2.1 && (bt200.2.2.2.1 == bt207.2.2.2.1 && (bt200.2.2.2.2.1 == bt207.2.2.2.2.1))))) = true then ((capital_Redeem.f k a0 l1 a3).bind fun bt216 => ((cohousingref32_Redeem.f k a0 l1 a3).bind fun bt219 => (if bt200.2.2.2.2.2 = bt207.2.2.2.2.2 then (if bt216.1 = bt219.1 then (if bt216.2.1 = bt219.2.1 then (some (bt216.2.2 == bt219.2.2)) else (some false)) else (some false)) else (some false)))) else ((capital_Redeem.f k a0 l1 a3).bind fun bt222 => ((cohousingref32_Redeem.f k a0 l1 a3).bind fun bt225 => (some false)))) else ((capital_Redeem.f k a0 l1 a3).bind fun bt228 => ((cohousingref32_Redeem.f k a0 l1 a3).bind fun bt231 => (some false)))))) else ((capital_Redeem.f k a0 l1 a3).bind fun bt234 => ((cohousingref32_Redeem.f k a0 l1 a3).bind fun bt237 => (some false)))))) else (some t198)))
theorem cohousinglaw32_CapitalMatchesReference.mono : ∀ a0 a1 a2 a3 k, LeO (cohousinglaw32_CapitalMatchesReference.f k a0 a1 a2 a3) (cohousinglaw32_CapitalMatchesReference.f (k + 1) a0 a1 a2 a3) := by
 intro a0 a1 a2 a3 k
 unfold cohousinglaw32_CapitalMatchesReference.f
 repeat' first
   | (with_reducible exact capital_Redeem.mono _ _ _ _)
   | (with_reducible exact capital_State.mono _ _ _ _)
   | (with_reducible exact cohousinglaw32_head.mono _)
   | (with_reducible exact cohousingref32_Redeem.mono _ _ _ _)
   | (with_reducible exact cohousingref32_State.mono _ _ _ _)
   | (with_reducible exact cohousingref32_Valid.mono _ _)
   | (with_reducible exact LeO.refl _)
   | (with_reducible exact LeO.none _)
   | (with_reducible refine LeO.ite ?_ ?_)
   | (with_reducible refine LeO.bind ?_ (fun _ => ?_))
   | exact capital_Redeem.mono _ _ _ _
   | exact capital_State.mono _ _ _ _
   | exact cohousinglaw32_head.mono _
   | exact cohousingref32_Redeem.mono _ _ _ _
   | exact cohousingref32_State.mono _ _ _ _
   | exact cohousingref32_Valid.mono _ _
   | exact LeO.none _
   | refine LeO.ite ?_ ?_
   | refine LeO.bind ?_ (fun _ => ?_)
set_option maxHeartbeats 8000000 in
set_option maxRecDepth 100000 in
theorem cohousinglaw32_CapitalMatchesReference.calls (k : Nat) (a0 : Int) (A1 : Option Addr) (c1 : Nat) (l1 : List (S36)) (a2 : Int) (a3 : Int) (r : Bool) (w : World) (hr1 : Kd.C k36 w A1 l1.length l1) (hc1 : l1.length ≤ c1) (hT : TabOk w) (h : cohousinglaw32_CapitalMatchesReference.f k a0 l1 a2 a3 = some r) (hr : r = true) :
  Calls Tryd.prog 3 #[.int .i64 a0, .slice A1 l1.length c1, .int .i64 a2, .int .i64 a3] w fun e w' => e = .returned (.bool r) ∧ Below w.heap.size w w' := by
 have hu26 := Tryd.underlying26
 have HR1 := Aside0.mk hr1
 have HC1 := Aside0.mk hc1
 clear hr1 hc1
 have HT := Aside0.mk hT
 clear hT
 have HB := Aside0.mk (Below.refl w.heap.size w)
 have H : ((cohousinglaw32_head.f k).bind fun t198 => ((cohousingref32_Few.f l1).bind fun t199 => (if t199 = true then ((capital_State.f k a0 l1 a2).bind fun bt200 => ((cohousingref32_State.f k a0 l1 a2).bind fun bt207 => (if t198 = true then ((capital_Valid.f l1).bind fun t214 => ((cohousingref32_Valid.f k l1).bind fun t215 => (if (t214 == t215) = true then (if (bt200.1 == bt207.1 && (bt200.2.1 == bt207.2.1 && (bt200.2.2.1 == bt207.2.2.1 && (bt200.2.2.2.1 == bt207.2.2.2.1 && (bt200.2.2.2.2.1 == bt207.2.2.2.2.1))))) = true then ((capital_Redeem.f k a0 l1 a3).bind fun bt216 => ((cohousingref32_Redeem.f k a0 l1 a3).bind fun bt219 => (if bt200.2.2.2.2.2 = bt207.2.2.2.2.2 then (if bt216.1 = bt219.1 then (if bt216.2.1 = bt219.2.1 then (some (bt216.2.2 == bt219.2.2)) else (some false)) else (some false)) else (some false)))) else ((capital_Redeem.f k a0 l1 a3).bind fun bt222 => ((cohousingref32_Redeem.f k a0 l1 a3).bind fun bt225 => (some false)))) else ((capital_Redeem.f k a0 l1 a3).bind fun bt228 => ((cohousingref32_Redeem.f k a0 l1 a3).bind fun bt231 => (some false)))))) else ((capital_Redeem.f k a0 l1 a3).bind fun bt234 => ((cohousingref32_Redeem.f k a0 l1 a3).bind fun bt237 => (some false)))))) else (some t198)))) = some r := h
 clear h
 replace H := Option.bind_eq_some_iff.mp H
 obtain ⟨t198, A50, H⟩ := H
 replace H : ((cohousingref32_Few.f l1).bind fun t199 => (if t199 = true then ((capital_State.f k a0 l1 a2).bind fun bt200 => ((cohousingref32_State.f k a0 l1 a2).bind fun bt207 => (if t198 = true then ((capital_Valid.f l1).bind fun t214 => ((cohousingref32_Valid.f k l1).bind fun t215 => (if (t214 == t215) = true then (if (bt200.1 == bt207.1 && (bt200.2.1 == bt207.2.1 && (bt200.2.2.1 == bt207.2.2.1 && (bt200.2.2.2.1 == bt207.2.2.2.1 && (bt200.2.2.2.2.1 == bt207.2.2.2.2.1))))) = true then ((capital_Redeem.f k a0 l1 a3).bind fun bt216 => ((cohousingref32_Redeem.f k a0 l1 a3).bind fun bt219 => (if bt200.2.2.2.2.2 = bt207.2.2.2.2.2 then (if bt216.1 = bt219.1 then (if bt216.2.1 = bt219.2.1 then (some (bt216.2.2 == bt219.2.2)) else (some false)) else (some false)) else (some false)))) else ((capital_Redeem.f k a0 l1 a3).bind fun bt222 => ((cohousingref32_Redeem.f k a0 l1 a3).bind fun bt225 => (some false)))) else ((capital_Redeem.f k a0 l1 a3).bind fun bt228 => ((cohousingref32_Redeem.f k a0 l1 a3).bind fun bt231 => (some false)))))) else ((capital_Redeem.f k a0 l1 a3).bind fun bt234 => ((cohousingref32_Redeem.f k a0 l1 a3).bind fun bt237 => (some false)))))) else (some t198))) = some r := H
 have A5 := Aside0.mk A50
 clear A50
 replace H := Option.bind_eq_some_iff.mp H
 obtain ⟨t199, A60, H⟩ := H
 replace H : (if t199 = true then ((capital_State.f k a0 l1 a2).bind fun bt200 => ((cohousingref32_State.f k a0 l1 a2).bind fun bt207 => (if t198 = true then ((capital_Valid.f l1).bind fun t214 => ((cohousingref32_Valid.f k l1).bind fun t215 => (if (t214 == t215) = true then (if (bt200.1 == bt207.1 && (bt200.2.1 == bt207.2.1 && (bt200.2.2.1 == bt207.2.2.1 && (bt200.2.2.2.1 == bt207.2.2.2.1 && (bt200.2.2.2.2.1 == bt207.2.2.2.2.1))))) = true then ((capital_Redeem.f k a0 l1 a3).bind fun bt216 => ((cohousingref32_Redeem.f k a0 l1 a3).bind fun bt219 => (if bt200.2.2.2.2.2 = bt207.2.2.2.2.2 then (if bt216.1 = bt219.1 then (if bt216.2.1 = bt219.2.1 then (some (bt216.2.2 == bt219.2.2)) else (some false)) else (some false)) else (some false)))) else ((capital_Redeem.f k a0 l1 a3).bind fun bt222 => ((cohousingref32_Redeem.f k a0 l1 a3).bind fun bt225 => (some false)))) else ((capital_Redeem.f k a0 l1 a3).bind fun bt228 => ((cohousingref32_Redeem.f k a0 l1 a3).bind fun bt231 => (some false)))))) else ((capital_Redeem.f k a0 l1 a3).bind fun bt234 => ((cohousingref32_Redeem.f k a0 l1 a3).bind fun bt237 => (some false)))))) else (some t198)) = some r := H
 have A6 := Aside0.mk A60
 clear A60
 by_cases c7 : t199 = true
 ·subst c7
  have H1 : ((capital_State.f k a0 l1 a2).bind fun bt200 => ((cohousingref32_State.f k a0 l1 a2).bind fun bt207 => (if t198 = true then ((capital_Valid.f l1).bind fun t214 => ((cohousingref32_Valid.f k l1).bind fun t215 => (if (t214 == t215) = true then (if (bt200.1 == bt207.1 && (bt200.2.1 == bt207.2.1 && (bt200.2.2.1 == bt207.2.2.1 && (bt200.2.2.2.1 == bt207.2.2.2.1 && (bt200.2.2.2.2.1 == bt207.2.2.2.2.1))))) = true then ((capital_Redeem.f k a0 l1 a3).bind fun bt216 => ((cohousingref32_Redeem.f k a0 l1 a3).bind fun bt219 => (if bt200.2.2.2.2.2 = bt207.2.2.2.2.2 then (if bt216.1 = bt219.1 then (if bt216.2.1 = bt219.2.1 then (some (bt216.2.2 == bt219.2.2)) else (some false)) else (some false)) else (some false)))) else ((capital_Redeem.f k a0 l1 a3).bind fun bt222 => ((cohousingref32_Redeem.f k a0 l1 a3).bind fun bt225 => (some false)))) else ((capital_Redeem.f k a0 l1 a3).bind fun bt228 => ((cohousingref32_Redeem.f k a0 l1 a3).bind fun bt231 => (some false)))))) else ((capital_Redeem.f k a0 l1 a3).bind fun bt234 => ((cohousingref32_Redeem.f k a0 l1 a3).bind fun bt237 => (some false)))))) = some r := by rw [if_pos rfl] at H; exact H
  clear H
  have H := H1
  clear H1
  replace H := Option.bind_eq_some_iff.mp H
  obtain ⟨⟨t200, t201, t202, t203, t204, t205⟩, A80, H⟩ := H
  replace H : ((cohousingref32_State.f k a0 l1 a2).bind fun bt207 => (if t198 = true then ((capital_Valid.f l1).bind fun t214 => ((cohousingref32_Valid.f k l1).bind fun t215 => (if (t214 == t215) = true then (if (t200 == bt207.1 && (t201 == bt207.2.1 && (t202 == bt207.2.2.1 && (t203 == bt207.2.2.2.1 && (t204 == bt207.2.2.2.2.1))))) = true then ((capital_Redeem.f k a0 l1 a3).bind fun bt216 => ((cohousingref32_Redeem.f k a0 l1 a3).bind fun bt219 => (if t205 = bt207.2.2.2.2.2 then (if bt216.1 = bt219.1 then (if bt216.2.1 = bt219.2.1 then (some (bt216.2.2 == bt219.2.2)) else (some false)) else (some false)) else (some false)))) else ((capital_Redeem.f k a0 l1 a3).bind fun bt222 => ((cohousingref32_Redeem.f k a0 l1 a3).bind fun bt225 => (some false)))) else ((capital_Redeem.f k a0 l1 a3).bind fun bt228 => ((cohousingref32_Redeem.f k a0 l1 a3).bind fun bt231 => (some false)))))) else ((capital_Redeem.f k a0 l1 a3).bind fun bt234 => ((cohousingref32_Redeem.f k a0 l1 a3).bind fun bt237 => (some false))))) = some r := H
  have A8 := Aside0.mk A80
  clear A80
  replace H := Option.bind_eq_some_iff.mp H
  obtain ⟨⟨t207, t208, t209, t210, t211, t212⟩, A90, H⟩ := H
  replace H : (if t198 = true then ((capital_Valid.f l1).bind fun t214 => ((cohousingref32_Valid.f k l1).bind fun t215 => (if (t214 == t215) = true then (if (t200 == t207 && (t201 == t208 && (t202 == t209 && (t203 == t210 && (t204 == t211))))) = true then ((capital_Redeem.f k a0 l1 a3).bind fun bt216 => ((cohousingref32_Redeem.f k a0 l1 a3).bind fun bt219 => (if t205 = t212 then (if bt216.1 = bt219.1 then (if bt216.2.1 = bt219.2.1 then (some (bt216.2.2 == bt219.2.2)) else (some false)) else (some false)) else (some false)))) else ((capital_Redeem.f k a0 l1 a3).bind fun bt222 => ((cohousingref32_Redeem.f k a0 l1 a3).bind fun bt225 => (some false)))) else ((capital_Redeem.f k a0 l1 a3).bind fun bt228 => ((cohousingref32_Redeem.f k a0 l1 a3).bind fun bt231 => (some false)))))) else ((capital_Redeem.f k a0 l1 a3).bind fun bt234 => ((cohousingref32_Redeem.f k a0 l1 a3).bind fun bt237 => (some false)))) = some r := H
  have A9 := Aside0.mk A90
  clear A90
  by_cases c10 : t198 = true
  ·subst c10
   have H1 : ((capital_Valid.f l1).bind fun t214 => ((cohousingref32_Valid.f k l1).bind fun t215 => (if (t214 == t215) = true then (if (t200 == t207 && (t201 == t208 && (t202 == t209 && (t203 == t210 && (t204 == t211))))) = true then ((capital_Redeem.f k a0 l1 a3).bind fun bt216 => ((cohousingref32_Redeem.f k a0 l1 a3).bind fun bt219 => (if t205 = t212 then (if bt216.1 = bt219.1 then (if bt216.2.1 = bt219.2.1 then (some (bt216.2.2 == bt219.2.2)) else (some false)) else (some false)) else (some false)))) else ((capital_Redeem.f k a0 l1 a3).bind fun bt222 => ((cohousingref32_Redeem.f k a0 l1 a3).bind fun bt225 => (some false)))) else ((capital_Redeem.f k a0 l1 a3).bind fun bt228 => ((cohousingref32_Redeem.f k a0 l1 a3).bind fun bt231 => (some false)))))) = some r := by rw [if_pos rfl] at H; exact H
   clear H
   have H := H1
   clear H1
   replace H := Option.bind_eq_some_iff.mp H
   obtain ⟨t214, A110, H⟩ := H
   replace H : ((cohousingref32_Valid.f k l1).bind fun t215 => (if (t214 == t215) = true then (if (t200 == t207 && (t201 == t208 && (t202 == t209 && (t203 == t210 && (t204 == t211))))) = true then ((capital_Redeem.f k a0 l1 a3).bind fun bt216 => ((cohousingref32_Redeem.f k a0 l1 a3).bind fun bt219 => (if t205 = t212 then (if bt216.1 = bt219.1 then (if bt216.2.1 = bt219.2.1 then (some (bt216.2.2 == bt219.2.2)) else (some false)) else (some false)) else (some false)))) else ((capital_Redeem.f k a0 l1 a3).bind fun bt222 => ((cohousingref32_Redeem.f k a0 l1 a3).bind fun bt225 => (some false)))) else ((capital_Redeem.f k a0 l1 a3).bind fun bt228 => ((cohousingref32_Redeem.f k a0 l1 a3).bind fun bt231 => (some false))))) = some r := H
   have A11 := Aside0.mk A110
   clear A110
   replace H := Option.bind_eq_some_iff.mp H
   obtain ⟨t215, A120, H⟩ := H
   replace H : (if (t214 == t215) = true then (if (t200 == t207 && (t201 == t208 && (t202 == t209 && (t203 == t210 && (t204 == t211))))) = true then ((capital_Redeem.f k a0 l1 a3).bind fun bt216 => ((cohousingref32_Redeem.f k a0 l1 a3).bind fun bt219 => (if t205 = t212 then (if bt216.1 = bt219.1 then (if bt216.2.1 = bt219.2.1 then (some (bt216.2.2 == bt219.2.2)) else (some false)) else (some false)) else (some false)))) else ((capital_Redeem.f k a0 l1 a3).bind fun bt222 => ((cohousingref32_Redeem.f k a0 l1 a3).bind fun bt225 => (some false)))) else ((capital_Redeem.f k a0 l1 a3).bind fun bt228 => ((cohousingref32_Redeem.f k a0 l1 a3).bind fun bt231 => (some false)))) = some r := H
   have A12 := Aside0.mk A120
   clear A120
   by_cases c13 : (t214 == t215) = true
   ·rw [if_pos c13] at H
    have c13b0 : (t214 == t215) = true := c13
    (try (have c13b1 : decide (t214 = t215) = true := by simpa using c13))
    (try (have c13b2 : (t214 == t215) = true := by simpa using c13))
    clear c13
    by_cases c14 : (t200 == t207 && (t201 == t208 && (t202 == t209 && (t203 == t210 && (t204 == t211))))) = true
    ·rw [if_pos c14] at H
     have c14b0 : (t200 == t207 && (t201 == t208 && (t202 == t209 && (t203 == t210 && (t204 == t211))))) = true := c14
     (try (have c14b1 : decide (t200 = t207 && (t201 == t208 && (t202 == t209 && (t203 == t210 && (t204 == t211))))) = true := by simpa using c14))
     (try (have c14b2 : (t200 == t207 && (t201 == t208 && (t202 == t209 && (t203 == t210 && (t204 == t211))))) = true := by simpa using c14))
     clear c14
     replace H := Option.bind_eq_some_iff.mp H
     obtain ⟨⟨t216, t217, t218⟩, A150, H⟩ := H
     replace H : ((cohousingref32_Redeem.f k a0 l1 a3).bind fun bt219 => (if t205 = t212 then (if t216 = bt219.1 then (if t217 = bt219.2.1 then (some (t218 == bt219.2.2)) else (some false)) else (some false)) else (some false))) = some r := H
     have A15 := Aside0.mk A150
     clear A150
     replace H := Option.bind_eq_some_iff.mp H
     obtain ⟨⟨t219, t220, t221⟩, A160, H⟩ := H
     replace H : (if t205 = t212 then (if t216 = t219 then (if t217 = t220 then (some (t218 == t221)) else (some false)) else (some false)) else (some false)) = some r := H
     have A16 := Aside0.mk A160
     clear A160
     by_cases c17 : t205 = t212
     ·rw [if_pos c17] at H
      have c17b0 : (t205 == t212) = true := beq_iff_eq.mpr c17
      have c17b1 : (t205 != t212) = false := bne_eq_false_iff_eq.mpr c17
      clear c17
      by_cases c18 : t216 = t219
      ·rw [if_pos c18] at H
       have c18b0 : (t216 == t219) = true := beq_iff_eq.mpr c18
       have c18b1 : (t216 != t219) = false := bne_eq_false_iff_eq.mpr c18
       clear c18
       by_cases c19 : t217 = t220
       ·rw [if_pos c19] at H
        have c19b0 : (t217 == t220) = true := beq_iff_eq.mpr c19
        have c19b1 : (t217 != t220) = false := bne_eq_false_iff_eq.mpr c19
        clear c19
        obtain rfl := Option.some.inj H
        go_enter Tryd.func3, Tryd.ntmps3
        go_wp2_with (first | ((with_reducible refine gate_callee (f := 10) rfl ?_); refine goesL_ (some 20) rfl rfl Tryd.func10 (by kernel_rfl) rfl #[] rfl (by (try simp only [List.map_toArray, List.map_cons, List.map_nil]); first | done | rfl | (simp only [List.length_drop, List.length_take]; rfl)) ?_; (with_reducible refine (cohousinglaw32_head.calls k  true _ ?side1 A5.out).mono ?_); (case side1 => exact TabOk.below HT.out (by repeat (first | (with_reducible first | exact HB.out | apply below_alloc | apply pw_below_drewN | apply below_drew1) | exact HB.out))); rintro e w20 ⟨rfl, hb⟩; refine ⟨_, rfl, ?_⟩; have n0_ := Aside0.mk (below_step (by repeat (first | (with_reducible first | exact HB.out | apply below_alloc | apply pw_below_drewN | apply below_drew1) | exact HB.out)) hb); clear HB; have HB := n0_; clear n0_; (try clear hb); (try clear hb2); (try clear hk); (try clear hi)) | ((with_reducible refine gate_callee (f := 11) rfl ?_); refine goesL_ (some 22) rfl rfl Tryd.func11 (by kernel_rfl) rfl #[.slice A1 l1.length c1] rfl (by (try simp only [List.map_toArray, List.map_cons, List.map_nil]); first | done | rfl | (simp only [List.length_drop, List.length_take]; rfl)) ?_; (with_reducible refine (cohousingref32_Few.calls _ _ l1 true _ ?side1 ?side2 A6.out).mono ?_); (case side1 => repeat (first | exact (Kd.C_below HR1.out HB.out) | (with_reducible refine Kd.C_alloc ?_ _) | (with_reducible refine Kd.C_drewN ?_ _) | (with_reducible refine Kd.C_drew ?_))); (case side2 => exact HC1.out); rintro e w' ⟨rfl, ⟨nd, rfl⟩⟩; refine ⟨_, rfl, ?_⟩; (try (rw [drewN_self w20]; generalize hq_ : World.drewN w20 _ = w20; have n0_ : Aside0 (Below w.heap.size w w20) := ⟨by rw [← hq_]; exact (by repeat (first | (with_reducible first | exact HB.out | apply below_alloc | apply pw_below_drewN | apply below_drew1) | exact HB.out))⟩; clear HB hq_; have HB := n0_; clear n0_))) | ((with_reducible refine gate_callee (f := 12) rfl ?_); refine goesL_ (some 29) rfl rfl Tryd.func12 (by kernel_rfl) rfl #[.int .i64 a0, .slice A1 l1.length c1, .int .i64 a2] rfl (by (try simp only [List.map_toArray, List.map_cons, List.map_nil]); first | done | rfl | (simp only [List.length_drop, List.length_take]; rfl)) ?_; (with_reducible refine (capital_State.calls k a0 _ _ l1 a2 t200 t201 t202 t203 t204 t205 _ ?side1 ?side2 ?side3 A8.out).mono ?_); (case side1 => repeat (first | exact (Kd.C_below HR1.out HB.out) | (with_reducible refine Kd.C_alloc ?_ _) | (with_reducible refine Kd.C_drewN ?_ _) | (with_reducible refine Kd.C_drew ?_))); (case side2 => exact HC1.out); (case side3 => exact TabOk.below HT.out (by repeat (first | (with_reducible first | exact HB.out | apply below_alloc | apply pw_below_drewN | apply below_drew1) | exact HB.out))); rintro e w21 ⟨rfl, hb⟩; refine ⟨_, rfl, ?_⟩; have n0_ := Aside0.mk (below_step (by repeat (first | (with_reducible first | exact HB.out | apply below_alloc | apply pw_below_drewN | apply below_drew1) | exact HB.out)) hb); clear HB; have HB := n0_; clear n0_; (try clear hb); (try clear hb2); (try clear hk); (try clear hi)) | ((with_reducible refine gate_dst (N := 10) rfl ?_); refine box_event ?hg (N := 10) ?hd (cs := #[.int .i64 0, .int .i64 0, .int .i64 0, .int .i64 0, .int .i64 0]) (t := 26) ?hr ?_; (case hd => rfl); (case hg => rfl); (case hr => first | (go_simp; done) | (go_simp; rfl)); intro gb206 hg w22 hbox hb; have n0_ := Aside0.mk (below_step (by repeat (first | (with_reducible first | exact HB.out | apply below_alloc | apply pw_below_drewN | apply below_drew1) | exact HB.out)) hb); have n1_ := Aside0.mk (hbox); have n2_ := Aside0.mk ((by rw [hg]; exact (below_size (by repeat (first | (with_reducible first | exact HB.out | apply below_alloc | apply pw_below_drewN | apply below_drew1) | exact HB.out))) : w.heap.size ≤ gb206)); have n3_ := Aside0.mk ((by rw [hg]; exact (below_size (by repeat (first | (with_reducible first | exact HB.out | apply below_alloc | apply pw_below_drewN | apply below_drew1) | exact HB.out))) : w.heap.size ≤ gb206)); clear HB; have HB := n0_; have BK206 := n1_; have GW206 := n2_; have GE206 := n3_; clear n0_ n1_ n2_ n3_; clear hb hbox hg; have hcz23_0 : w22.cell? ⟨gb206, 0, none⟩ = some (.int .i64 0) := (blk_cell BK206.out 0).trans rfl; have hcz23_1 : w22.cell? ⟨gb206, 1, none⟩ = some (.int .i64 0) := (blk_cell BK206.out 1).trans rfl; have hcz23_2 : w22.cell? ⟨gb206, 2, none⟩ = some (.int .i64 0) := (blk_cell BK206.out 2).trans rfl; have hcz23_3 : w22.cell? ⟨gb206, 3, none⟩ = some (.int .i64 0) := (blk_cell BK206.out 3).trans rfl; have hcz23_4 : w22.cell? ⟨gb206, 4, none⟩ = some (.int .i64 0) := (blk_cell BK206.out 4).trans rfl; have hfz23_0 := blk_frozen BK206.out 0; have hfz23_1 := blk_frozen BK206.out 1; have hfz23_2 := blk_frozen BK206.out 2; have hfz23_3 := blk_frozen BK206.out 3; have hfz23_4 := blk_frozen BK206.out 4) | ((with_reducible refine gate_callee (f := 13) rfl ?_); refine goesL_ (some 36) rfl rfl Tryd.func13 (by kernel_rfl) rfl #[.int .i64 a0, .slice A1 l1.length c1, .int .i64 a2] rfl (by (try simp only [List.map_toArray, List.map_cons, List.map_nil]); first | done | rfl | (simp only [List.length_drop, List.length_take]; rfl)) ?_; (with_reducible refine (cohousingref32_State.calls k a0 _ _ l1 a2 t207 t208 t209 t210 t211 t212 _ ?side1 ?side2 A9.out).mono ?_); (case side1 => exact Kd.C_below HR1.out (by repeat (first | (with_reducible first | exact HB.out | apply below_alloc | apply pw_below_drewN | apply below_drew1 | refine below_set ?_ GE206.out) | exact HB.out))); (case side2 => exact HC1.out); rintro e w24 ⟨rfl, hb⟩; refine ⟨_, rfl, ?_⟩; have n0_ := Aside0.mk (blk_below (g := gb206) (o := .cells #[.int .i64 t200, .int .i64 t201, .int .i64 t202, .int .i64 t203, .int .i64 t204] 26 (0, 0)) (by (with_reducible repeat (first | refine blk_drewN ?_ _ | refine blk_drew ?_ | refine blk_alloc ?_ _)); refine blk_put (cs := #[.int .i64 t200, .int .i64 t201, .int .i64 t202, .int .i64 t203, .int .i64 0]) ?_ 4 _ rfl; (with_reducible repeat (first | refine blk_drewN ?_ _ | refine blk_drew ?_ | refine blk_alloc ?_ _)); refine blk_put (cs := #[.int .i64 t200, .int .i64 t201, .int .i64 t202, .int .i64 0, .int .i64 0]) ?_ 3 _ rfl; (with_reducible repeat (first | refine blk_drewN ?_ _ | refine blk_drew ?_ | refine blk_alloc ?_ _)); refine blk_put (cs := #[.int .i64 t200, .int .i64 t201, .int .i64 0, .int .i64 0, .int .i64 0]) ?_ 2 _ rfl; (with_reducible repeat (first | refine blk_drewN ?_ _ | refine blk_drew ?_ | refine blk_alloc ?_ _)); refine blk_put (cs := #[.int .i64 t200, .int .i64 0, .int .i64 0, .int .i64 0, .int .i64 0]) ?_ 1 _ rfl; (with_reducible repeat (first | refine blk_drewN ?_ _ | refine blk_drew ?_ | refine blk_alloc ?_ _)); refine blk_put (cs := #[.int .i64 0, .int .i64 0, .int .i64 0, .int .i64 0, .int .i64 0]) ?_ 0 _ rfl; (with_reducible repeat (first | refine blk_drewN ?_ _ | refine blk_drew ?_ | refine blk_alloc ?_ _)); exact BK206.out) hb); have n1_ := Aside0.mk (below_step (by repeat (first | (with_reducible first | exact HB.out | apply below_alloc | apply pw_below_drewN | apply below_drew1 | refine below_set ?_ GE206.out) | exact HB.out)) hb); clear BK206; clear HB; have BK206 := n0_; have HB := n1_; clear n0_ n1_; (try clear hb); (try clear hb2); (try clear hk); (try clear hi)) | ((with_reducible refine gate_dst (N := 12) rfl ?_); refine box_event ?hg (N := 12) ?hd (cs := #[.int .i64 0, .int .i64 0, .int .i64 0, .int .i64 0, .int .i64 0]) (t := 26) ?hr ?_; (case hd => rfl); (case hg => rfl); (case hr => first | (go_simp; done) | (go_simp; rfl)); intro gb213 hg w25 hbox hb; have n0_ := Aside0.mk (blk_below (g := gb206) (o := .cells #[.int .i64 t200, .int .i64 t201, .int .i64 t202, .int .i64 t203, .int .i64 t204] 26 (0, 0)) (by (with_reducible repeat (first | refine blk_drewN ?_ _ | refine blk_drew ?_ | refine blk_alloc ?_ _)); exact BK206.out) hb); have n1_ := Aside0.mk (below_step (by repeat (first | (with_reducible first | exact HB.out | apply below_alloc | apply pw_below_drewN | apply below_drew1 | refine below_set ?_ GE206.out) | exact HB.out)) hb); have n2_ := Aside0.mk (hbox); have n3_ := Aside0.mk ((by rw [hg]; exact (below_size (by repeat (first | (with_reducible first | exact HB.out | apply below_alloc | apply pw_below_drewN | apply below_drew1 | refine below_set ?_ GE206.out) | exact HB.out))) : w.heap.size ≤ gb213)); have n4_ := Aside0.mk ((by rw [hg]; exact (below_size (by repeat (first | (with_reducible first | exact HB.out | apply below_alloc | apply pw_below_drewN | apply below_drew1 | refine below_set ?_ GE206.out) | exact HB.out))) : w.heap.size ≤ gb213)); have n5_ := Aside0.mk ((by rw [hg]; exact Nat.ne_of_lt (blk_lt (g := gb206) (o := .cells #[.int .i64 t200, .int .i64 t201, .int .i64 t202, .int .i64 t203, .int .i64 t204] 26 (0, 0)) (by (with_reducible repeat (first | refine blk_drewN ?_ _ | refine blk_drew ?_ | refine blk_alloc ?_ _)); exact BK206.out)) : gb206 ≠ gb213)); have n6_ := Aside0.mk ((by rw [hg]; exact Nat.ne_of_gt (blk_lt (g := gb206) (o := .cells #[.int .i64 t200, .int .i64 t201, .int .i64 t202, .int .i64 t203, .int .i64 t204] 26 (0, 0)) (by (with_reducible repeat (first | refine blk_drewN ?_ _ | refine blk_drew ?_ | refine blk_alloc ?_ _)); exact BK206.out)) : gb213 ≠ gb206)); clear BK206; clear HB; have BK206 := n0_; have HB := n1_; have BK213 := n2_; have GW213 := n3_; have GE213 := n4_; have NB206_213 := n5_; have NB213_206 := n6_; clear n0_ n1_ n2_ n3_ n4_ n5_ n6_; clear hb hbox hg; have hnb26 := NB213_206.out; have hnc26 := NB206_213.out; have hcz27_0 : w25.cell? ⟨gb213, 0, none⟩ = some (.int .i64 0) := (blk_cell BK213.out 0).trans rfl; have hcz27_1 : w25.cell? ⟨gb213, 1, none⟩ = some (.int .i64 0) := (blk_cell BK213.out 1).trans rfl; have hcz27_2 : w25.cell? ⟨gb213, 2, none⟩ = some (.int .i64 0) := (blk_cell BK213.out 2).trans rfl; have hcz27_3 : w25.cell? ⟨gb213, 3, none⟩ = some (.int .i64 0) := (blk_cell BK213.out 3).trans rfl; have hcz27_4 : w25.cell? ⟨gb213, 4, none⟩ = some (.int .i64 0) := (blk_cell BK213.out 4).trans rfl; have hfz27_0 := blk_frozen BK213.out 0; have hfz27_1 := blk_frozen BK213.out 1; have hfz27_2 := blk_frozen BK213.out 2; have hfz27_3 := blk_frozen BK213.out 3; have hfz27_4 := blk_frozen BK213.out 4) | (go_at_call 14; (with_reducible refine (capital_Valid.calls _ _ l1 t214 _ ?side1 ?side2 ?side3 A11.out).mono ?_); (case side1 => exact Kd.C_below HR1.out (by repeat (first | (with_reducible first | exact HB.out | apply below_alloc | apply pw_below_drewN | apply below_drew1 | refine below_set ?_ GE206.out | refine below_set ?_ GE213.out) | exact HB.out))); (case side2 => exact HC1.out); (case side3 => exact TabOk.below HT.out (by repeat (first | (with_reducible first | exact HB.out | apply below_alloc | apply pw_below_drewN | apply below_drew1 | refine below_set ?_ GE206.out | refine below_set ?_ GE213.out) | exact HB.out))); rintro e w28 ⟨rfl, hb⟩; have n0_ := Aside0.mk (blk_below (g := gb206) (o := .cells #[.int .i64 t200, .int .i64 t201, .int .i64 t202, .int .i64 t203, .int .i64 t204] 26 (0, 0)) (by (with_reducible repeat (first | refine blk_drewN ?_ _ | refine blk_drew ?_ | refine blk_alloc ?_ _)); refine blk_far ?_ NB206_213.out _; (with_reducible repeat (first | refine blk_drewN ?_ _ | refine blk_drew ?_ | refine blk_alloc ?_ _)); refine blk_far ?_ NB206_213.out _; (with_reducible repeat (first | refine blk_drewN ?_ _ | refine blk_drew ?_ | refine blk_alloc ?_ _)); refine blk_far ?_ NB206_213.out _; (with_reducible repeat (first | refine blk_drewN ?_ _ | refine blk_drew ?_ | refine blk_alloc ?_ _)); refine blk_far ?_ NB206_213.out _; (with_reducible repeat (first | refine blk_drewN ?_ _ | refine blk_drew ?_ | refine blk_alloc ?_ _)); refine blk_far ?_ NB206_213.out _; (with_reducible repeat (first | refine blk_drewN ?_ _ | refine blk_drew ?_ | refine blk_alloc ?_ _)); exact BK206.out) hb); have n1_ := Aside0.mk (blk_below (g := gb213) (o := .cells #[.int .i64 t207, .int .i64 t208, .int .i64 t209, .int .i64 t210, .int .i64 t211] 26 (0, 0)) (by (with_reducible repeat (first | refine blk_drewN ?_ _ | refine blk_drew ?_ | refine blk_alloc ?_ _)); refine blk_put (cs := #[.int .i64 t207, .int .i64 t208, .int .i64 t209, .int .i64 t210, .int .i64 0]) ?_ 4 _ rfl; (with_reducible repeat (first | refine blk_drewN ?_ _ | refine blk_drew ?_ | refine blk_alloc ?_ _)); refine blk_put (cs := #[.int .i64 t207, .int .i64 t208, .int .i64 t209, .int .i64 0, .int .i64 0]) ?_ 3 _ rfl; (with_reducible repeat (first | refine blk_drewN ?_ _ | refine blk_drew ?_ | refine blk_alloc ?_ _)); refine blk_put (cs := #[.int .i64 t207, .int .i64 t208, .int .i64 0, .int .i64 0, .int .i64 0]) ?_ 2 _ rfl; (with_reducible repeat (first | refine blk_drewN ?_ _ | refine blk_drew ?_ | refine blk_alloc ?_ _)); refine blk_put (cs := #[.int .i64 t207, .int .i64 0, .int .i64 0, .int .i64 0, .int .i64 0]) ?_ 1 _ rfl; (with_reducible repeat (first | refine blk_drewN ?_ _ | refine blk_drew ?_ | refine blk_alloc ?_ _)); refine blk_put (cs := #[.int .i64 0, .int .i64 0, .int .i64 0, .int .i64 0, .int .i64 0]) ?_ 0 _ rfl; (with_reducible repeat (first | refine blk_drewN ?_ _ | refine blk_drew ?_ | refine blk_alloc ?_ _)); exact BK213.out) hb); have n2_ := Aside0.mk (below_step (by repeat (first | (with_reducible first | exact HB.out | apply below_alloc | apply pw_below_drewN | apply below_drew1 | refine below_set ?_ GE206.out | refine below_set ?_ GE213.out) | exact HB.out)) hb); clear BK206; clear BK213; clear HB; have BK206 := n0_; have BK213 := n1_; have HB := n2_; clear n0_ n1_ n2_; (try clear hb); (try clear hb2); (try clear hk); (try clear hi)) | (go_at_call 15; (with_reducible refine (cohousingref32_Valid.calls k _ _ l1 t215 _ ?side1 ?side2 A12.out).mono ?_); (case side1 => repeat (first | exact (Kd.C_below HR1.out HB.out) | (with_reducible refine Kd.C_alloc ?_ _) | (with_reducible refine Kd.C_drewN ?_ _) | (with_reducible refine Kd.C_drew ?_))); (case side2 => exact HC1.out); rintro e w29 ⟨rfl, hb⟩; have n0_ := Aside0.mk (blk_below (g := gb206) (o := .cells #[.int .i64 t200, .int .i64 t201, .int .i64 t202, .int .i64 t203, .int .i64 t204] 26 (0, 0)) (by (with_reducible repeat (first | refine blk_drewN ?_ _ | refine blk_drew ?_ | refine blk_alloc ?_ _)); exact BK206.out) hb); have n1_ := Aside0.mk (blk_below (g := gb213) (o := .cells #[.int .i64 t207, .int .i64 t208, .int .i64 t209, .int .i64 t210, .int .i64 t211] 26 (0, 0)) (by (with_reducible repeat (first | refine blk_drewN ?_ _ | refine blk_drew ?_ | refine blk_alloc ?_ _)); exact BK213.out) hb); have n2_ := Aside0.mk (below_step (by repeat (first | (with_reducible first | exact HB.out | apply below_alloc | apply pw_below_drewN | apply below_drew1 | refine below_set ?_ GE206.out | refine below_set ?_ GE213.out) | exact HB.out)) hb); clear BK206; clear BK213; clear HB; have BK206 := n0_; have BK213 := n1_; have HB := n2_; clear n0_ n1_ n2_; (try clear hb); (try clear hb2); (try clear hk); (try clear hi); have hcz30_0 : w29.cell? ⟨gb206, 0, none⟩ = some (.int .i64 t200) := (blk_cell BK206.out 0).trans rfl; have hcz30_1 : w29.cell? ⟨gb206, 1, none⟩ = some (.int .i64 t201) := (blk_cell BK206.out 1).trans rfl; have hcz30_2 : w29.cell? ⟨gb206, 2, none⟩ = some (.int .i64 t202) := (blk_cell BK206.out 2).trans rfl; have hcz30_3 : w29.cell? ⟨gb206, 3, none⟩ = some (.int .i64 t203) := (blk_cell BK206.out 3).trans rfl; have hcz30_4 : w29.cell? ⟨gb206, 4, none⟩ = some (.int .i64 t204) := (blk_cell BK206.out 4).trans rfl; have hfz30_0 := blk_frozen BK206.out 0; have hfz30_1 := blk_frozen BK206.out 1; have hfz30_2 := blk_frozen BK206.out 2; have hfz30_3 := blk_frozen BK206.out 3; have hfz30_4 := blk_frozen BK206.out 4; have hcz31_0 : w29.cell? ⟨gb213, 0, none⟩ = some (.int .i64 t207) := (blk_cell BK213.out 0).trans rfl; have hcz31_1 : w29.cell? ⟨gb213, 1, none⟩ = some (.int .i64 t208) := (blk_cell BK213.out 1).trans rfl; have hcz31_2 : w29.cell? ⟨gb213, 2, none⟩ = some (.int .i64 t209) := (blk_cell BK213.out 2).trans rfl; have hcz31_3 : w29.cell? ⟨gb213, 3, none⟩ = some (.int .i64 t210) := (blk_cell BK213.out 3).trans rfl; have hcz31_4 : w29.cell? ⟨gb213, 4, none⟩ = some (.int .i64 t211) := (blk_cell BK213.out 4).trans rfl; have hfz31_0 := blk_frozen BK213.out 0; have hfz31_1 := blk_frozen BK213.out 1; have hfz31_2 := blk_frozen BK213.out 2; have hfz31_3 := blk_frozen BK213.out 3; have hfz31_4 := blk_frozen BK213.out 4) | ((with_reducible refine gate_callee (f := 16) rfl ?_); refine goesL_ (some 61) rfl rfl Tryd.func16 (by kernel_rfl) rfl #[.int .i64 a0, .slice A1 l1.length c1, .int .i64 a3] rfl (by (try simp only [List.map_toArray, List.map_cons, List.map_nil]); first | done | rfl | (simp only [List.length_drop, List.length_take]; rfl)) ?_; (with_reducible refine (capital_Redeem.calls k a0 _ _ l1 a3 t216 t217 t218 _ ?side1 ?side2 ?side3 A15.out).mono ?_); (case side1 => repeat (first | exact (Kd.C_below HR1.out HB.out) | (with_reducible refine Kd.C_alloc ?_ _) | (with_reducible refine Kd.C_drewN ?_ _) | (with_reducible refine Kd.C_drew ?_))); (case side2 => exact HC1.out); (case side3 => exact TabOk.below HT.out (by repeat (first | (with_reducible first | exact HB.out | apply below_alloc | apply pw_below_drewN | apply below_drew1 | refine below_set ?_ GE206.out | refine below_set ?_ GE213.out) | exact HB.out))); rintro e w32 ⟨rfl, hb⟩; refine ⟨_, rfl, ?_⟩; have n0_ := Aside0.mk (blk_below (g := gb206) (o := .cells #[.int .i64 t200, .int .i64 t201, .int .i64 t202, .int .i64 t203, .int .i64 t204] 26 (0, 0)) (by (with_reducible repeat (first | refine blk_drewN ?_ _ | refine blk_drew ?_ | refine blk_alloc ?_ _)); exact BK206.out) hb); have n1_ := Aside0.mk (blk_below (g := gb213) (o := .cells #[.int .i64 t207, .int .i64 t208, .int .i64 t209, .int .i64 t210, .int .i64 t211] 26 (0, 0)) (by (with_reducible repeat (first | refine blk_drewN ?_ _ | refine blk_drew ?_ | refine blk_alloc ?_ _)); exact BK213.out) hb); have n2_ := Aside0.mk (below_step (by repeat (first | (with_reducible first | exact HB.out | apply below_alloc | apply pw_below_drewN | apply below_drew1 | refine below_set ?_ GE206.out | refine below_set ?_ GE213.out) | exact HB.out)) hb); clear BK206; clear BK213; clear HB; have BK206 := n0_; have BK213 := n1_; have HB := n2_; clear n0_ n1_ n2_; (try clear hb); (try clear hb2); (try clear hk); (try clear hi)) | ((with_reducible refine gate_callee (f := 17) rfl ?_); refine goesL_ (some 69) rfl rfl Tryd.func17 (by kernel_rfl) rfl #[.int .i64 a0, .slice A1 l1.length c1, .int .i64 a3] rfl (by (try simp only [List.map_toArray, List.map_cons, List.map_nil]); first | done | rfl | (simp only [List.length_drop, List.length_take]; rfl)) ?_; (with_reducible refine (cohousingref32_Redeem.calls k a0 _ _ l1 a3 t219 t220 t221 _ ?side1 ?side2 A16.out).mono ?_); (case side1 => repeat (first | exact (Kd.C_below HR1.out HB.out) | (with_reducible refine Kd.C_alloc ?_ _) | (with_reducible refine Kd.C_drewN ?_ _) | (with_reducible refine Kd.C_drew ?_))); (case side2 => exact HC1.out); rintro e w33 ⟨rfl, hb⟩; refine ⟨_, rfl, ?_⟩; have n0_ := Aside0.mk (blk_below (g := gb206) (o := .cells #[.int .i64 t200, .int .i64 t201, .int .i64 t202, .int .i64 t203, .int .i64 t204] 26 (0, 0)) (by (with_reducible repeat (first | refine blk_drewN ?_ _ | refine blk_drew ?_ | refine blk_alloc ?_ _)); exact BK206.out) hb); have n1_ := Aside0.mk (blk_below (g := gb213) (o := .cells #[.int .i64 t207, .int .i64 t208, .int .i64 t209, .int .i64 t210, .int .i64 t211] 26 (0, 0)) (by (with_reducible repeat (first | refine blk_drewN ?_ _ | refine blk_drew ?_ | refine blk_alloc ?_ _)); exact BK213.out) hb); have n2_ := Aside0.mk (below_step (by repeat (first | (with_reducible first | exact HB.out | apply below_alloc | apply pw_below_drewN | apply below_drew1 | refine below_set ?_ GE206.out | refine below_set ?_ GE213.out) | exact HB.out)) hb); clear BK206; clear BK213; clear HB; have BK206 := n0_; have BK213 := n1_; have HB := n2_; clear n0_ n1_ n2_; (try clear hb); (try clear hb2); (try clear hk); (try clear hi)))
        go_ret
        exact ⟨by first | rfl | (simp [errW_none, errW_some] <;> rfl) | (simp [*, errW_none, errW_some] <;> rfl), by repeat (first | (with_reducible first | exact HB.out | apply below_alloc | apply pw_below_drewN | apply below_drew1 | refine below_set ?_ GE206.out | refine below_set ?_ GE213.out) | exact HB.out)⟩
       ·rw [if_neg c19] at H
        have c19b0 : (t217 == t220) = false := beq_eq_false_iff_ne.mpr c19
        have c19b1 : (t217 != t220) = true := bne_iff_ne.mpr c19
        exact absurd (hr.symm.trans (Option.some.inj H).symm) (by simp)
      ·rw [if_neg c18] at H
       have c18b0 : (t216 == t219) = false := beq_eq_false_iff_ne.mpr c18
       have c18b1 : (t216 != t219) = true := bne_iff_ne.mpr c18
       exact absurd (hr.symm.trans (Option.some.inj H).symm) (by simp)
     ·rw [if_neg c17] at H
      have c17b0 : (t205 == t212) = false := beq_eq_false_iff_ne.mpr c17
      have c17b1 : (t205 != t212) = true := bne_iff_ne.mpr c17
      exact absurd (hr.symm.trans (Option.some.inj H).symm) (by simp)
    ·rw [if_neg c14] at H
     have c14b0 : (t200 == t207 && (t201 == t208 && (t202 == t209 && (t203 == t210 && (t204 == t211))))) = false := by simpa using c14
     (try (have c14b1 : decide (t200 = t207 && (t201 == t208 && (t202 == t209 && (t203 == t210 && (t204 == t211))))) = false := by simpa using c14))
     (try (have c14b2 : (t200 == t207 && (t201 == t208 && (t202 == t209 && (t203 == t210 && (t204 == t211))))) = false := by simpa using c14))
     (try (have c14b3 : ¬ (t200 = t207 && (t201 == t208 && (t202 == t209 && (t203 == t210 && (t204 == t211))))) := by simpa using c14))
     clear c14
     replace H := Option.bind_eq_some_iff.mp H
     obtain ⟨⟨t222, t223, t224⟩, A760, H⟩ := H
     replace H : ((cohousingref32_Redeem.f k a0 l1 a3).bind fun bt225 => (some false)) = some r := H
     have A76 := Aside0.mk A760
     clear A760
     replace H := Option.bind_eq_some_iff.mp H
     obtain ⟨⟨t225, t226, t227⟩, A770, H⟩ := H
     replace H : (some false) = some r := H
     have A77 := Aside0.mk A770
     clear A770
     exact absurd (hr.symm.trans (Option.some.inj H).symm) (by simp)
   ·rw [if_neg c13] at H
    have c13b0 : (t214 == t215) = false := by simpa using c13
    (try (have c13b1 : decide (t214 = t215) = false := by simpa using c13))
    (try (have c13b2 : (t214 == t215) = false := by simpa using c13))
    (try (have c13b3 : ¬ (t214 = t215) := by simpa using c13))
    clear c13
    replace H := Option.bind_eq_some_iff.mp H
    obtain ⟨⟨t228, t229, t230⟩, A920, H⟩ := H
    replace H : ((cohousingref32_Redeem.f k a0 l1 a3).bind fun bt231 => (some false)) = some r := H
    have A92 := Aside0.mk A920
    clear A920
    replace H := Option.bind_eq_some_iff.mp H
    obtain ⟨⟨t231, t232, t233⟩, A930, H⟩ := H
    replace H : (some false) = some r := H
    have A93 := Aside0.mk A930
    clear A930
    exact absurd (hr.symm.trans (Option.some.inj H).symm) (by simp)
  ·replace c10 := Bool.eq_false_iff.mpr c10
   subst c10
   have H1 : ((capital_Redeem.f k a0 l1 a3).bind fun bt234 => ((cohousingref32_Redeem.f k a0 l1 a3).bind fun bt237 => (some false))) = some r := by rw [if_neg (show ¬ (false = true) by decide)] at H; exact H
   clear H
   have H := H1
   clear H1
   replace H := Option.bind_eq_some_iff.mp H
   obtain ⟨⟨t234, t235, t236⟩, A1060, H⟩ := H
   replace H : ((cohousingref32_Redeem.f k a0 l1 a3).bind fun bt237 => (some false)) = some r := H
   have A106 := Aside0.mk A1060
   clear A1060
   replace H := Option.bind_eq_some_iff.mp H
   obtain ⟨⟨t237, t238, t239⟩, A1070, H⟩ := H
   replace H : (some false) = some r := H
   have A107 := Aside0.mk A1070
   clear A1070
   exact absurd (hr.symm.trans (Option.some.inj H).symm) (by simp)
 ·replace c7 := Bool.eq_false_iff.mpr c7
  subst c7
  have H1 : (some t198) = some r := by rw [if_neg (show ¬ (false = true) by decide)] at H; exact H
  clear H
  have H := H1
  clear H1
  obtain rfl := Option.some.inj H
  go_enter Tryd.func3, Tryd.ntmps3
  go_wp2_with (first | ((with_reducible refine gate_callee (f := 10) rfl ?_); refine goesL_ (some 20) rfl rfl Tryd.func10 (by kernel_rfl) rfl #[] rfl (by (try simp only [List.map_toArray, List.map_cons, List.map_nil]); first | done | rfl | (simp only [List.length_drop, List.length_take]; rfl)) ?_; (with_reducible refine (cohousinglaw32_head.calls k  t198 _ ?side1 A5.out).mono ?_); (case side1 => exact TabOk.below HT.out (by repeat (first | (with_reducible first | exact HB.out | apply below_alloc | apply pw_below_drewN | apply below_drew1) | exact HB.out))); rintro e w118 ⟨rfl, hb⟩; refine ⟨_, rfl, ?_⟩; have n0_ := Aside0.mk (below_step (by repeat (first | (with_reducible first | exact HB.out | apply below_alloc | apply pw_below_drewN | apply below_drew1) | exact HB.out)) hb); clear HB; have HB := n0_; clear n0_; (try clear hb); (try clear hb2); (try clear hk); (try clear hi)) | ((with_reducible refine gate_callee (f := 11) rfl ?_); refine goesL_ (some 22) rfl rfl Tryd.func11 (by kernel_rfl) rfl #[.slice A1 l1.length c1] rfl (by (try simp only [List.map_toArray, List.map_cons, List.map_nil]); first | done | rfl | (simp only [List.length_drop, List.length_take]; rfl)) ?_; (with_reducible refine (cohousingref32_Few.calls _ _ l1 false _ ?side1 ?side2 A6.out).mono ?_); (case side1 => repeat (first | exact (Kd.C_below HR1.out HB.out) | (with_reducible refine Kd.C_alloc ?_ _) | (with_reducible refine Kd.C_drewN ?_ _) | (with_reducible refine Kd.C_drew ?_))); (case side2 => exact HC1.out); rintro e w' ⟨rfl, ⟨nd, rfl⟩⟩; refine ⟨_, rfl, ?_⟩))
  go_ret
  exact ⟨by first | rfl | (simp [errW_none, errW_some] <;> rfl) | (simp [*, errW_none, errW_some] <;> rfl), by repeat (first | (with_reducible first | exact HB.out | apply below_alloc | apply pw_below_drewN | apply below_drew1) | exact HB.out)⟩

end Go.Proofs.YtdhnojfpgpjabaaDoor.P
