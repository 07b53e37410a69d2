-- Written by a program of this session out of the translation (wip/pp: the kit's print, turned). Not trusted: Lean checks it.
import Derived.Test.YtolgpnbjjehdiaaDoorPx0
import Derived.Test.YtolgpnbjjehdiaaDoorPx1
import Derived.Test.YtolgpnbjjehdiaaDoorPx2
import Derived.Test.YtolgpnbjjehdiaaDoorPx12
import Derived.Test.YtolgpnbjjehdiaaDoorXcheck
import Derived.Test.YtolgpnbjjehdiaaDoorXhead6
namespace Go.Proofs.YtolgpnbjjehdiaaDoor.P
open Go.RowKit Go.Proofs.YtolgpnbjjehdiaaDoorW.PrintWords Go.Proofs.YtolgpnbjjehdiaaDoorW.PrintLast Go.Proofs.YtolgpnbjjehdiaaDoorW.PrintMore
attribute [local go_sem] max2_int min2_int max_two min_two max_three min_three max_four min_four   -- for this text's walks alone
set_option linter.unusedVariables false
set_option linter.unusedSimpArgs false

/-! ### cohousinglaw06_DigestBinding: function 8 -/
mutual
def cohousinglaw06_DigestBinding.j0 : Nat → List Int → Int → Int → List Int → Bool → Bool → Option (Bool)
 | 0, _, _, _, _, _, _ => none
 | k + 1, x0, x1, x2, x3, x9, x23 => if x23 = true then (some x9) else (if (x0.length : Int) = 0 then (none) else ((digest_Root.f k x0).bind fun bt376 => ((digest_Path.f k x0 (Int.tmod (wrap64 ((Int.tmod x1 (x0.length : Int)) + (x0.length : Int))) (x0.length : Int))).bind fun bt378 => (if bt376.2 = 0 then (cohousinglaw06_DigestBinding.j1 k x0 x2 x3 x9 (Int.tmod (wrap64 ((Int.tmod x1 (x0.length : Int)) + (x0.length : Int))) (x0.length : Int)) bt376.1 bt378.1 (bt378.2 != 0)) else (cohousinglaw06_DigestBinding.j1 k x0 x2 x3 x9 (Int.tmod (wrap64 ((Int.tmod x1 (x0.length : Int)) + (x0.length : Int))) (x0.length : Int)) bt376.1 bt378.1 true)))))
def cohousinglaw06_DigestBinding.j1 : Nat → List Int → Int → List Int → Bool → Int → Int → List Int → Bool → Option (Bool)
 | 0, _, _, _, _, _, _, _, _ => none
 | k + 1, x0, x2, x3, x9, x10, x11, x13, x51 => if x51 = true then (some false) else ((digest_Check.f k x11 x2 x10 (x0.length : Int) x3).bind fun t382 => (if t382 = true then (if 0 ≤ x10 then (if x10 < (x0.length : Int) then (if x2 = (rd x0 x10) then ((cohousingref06_Same.f k x3 x13).bind fun t384 => (if t384 = true then (some x9) else (if x9 = true then (if (x3.length : Int) = (x13.length : Int) then ((cohousinglaw06_clash.f k x2 (rd x0 x10) x10 (x0.length : Int) x3 x13).bind fun t386 => (some t386)) else (some false)) else (some false)))) else (if x9 = true then (if (x3.length : Int) = (x13.length : Int) then ((cohousinglaw06_clash.f k x2 (rd x0 x10) x10 (x0.length : Int) x3 x13).bind fun t388 => (some t388)) else (some false)) else (some false))) else (none)) else (none)) else (some x9)))
end
def cohousinglaw06_DigestBinding.f (k : Nat) (l0 : List Int) (a1 : Int) (a2 : Int) (l3 : List Int) : Option (Bool) := (cohousinglaw06_head.f).bind fun t375 => (if (l0.length : Int) = 0 then (cohousinglaw06_DigestBinding.j0 k l0 a1 a2 l3 t375 true) else (cohousinglaw06_DigestBinding.j0 k l0 a1 a2 l3 t375 (decide ((l0.length : Int) > 1024))))
theorem cohousinglaw06_DigestBinding.mono_l : ∀ k, (∀ y0 y1 y2 y3 y4 y5, LeO (cohousinglaw06_DigestBinding.j0 k y0 y1 y2 y3 y4 y5) (cohousinglaw06_DigestBinding.j0 (k + 1) y0 y1 y2 y3 y4 y5)) ∧ (∀ y0 y1 y2 y3 y4 y5 y6 y7, LeO (cohousinglaw06_DigestBinding.j1 k y0 y1 y2 y3 y4 y5 y6 y7) (cohousinglaw06_DigestBinding.j1 (k + 1) y0 y1 y2 y3 y4 y5 y6 y7))
 | 0 => ⟨fun _ _ _ _ _ _ r h => by simp [cohousinglaw06_DigestBinding.j0] at h, fun _ _ _ _ _ _ _ _ r h => by simp [cohousinglaw06_DigestBinding.j1] at h⟩
 | k + 1 => by
  obtain ⟨ih0, ih1⟩ := cohousinglaw06_DigestBinding.mono_l k
  refine ⟨?_, ?_⟩
  ·intro y0 y1 y2 y3 y4 y5
   unfold cohousinglaw06_DigestBinding.j0
   repeat' first
   | (with_reducible exact ih0 _ _ _ _ _ _)
   | (with_reducible exact ih1 _ _ _ _ _ _ _ _)
   | (with_reducible exact cohousinglaw06_clash.mono _ _ _ _ _ _ _)
   | (with_reducible exact cohousingref06_Same.mono _ _ _)
   | (with_reducible exact digest_Check.mono _ _ _ _ _ _)
   | (with_reducible exact digest_Path.mono _ _ _)
   | (with_reducible exact digest_Root.mono _ _)
   | (with_reducible exact LeO.refl _)
   | (with_reducible exact LeO.none _)
   | (with_reducible refine LeO.ite ?_ ?_)
   | (with_reducible refine LeO.bind ?_ (fun _ => ?_))
   | exact ih0 _ _ _ _ _ _
   | exact ih1 _ _ _ _ _ _ _ _
   | exact cohousinglaw06_clash.mono _ _ _ _ _ _ _
   | exact cohousingref06_Same.mono _ _ _
   | exact digest_Check.mono _ _ _ _ _ _
   | exact digest_Path.mono _ _ _
   | exact digest_Root.mono _ _
   | exact LeO.none _
   | refine LeO.ite ?_ ?_
   | refine LeO.bind ?_ (fun _ => ?_)
  ·intro y0 y1 y2 y3 y4 y5 y6 y7
   unfold cohousinglaw06_DigestBinding.j1
   repeat' first
   | (with_reducible exact ih0 _ _ _ _ _ _)
   | (with_reducible exact ih1 _ _ _ _ _ _ _ _)
   | (with_reducible exact cohousinglaw06_clash.mono _ _ _ _ _ _ _)
   | (with_reducible exact cohousingref06_Same.mono _ _ _)
   | (with_reducible exact digest_Check.mono _ _ _ _ _ _)
   | (with_reducible exact digest_Path.mono _ _ _)
   | (with_reducible exact digest_Root.mono _ _)
   | (with_reducible exact LeO.refl _)
   | (with_reducible exact LeO.none _)
   | (with_reducible refine LeO.ite ?_ ?_)
   | (with_reducible refine LeO.bind ?_ (fun _ => ?_))
   | exact ih0 _ _ _ _ _ _
   | exact ih1 _ _ _ _ _ _ _ _
   | exact cohousinglaw06_clash.mono _ _ _ _ _ _ _
   | exact cohousingref06_Same.mono _ _ _
   | exact digest_Check.mono _ _ _ _ _ _
   | exact digest_Path.mono _ _ _
   | exact digest_Root.mono _ _
   | exact LeO.none _
   | refine LeO.ite ?_ ?_
   | refine LeO.bind ?_ (fun _ => ?_)
theorem cohousinglaw06_DigestBinding.mono : ∀ a0 a1 a2 a3 k, LeO (cohousinglaw06_DigestBinding.f k a0 a1 a2 a3) (cohousinglaw06_DigestBinding.f (k + 1) a0 a1 a2 a3) := by
 intro a0 a1 a2 a3 k
 obtain ⟨ih0, ih1⟩ := cohousinglaw06_DigestBinding.mono_l k
 unfold cohousinglaw06_DigestBinding.f
 repeat' first
   | (with_reducible exact ih0 _ _ _ _ _ _)
   | (with_reducible exact ih1 _ _ _ _ _ _ _ _)
   | (with_reducible exact cohousinglaw06_clash.mono _ _ _ _ _ _ _)
   | (with_reducible exact cohousingref06_Same.mono _ _ _)
   | (with_reducible exact digest_Check.mono _ _ _ _ _ _)
   | (with_reducible exact digest_Path.mono _ _ _)
   | (with_reducible exact digest_Root.mono _ _)
   | (with_reducible exact LeO.refl _)
   | (with_reducible exact LeO.none _)
   | (with_reducible refine LeO.ite ?_ ?_)
   | (with_reducible refine LeO.bind ?_ (fun _ => ?_))
   | exact ih0 _ _ _ _ _ _
   | exact ih1 _ _ _ _ _ _ _ _
   | exact cohousinglaw06_clash.mono _ _ _ _ _ _ _
   | exact cohousingref06_Same.mono _ _ _
   | exact digest_Check.mono _ _ _ _ _ _
   | exact digest_Path.mono _ _ _
   | exact digest_Root.mono _ _
   | exact LeO.none _
   | refine LeO.ite ?_ ?_
   | refine LeO.bind ?_ (fun _ => ?_)
set_option maxHeartbeats 8000000 in
set_option maxRecDepth 100000 in
theorem cohousinglaw06_DigestBinding.calls (k : Nat) (A0 : Option Addr) (c0 : Nat) (l0 : List Int) (a1 : Int) (a2 : Int) (A3 : Option Addr) (c3 : Nat) (l3 : List Int) (r : Bool) (w : World) (hr0 : Kd.C (Kd.int .u64) w A0 l0.length l0) (hc0 : l0.length ≤ c0) (hr3 : Kd.C (Kd.int .u64) w A3 l3.length l3) (hc3 : l3.length ≤ c3) (hT : TabOk w) (h : cohousinglaw06_DigestBinding.f k l0 a1 a2 l3 = some r) :
  Calls Tryd.prog 8 #[.slice A0 l0.length c0, .int .i64 a1, .int .u64 a2, .slice A3 l3.length c3] w fun e w' => e = .returned (.bool r) ∧ Below w.heap.size w w' := by
 have HR0 := Aside0.mk hr0
 have HC0 := Aside0.mk hc0
 clear hr0 hc0
 have HR3 := Aside0.mk hr3
 have HC3 := Aside0.mk hc3
 clear hr3 hc3
 have HT := Aside0.mk hT
 clear hT
 have HB := Aside0.mk (Below.refl w.heap.size w)
 have H : ((cohousinglaw06_head.f).bind fun t375 => (if (l0.length : Int) = 0 then (cohousinglaw06_DigestBinding.j0 k l0 a1 a2 l3 t375 true) else (cohousinglaw06_DigestBinding.j0 k l0 a1 a2 l3 t375 (decide ((l0.length : Int) > 1024))))) = some r := h
 clear h
 replace H := Option.bind_eq_some_iff.mp H
 obtain ⟨t375, A50, H⟩ := H
 replace H : (if (l0.length : Int) = 0 then (cohousinglaw06_DigestBinding.j0 k l0 a1 a2 l3 t375 true) else (cohousinglaw06_DigestBinding.j0 k l0 a1 a2 l3 t375 (decide ((l0.length : Int) > 1024)))) = some r := H
 have A5 := Aside0.mk A50
 clear A50
 have HC6 := Aside0.mk H
 clear H
 go_enter Tryd.func8, Tryd.ntmps8
 go_upto_region 2 with (first | ((with_reducible refine gate_callee (f := 10) rfl ?_); refine goesL_ (some 15) rfl rfl Tryd.func10 (by kernel_rfl) rfl #[] rfl (by (try simp only [List.map_toArray, List.map_cons, List.map_nil]); first | done | rfl | (simp only [List.length_drop, List.length_take]; rfl)) ?_; (with_reducible refine (cohousinglaw06_head.calls  t375 _ ?side1 A5.out).mono ?_); (case side1 => exact TabOk.below HT.out (by repeat (first | (with_reducible first | exact HB.out | apply below_alloc | apply pw_below_drewN | apply below_drew1) | exact HB.out))); rintro e w7 ⟨rfl, hb⟩; refine ⟨_, rfl, ?_⟩; have n0_ := Aside0.mk (below_step (by repeat (first | (with_reducible first | exact HB.out | apply below_alloc | apply pw_below_drewN | apply below_drew1) | exact HB.out)) hb); clear HB; have HB := n0_; clear n0_; (try clear hb); (try clear hb2); (try clear hk); (try clear hi)))
 (try simp only [Act.put, List.setIfInBounds_toArray, List.set_cons_zero, List.set_cons_succ])
 go_cut [23] (fun v23 wc => ∃ (kq : Nat) (x23_5 : Bool), v23 = .bool x23_5 ∧ Aside0 (cohousinglaw06_DigestBinding.j0 kq l0 a1 a2 l3 t375 x23_5 = some r) ∧ Aside0 (kq ≤ k) ∧ Aside0 (Below w.heap.size w wc))
 case first =>
  have H := HC6.out
  clear HC6
  by_cases c8 : (l0.length : Int) = 0
  ·rw [if_pos c8] at H
   have c8b0 : ((l0.length : Int) == 0) = true := beq_iff_eq.mpr c8
   have c8b1 : ((l0.length : Int) != 0) = false := bne_eq_false_iff_eq.mpr c8
   clear c8
   (first | rw [c8b0] | (simp only [i64_w, i32_w]; rw [c8b0]) | skip)
   have H' := Aside0.mk H
   clear H
   go_wp2
   go_meet
   case rel => exact ⟨_, (true), (by first | rfl | (simp; done) | (simp [*]; done)), H', ⟨by first | omega | exact Nat.le_refl _⟩, ⟨by repeat (first | (with_reducible first | exact HB.out | apply below_alloc | apply pw_below_drewN | apply below_drew1) | exact HB.out)⟩⟩
  ·rw [if_neg c8] at H
   have c8b0 : ((l0.length : Int) == 0) = false := beq_eq_false_iff_ne.mpr c8
   have c8b1 : ((l0.length : Int) != 0) = true := bne_iff_ne.mpr c8
   have c8b2 : ¬ (l0 = []) := fun h_ => c8 (by rw [h_]; rfl)
   (first | rw [c8b0] | (simp only [i64_w, i32_w]; rw [c8b0]) | skip)
   have H' := Aside0.mk H
   clear H
   go_wp2
   go_meet
   case rel => exact ⟨_, (decide ((l0.length : Int) > 1024)), (by first | rfl | (simp; done) | (simp [*]; done)), H', ⟨by first | omega | exact Nat.le_refl _⟩, ⟨by repeat (first | (with_reducible first | exact HB.out | apply below_alloc | apply pw_below_drewN | apply below_drew1) | exact HB.out)⟩⟩
 case rest =>
  clear HC6
  try clear c1
  try clear p2
  try clear c3
  try clear c8
  try clear c8b0
  try clear c8b1
  try clear c8b2
  obtain ⟨kq, x23_5, rfl, HA, HJ5, HB⟩ := hcut
  cases kq with
  | zero => exact absurd HA.out (by simp [cohousinglaw06_DigestBinding.j0])
  | succ kj5 =>
   have H := HA.out
   clear HA
   simp only [cohousinglaw06_DigestBinding.j0] at H
   by_cases c9 : x23_5 = true
   ·subst c9
    have H1 : (some t375) = some r := by rw [if_pos rfl] at H; exact H
    clear H
    have H := H1
    clear H1
    obtain rfl := Option.some.inj H
    go_wp2
    go_ret
    exact ⟨by first | rfl | (simp [errW_none, errW_some] <;> rfl) | (simp [*, errW_none, errW_some] <;> rfl), by repeat (first | (with_reducible first | exact HB.out | apply below_alloc | apply pw_below_drewN | apply below_drew1) | exact HB.out)⟩
   ·replace c9 := Bool.eq_false_iff.mpr c9
    subst c9
    have H1 : (if (l0.length : Int) = 0 then (none) else ((digest_Root.f kj5 l0).bind fun bt376 => ((digest_Path.f kj5 l0 (Int.tmod (wrap64 ((Int.tmod a1 (l0.length : Int)) + (l0.length : Int))) (l0.length : Int))).bind fun bt378 => (if bt376.2 = 0 then (cohousinglaw06_DigestBinding.j1 kj5 l0 a2 l3 t375 (Int.tmod (wrap64 ((Int.tmod a1 (l0.length : Int)) + (l0.length : Int))) (l0.length : Int)) bt376.1 bt378.1 (bt378.2 != 0)) else (cohousinglaw06_DigestBinding.j1 kj5 l0 a2 l3 t375 (Int.tmod (wrap64 ((Int.tmod a1 (l0.length : Int)) + (l0.length : Int))) (l0.length : Int)) bt376.1 bt378.1 true))))) = some r := by rw [if_neg (show ¬ (false = true) by decide)] at H; exact H
    clear H
    have H := H1
    clear H1
    by_cases c10 : (l0.length : Int) = 0
    ·rw [if_pos c10] at H
     exact absurd H (by simp)
    ·rw [if_neg c10] at H
     have c10b0 : ((l0.length : Int) == 0) = false := beq_eq_false_iff_ne.mpr c10
     have c10b1 : ((l0.length : Int) != 0) = true := bne_iff_ne.mpr c10
     have c10b2 : ¬ (l0 = []) := fun h_ => c10 (by rw [h_]; rfl)
     replace H := Option.bind_eq_some_iff.mp H
     obtain ⟨⟨t376, t377⟩, A110, H⟩ := H
     replace H : ((digest_Path.f kj5 l0 (Int.tmod (wrap64 ((Int.tmod a1 (l0.length : Int)) + (l0.length : Int))) (l0.length : Int))).bind fun bt378 => (if t377 = 0 then (cohousinglaw06_DigestBinding.j1 kj5 l0 a2 l3 t375 (Int.tmod (wrap64 ((Int.tmod a1 (l0.length : Int)) + (l0.length : Int))) (l0.length : Int)) t376 bt378.1 (bt378.2 != 0)) else (cohousinglaw06_DigestBinding.j1 kj5 l0 a2 l3 t375 (Int.tmod (wrap64 ((Int.tmod a1 (l0.length : Int)) + (l0.length : Int))) (l0.length : Int)) t376 bt378.1 true))) = some r := H
     have A11 := Aside0.mk A110
     clear A110
     replace H := Option.bind_eq_some_iff.mp H
     obtain ⟨⟨t378, t379⟩, A120, H⟩ := H
     replace H : (if t377 = 0 then (cohousinglaw06_DigestBinding.j1 kj5 l0 a2 l3 t375 (Int.tmod (wrap64 ((Int.tmod a1 (l0.length : Int)) + (l0.length : Int))) (l0.length : Int)) t376 t378 (t379 != 0)) else (cohousinglaw06_DigestBinding.j1 kj5 l0 a2 l3 t375 (Int.tmod (wrap64 ((Int.tmod a1 (l0.length : Int)) + (l0.length : Int))) (l0.length : Int)) t376 t378 true)) = some r := H
     have A12 := Aside0.mk A120
     clear A120
     have HC13 := Aside0.mk H
     clear H
     go_upto_region 7 with (first | ((with_reducible refine gate_callee (f := 15) rfl ?_); refine goesL_ (some 37) rfl rfl Tryd.func15 (by kernel_rfl) rfl #[.slice A0 l0.length c0] rfl (by (try simp only [List.map_toArray, List.map_cons, List.map_nil]); first | done | rfl | (simp only [List.length_drop, List.length_take]; rfl)) ?_; (with_reducible refine (digest_Root.calls kj5 _ _ l0 t376 t377 _ ?side1 ?side2 A11.out).mono ?_); (case side1 => repeat (first | exact (Kd.C_below HR0.out HB.out) | (with_reducible refine Kd.C_alloc ?_ _) | (with_reducible refine Kd.C_drewN ?_ _) | (with_reducible refine Kd.C_drew ?_))); (case side2 => exact HC0.out); rintro e w14 ⟨rfl, hb⟩; refine ⟨_, rfl, ?_⟩; have n0_ := Aside0.mk (below_step (by repeat (first | (with_reducible first | exact HB.out | apply below_alloc | apply pw_below_drewN | apply below_drew1) | exact HB.out)) hb); clear HB; have HB := n0_; clear n0_; (try clear hb); (try clear hb2); (try clear hk); (try clear hi)) | ((with_reducible refine gate_callee (f := 17) rfl ?_); refine goesL_ (some 43) rfl rfl Tryd.func17 (by kernel_rfl) rfl #[.slice A0 l0.length c0, .int .i64 (Int.tmod (wrap64 ((Int.tmod a1 (l0.length : Int)) + (l0.length : Int))) (l0.length : Int))] rfl (by (try simp only [List.map_toArray, List.map_cons, List.map_nil]); first | done | rfl | (simp only [List.length_drop, List.length_take]; rfl)) ?_; (with_reducible refine (digest_Path.calls kj5 _ _ l0 (Int.tmod (wrap64 ((Int.tmod a1 (l0.length : Int)) + (l0.length : Int))) (l0.length : Int)) t378 t379 _ ?side1 ?side2 A12.out).mono ?_); (case side1 => repeat (first | exact (Kd.C_below HR0.out HB.out) | (with_reducible refine Kd.C_alloc ?_ _) | (with_reducible refine Kd.C_drewN ?_ _) | (with_reducible refine Kd.C_drew ?_))); (case side2 => exact HC0.out); rintro e w15 ⟨v380, rfl, ho0, hb⟩; refine ⟨_, rfl, ?_⟩; have n0_ := Aside0.mk (Kd.R_lower ho0 (below_size (by repeat (first | (with_reducible first | exact HB.out | apply below_alloc | apply pw_below_drewN | apply below_drew1) | exact HB.out)))); have n1_ := Aside0.mk (below_step (by repeat (first | (with_reducible first | exact HB.out | apply below_alloc | apply pw_below_drewN | apply below_drew1) | exact HB.out)) hb); clear HB; have HO381 := n0_; have HB := n1_; clear n0_ n1_; (try clear hb); (try clear hb2); (try clear hk); (try clear hi); (try clear ho0)))
     (try simp only [Act.put, List.setIfInBounds_toArray, List.set_cons_zero, List.set_cons_succ])
     go_cut [51] (fun v51 wc => ∃ (kq : Nat) (x51_12 : Bool), v51 = .bool x51_12 ∧ Aside0 (cohousinglaw06_DigestBinding.j1 kq l0 a2 l3 t375 (Int.tmod (wrap64 ((Int.tmod a1 (l0.length : Int)) + (l0.length : Int))) (l0.length : Int)) t376 t378 x51_12 = some r) ∧ Aside0 (kq ≤ kj5) ∧ Aside0 (Kd.R (Kd.int .u64) 25 wc w.heap.size (fun _ => True) v380 t378) ∧ Aside0 (Below w.heap.size w wc))
     case first =>
      have H := HC13.out
      clear HC13
      by_cases c16 : t377 = 0
      ·rw [if_pos c16] at H
       have c16b0 : (t377 == 0) = true := beq_iff_eq.mpr c16
       have c16b1 : (t377 != 0) = false := bne_eq_false_iff_eq.mpr c16
       clear c16
       (first | rw [c16b0] | (simp only [i64_w, i32_w]; rw [c16b0]) | skip)
       have H' := Aside0.mk H
       clear H
       go_wp2
       go_meet
       case rel => exact ⟨_, ((t379 != 0)), (by first | rfl | (simp; done) | (simp [*]; done)), H', ⟨by have := HJ5.out; first | omega | exact Nat.le_refl _⟩, ⟨by (with_reducible repeat (first | apply Kd.R_alloc | apply Kd.R_drewN | apply Kd.R_drew)); exact HO381.out⟩, ⟨by repeat (first | (with_reducible first | exact HB.out | apply below_alloc | apply pw_below_drewN | apply below_drew1) | exact HB.out)⟩⟩
      ·rw [if_neg c16] at H
       have c16b0 : (t377 == 0) = false := beq_eq_false_iff_ne.mpr c16
       have c16b1 : (t377 != 0) = true := bne_iff_ne.mpr c16
       (first | rw [c16b0] | (simp only [i64_w, i32_w]; rw [c16b0]) | skip)
       have H' := Aside0.mk H
       clear H
       go_wp2
       go_meet
       case rel => exact ⟨_, (true), (by first | rfl | (simp; done) | (simp [*]; done)), H', ⟨by have := HJ5.out; first | omega | exact Nat.le_refl _⟩, ⟨by (with_reducible repeat (first | apply Kd.R_alloc | apply Kd.R_drewN | apply Kd.R_drew)); exact HO381.out⟩, ⟨by repeat (first | (with_reducible first | exact HB.out | apply below_alloc | apply pw_below_drewN | apply below_drew1) | exact HB.out)⟩⟩
     case rest =>
      clear HC13
      try clear c1
      try clear p2
      try clear c3
      try clear p6
      try clear c8
      try clear c8b0
      try clear c8b1
      try clear c8b2
      try clear c9
      try clear c10
      try clear c10b0
      try clear c10b1
      try clear c10b2
      try clear c15
      try clear c16
      try clear c16b0
      try clear c16b1
      try clear p2
      obtain ⟨kq, x51_12, rfl, HA, HJ12, HO_13, HB⟩ := hcut
      cases kq with
      | zero => exact absurd HA.out (by simp [cohousinglaw06_DigestBinding.j1])
      | succ kj12 =>
       have H := HA.out
       clear HA
       simp only [cohousinglaw06_DigestBinding.j1] at H
       by_cases c17 : x51_12 = true
       ·subst c17
        have H1 : (some false) = some r := by rw [if_pos rfl] at H; exact H
        clear H
        have H := H1
        clear H1
        obtain rfl := Option.some.inj H
        go_wp2
        go_ret
        exact ⟨by first | rfl | (simp [errW_none, errW_some] <;> rfl) | (simp [*, errW_none, errW_some] <;> rfl), by repeat (first | (with_reducible first | exact HB.out | apply below_alloc | apply pw_below_drewN | apply below_drew1) | exact HB.out)⟩
       ·replace c17 := Bool.eq_false_iff.mpr c17
        subst c17
        have H1 : ((digest_Check.f kj12 t376 a2 (Int.tmod (wrap64 ((Int.tmod a1 (l0.length : Int)) + (l0.length : Int))) (l0.length : Int)) (l0.length : Int) l3).bind fun t382 => (if t382 = true then (if 0 ≤ (Int.tmod (wrap64 ((Int.tmod a1 (l0.length : Int)) + (l0.length : Int))) (l0.length : Int)) then (if (Int.tmod (wrap64 ((Int.tmod a1 (l0.length : Int)) + (l0.length : Int))) (l0.length : Int)) < (l0.length : Int) then (if a2 = (rd l0 (Int.tmod (wrap64 ((Int.tmod a1 (l0.length : Int)) + (l0.length : Int))) (l0.length : Int))) then ((cohousingref06_Same.f kj12 l3 t378).bind fun t384 => (if t384 = true then (some t375) else (if t375 = true then (if (l3.length : Int) = (t378.length : Int) then ((cohousinglaw06_clash.f kj12 a2 (rd l0 (Int.tmod (wrap64 ((Int.tmod a1 (l0.length : Int)) + (l0.length : Int))) (l0.length : Int))) (Int.tmod (wrap64 ((Int.tmod a1 (l0.length : Int)) + (l0.length : Int))) (l0.length : Int)) (l0.length : Int) l3 t378).bind fun t386 => (some t386)) else (some false)) else (some false)))) else (if t375 = true then (if (l3.length : Int) = (t378.length : Int) then ((cohousinglaw06_clash.f kj12 a2 (rd l0 (Int.tmod (wrap64 ((Int.tmod a1 (l0.length : Int)) + (l0.length : Int))) (l0.length : Int))) (Int.tmod (wrap64 ((Int.tmod a1 (l0.length : Int)) + (l0.length : Int))) (l0.length : Int)) (l0.length : Int) l3 t378).bind fun t388 => (some t388)) else (some false)) else (some false))) else (none)) else (none)) else (some t375))) = some r := by rw [if_neg (show ¬ (false = true) by decide)] at H; exact H
        clear H
        have H := H1
        clear H1
        replace H := Option.bind_eq_some_iff.mp H
        obtain ⟨t382, A180, H⟩ := H
        replace H : (if t382 = true then (if 0 ≤ (Int.tmod (wrap64 ((Int.tmod a1 (l0.length : Int)) + (l0.length : Int))) (l0.length : Int)) then (if (Int.tmod (wrap64 ((Int.tmod a1 (l0.length : Int)) + (l0.length : Int))) (l0.length : Int)) < (l0.length : Int) then (if a2 = (rd l0 (Int.tmod (wrap64 ((Int.tmod a1 (l0.length : Int)) + (l0.length : Int))) (l0.length : Int))) then ((cohousingref06_Same.f kj12 l3 t378).bind fun t384 => (if t384 = true then (some t375) else (if t375 = true then (if (l3.length : Int) = (t378.length : Int) then ((cohousinglaw06_clash.f kj12 a2 (rd l0 (Int.tmod (wrap64 ((Int.tmod a1 (l0.length : Int)) + (l0.length : Int))) (l0.length : Int))) (Int.tmod (wrap64 ((Int.tmod a1 (l0.length : Int)) + (l0.length : Int))) (l0.length : Int)) (l0.length : Int) l3 t378).bind fun t386 => (some t386)) else (some false)) else (some false)))) else (if t375 = true then (if (l3.length : Int) = (t378.length : Int) then ((cohousinglaw06_clash.f kj12 a2 (rd l0 (Int.tmod (wrap64 ((Int.tmod a1 (l0.length : Int)) + (l0.length : Int))) (l0.length : Int))) (Int.tmod (wrap64 ((Int.tmod a1 (l0.length : Int)) + (l0.length : Int))) (l0.length : Int)) (l0.length : Int) l3 t378).bind fun t388 => (some t388)) else (some false)) else (some false))) else (none)) else (none)) else (some t375)) = some r := H
        have A18 := Aside0.mk A180
        clear A180
        by_cases c19 : t382 = true
        ·subst c19
         have H1 : (if 0 ≤ (Int.tmod (wrap64 ((Int.tmod a1 (l0.length : Int)) + (l0.length : Int))) (l0.length : Int)) then (if (Int.tmod (wrap64 ((Int.tmod a1 (l0.length : Int)) + (l0.length : Int))) (l0.length : Int)) < (l0.length : Int) then (if a2 = (rd l0 (Int.tmod (wrap64 ((Int.tmod a1 (l0.length : Int)) + (l0.length : Int))) (l0.length : Int))) then ((cohousingref06_Same.f kj12 l3 t378).bind fun t384 => (if t384 = true then (some t375) else (if t375 = true then (if (l3.length : Int) = (t378.length : Int) then ((cohousinglaw06_clash.f kj12 a2 (rd l0 (Int.tmod (wrap64 ((Int.tmod a1 (l0.length : Int)) + (l0.length : Int))) (l0.length : Int))) (Int.tmod (wrap64 ((Int.tmod a1 (l0.length : Int)) + (l0.length : Int))) (l0.length : Int)) (l0.length : Int) l3 t378).bind fun t386 => (some t386)) else (some false)) else (some false)))) else (if t375 = true then (if (l3.length : Int) = (t378.length : Int) then ((cohousinglaw06_clash.f kj12 a2 (rd l0 (Int.tmod (wrap64 ((Int.tmod a1 (l0.length : Int)) + (l0.length : Int))) (l0.length : Int))) (Int.tmod (wrap64 ((Int.tmod a1 (l0.length : Int)) + (l0.length : Int))) (l0.length : Int)) (l0.length : Int) l3 t378).bind fun t388 => (some t388)) else (some false)) else (some false))) else (none)) else (none)) = some r := by rw [if_pos rfl] at H; exact H
         clear H
         have H := H1
         clear H1
         obtain ⟨ji20, hji20⟩ : ∃ j_ : Int, (Int.tmod (wrap64 ((Int.tmod a1 (l0.length : Int)) + (l0.length : Int))) (l0.length : Int)) = j_ := ⟨_, rfl⟩
         replace H : (if 0 ≤ (ji20) then (if (ji20) < (l0.length : Int) then (if a2 = (rd l0 (ji20)) then ((cohousingref06_Same.f kj12 l3 t378).bind fun t384 => (if t384 = true then (some t375) else (if t375 = true then (if (l3.length : Int) = (t378.length : Int) then ((cohousinglaw06_clash.f kj12 a2 (rd l0 (ji20)) (ji20) (l0.length : Int) l3 t378).bind fun t386 => (some t386)) else (some false)) else (some false)))) else (if t375 = true then (if (l3.length : Int) = (t378.length : Int) then ((cohousinglaw06_clash.f kj12 a2 (rd l0 (ji20)) (ji20) (l0.length : Int) l3 t378).bind fun t388 => (some t388)) else (some false)) else (some false))) else (none)) else (none)) = some r := by first | (rw [hji20] at H; exact H) | (simp only [hji20] at H ⊢; exact H)
         (try rw [hji20] at A18)
         by_cases c21 : 0 ≤ (ji20)
         ·rw [if_pos c21] at H
          have c21b0 : decide (0 ≤ (ji20)) = true := decide_eq_true c21
          clear c21
          by_cases c22 : (ji20) < (l0.length : Int)
          ·rw [if_pos c22] at H
           have c22b0 : decide ((ji20) < (l0.length : Int)) = true := decide_eq_true c22
           clear c22
           by_cases c23 : a2 = (rd l0 (ji20))
           ·rw [if_pos c23] at H
            have c23b0 : (a2 == (rd l0 (ji20))) = true := beq_iff_eq.mpr c23
            have c23b1 : (a2 != (rd l0 (ji20))) = false := bne_eq_false_iff_eq.mpr c23
            clear c23
            replace H := Option.bind_eq_some_iff.mp H
            obtain ⟨t384, A240, H⟩ := H
            replace H : (if t384 = true then (some t375) else (if t375 = true then (if (l3.length : Int) = (t378.length : Int) then ((cohousinglaw06_clash.f kj12 a2 (rd l0 (ji20)) (ji20) (l0.length : Int) l3 t378).bind fun t386 => (some t386)) else (some false)) else (some false))) = some r := H
            have A24 := Aside0.mk A240
            clear A240
            by_cases c25 : t384 = true
            ·subst c25
             have H1 : (some t375) = some r := by rw [if_pos rfl] at H; exact H
             clear H
             have H := H1
             clear H1
             obtain rfl := Option.some.inj H
             go_wp2_with (first | ((with_reducible refine gate_callee (f := 20) rfl ?_); refine goesL_ (some 58) rfl rfl Tryd.func20 (by kernel_rfl) rfl #[.int .u64 t376, .int .u64 a2, .int .i64 (ji20), .int .i64 (l0.length : Int), .slice A3 l3.length c3] rfl (by (try simp only [List.map_toArray, List.map_cons, List.map_nil]); first | done | (simp only [hji20]; rfl) | rfl | (simp only [List.length_drop, List.length_take]; rfl)) ?_; (with_reducible refine (digest_Check.calls kj12 t376 a2 (ji20) (l0.length : Int) _ _ l3 true _ ?side1 ?side2 A18.out).mono ?_); (case side1 => repeat (first | exact (Kd.C_below HR3.out HB.out) | (with_reducible refine Kd.C_alloc ?_ _) | (with_reducible refine Kd.C_drewN ?_ _) | (with_reducible refine Kd.C_drew ?_))); (case side2 => exact HC3.out); rintro e w26 ⟨rfl, hb⟩; refine ⟨_, rfl, ?_⟩; have n0_ := Aside0.mk (Kd.R_below (by (with_reducible repeat (first | apply Kd.R_alloc | apply Kd.R_drewN | apply Kd.R_drew)); exact HO_13.out) hb); have n1_ := Aside0.mk (below_step (by repeat (first | (with_reducible first | exact HB.out | apply below_alloc | apply pw_below_drewN | apply below_drew1) | exact HB.out)) hb); clear HO_13; clear HB; have HO_13 := n0_; have HB := n1_; clear n0_ n1_; (try clear hb); (try clear hb2); (try clear hk); (try clear hi); have p383 : 0 ≤ ((ji20) : Int) := of_decide_eq_true (by first | (with_reducible assumption) | assumption); have q383 : (ji20) < (l0.length : Int) := of_decide_eq_true (by first | (with_reducible assumption) | assumption); obtain ⟨ad383, e383, hx383_0⟩ := Kd.at_int HR0.out (ji20) p383 q383; cases e383; replace hx383_0 := (HB.out.cell (World.block_lt_of_cell? w _ hx383_0)).trans hx383_0; replace p383 := eq_true p383; replace q383 := eq_true q383; obtain ⟨Ao27, co27, eo27⟩ := Kd.R_slice HO_13.out; subst eo27) | (go_at_call 19; (with_reducible refine (cohousingref06_Same.calls kj12 _ _ l3 _ _ t378 true _ ?side1 ?side2 ?side3 ?side4 A24.out).mono ?_); (case side1 => repeat (first | exact (Kd.C_below HR3.out HB.out) | (with_reducible refine Kd.C_alloc ?_ _) | (with_reducible refine Kd.C_drewN ?_ _) | (with_reducible refine Kd.C_drew ?_))); (case side2 => exact HC3.out); (case side3 => repeat (first | exact (Kd.R_reads' HO_13.out).2.2 | (with_reducible refine Kd.C_alloc ?_ _) | (with_reducible refine Kd.C_drewN ?_ _) | (with_reducible refine Kd.C_drew ?_))); (case side4 => exact (Kd.R_reads' HO_13.out).2.1); rintro e w' ⟨rfl, ⟨nd, rfl⟩⟩))
             go_ret
             exact ⟨by first | rfl | (simp [errW_none, errW_some] <;> rfl) | (simp only [← hji20]; first | rfl | (simp [errW_none, errW_some] <;> rfl)) | (simp [*, errW_none, errW_some] <;> rfl), by repeat (first | (with_reducible first | exact HB.out | apply below_alloc | apply pw_below_drewN | apply below_drew1) | exact HB.out)⟩
            ·replace c25 := Bool.eq_false_iff.mpr c25
             subst c25
             have H1 : (if t375 = true then (if (l3.length : Int) = (t378.length : Int) then ((cohousinglaw06_clash.f kj12 a2 (rd l0 (ji20)) (ji20) (l0.length : Int) l3 t378).bind fun t386 => (some t386)) else (some false)) else (some false)) = some r := by rw [if_neg (show ¬ (false = true) by decide)] at H; exact H
             clear H
             have H := H1
             clear H1
             by_cases c28 : t375 = true
             ·subst c28
              have H1 : (if (l3.length : Int) = (t378.length : Int) then ((cohousinglaw06_clash.f kj12 a2 (rd l0 (ji20)) (ji20) (l0.length : Int) l3 t378).bind fun t386 => (some t386)) else (some false)) = some r := by rw [if_pos rfl] at H; exact H
              clear H
              have H := H1
              clear H1
              by_cases c29 : (l3.length : Int) = (t378.length : Int)
              ·rw [if_pos c29] at H
               have c29b0 : ((l3.length : Int) == (t378.length : Int)) = true := beq_iff_eq.mpr c29
               have c29b1 : ((l3.length : Int) != (t378.length : Int)) = false := bne_eq_false_iff_eq.mpr c29
               have c29b2 : (l3.length == t378.length) = true := by first | simpa using c29 | (simp at c29 ⊢; omega)
               clear c29
               replace H := Option.bind_eq_some_iff.mp H
               obtain ⟨t386, A300, H⟩ := H
               replace H : (some t386) = some r := H
               have A30 := Aside0.mk A300
               clear A300
               obtain rfl := Option.some.inj H
               go_wp2_with (first | ((with_reducible refine gate_callee (f := 20) rfl ?_); refine goesL_ (some 58) rfl rfl Tryd.func20 (by kernel_rfl) rfl #[.int .u64 t376, .int .u64 a2, .int .i64 (ji20), .int .i64 (l0.length : Int), .slice A3 l3.length c3] rfl (by (try simp only [List.map_toArray, List.map_cons, List.map_nil]); first | done | (simp only [hji20]; rfl) | rfl | (simp only [List.length_drop, List.length_take]; rfl)) ?_; (with_reducible refine (digest_Check.calls kj12 t376 a2 (ji20) (l0.length : Int) _ _ l3 true _ ?side1 ?side2 A18.out).mono ?_); (case side1 => repeat (first | exact (Kd.C_below HR3.out HB.out) | (with_reducible refine Kd.C_alloc ?_ _) | (with_reducible refine Kd.C_drewN ?_ _) | (with_reducible refine Kd.C_drew ?_))); (case side2 => exact HC3.out); rintro e w31 ⟨rfl, hb⟩; refine ⟨_, rfl, ?_⟩; have n0_ := Aside0.mk (Kd.R_below (by (with_reducible repeat (first | apply Kd.R_alloc | apply Kd.R_drewN | apply Kd.R_drew)); exact HO_13.out) hb); have n1_ := Aside0.mk (below_step (by repeat (first | (with_reducible first | exact HB.out | apply below_alloc | apply pw_below_drewN | apply below_drew1) | exact HB.out)) hb); clear HO_13; clear HB; have HO_13 := n0_; have HB := n1_; clear n0_ n1_; (try clear hb); (try clear hb2); (try clear hk); (try clear hi); have p383 : 0 ≤ ((ji20) : Int) := of_decide_eq_true (by first | (with_reducible assumption) | assumption); have q383 : (ji20) < (l0.length : Int) := of_decide_eq_true (by first | (with_reducible assumption) | assumption); obtain ⟨ad383, e383, hx383_0⟩ := Kd.at_int HR0.out (ji20) p383 q383; cases e383; replace hx383_0 := (HB.out.cell (World.block_lt_of_cell? w _ hx383_0)).trans hx383_0; replace p383 := eq_true p383; replace q383 := eq_true q383; obtain ⟨Ao32, co32, eo32⟩ := Kd.R_slice HO_13.out; subst eo32) | (go_at_call 19; (with_reducible refine (cohousingref06_Same.calls kj12 _ _ l3 _ _ t378 false _ ?side1 ?side2 ?side3 ?side4 A24.out).mono ?_); (case side1 => repeat (first | exact (Kd.C_below HR3.out HB.out) | (with_reducible refine Kd.C_alloc ?_ _) | (with_reducible refine Kd.C_drewN ?_ _) | (with_reducible refine Kd.C_drew ?_))); (case side2 => exact HC3.out); (case side3 => repeat (first | exact (Kd.R_reads' HO_13.out).2.2 | (with_reducible refine Kd.C_alloc ?_ _) | (with_reducible refine Kd.C_drewN ?_ _) | (with_reducible refine Kd.C_drew ?_))); (case side4 => exact (Kd.R_reads' HO_13.out).2.1); rintro e w' ⟨rfl, ⟨nd, rfl⟩⟩; have p385 : 0 ≤ ((ji20) : Int) := of_decide_eq_true (by first | (with_reducible assumption) | assumption); have q385 : (ji20) < (l0.length : Int) := of_decide_eq_true (by first | (with_reducible assumption) | assumption); obtain ⟨ad385, e385, hx385_0⟩ := Kd.at_int HR0.out (ji20) p385 q385; obtain rfl : ad383 = ad385 := (by injection e385); replace hx385_0 := (HB.out.cell (World.block_lt_of_cell? w _ hx385_0)).trans hx385_0; replace p385 := eq_true p385; replace q385 := eq_true q385) | (go_at_call 24; (with_reducible refine (cohousinglaw06_clash.calls kj12 a2 (rd l0 (ji20)) (ji20) (l0.length : Int) _ _ l3 _ _ t378 t386 _ ?side1 ?side2 ?side3 ?side4 A30.out).mono ?_); (case side1 => repeat (first | exact (Kd.C_below HR3.out (by repeat (first | (with_reducible first | exact HB.out | apply below_alloc | apply pw_below_drewN | apply below_drew1) | exact HB.out))) | (with_reducible refine Kd.C_alloc ?_ _) | (with_reducible refine Kd.C_drewN ?_ _) | (with_reducible refine Kd.C_drew ?_))); (case side2 => exact HC3.out); (case side3 => repeat (first | exact (Kd.R_reads' HO_13.out).2.2 | (with_reducible refine Kd.C_alloc ?_ _) | (with_reducible refine Kd.C_drewN ?_ _) | (with_reducible refine Kd.C_drew ?_))); (case side4 => exact (Kd.R_reads' HO_13.out).2.1); rintro e w33 ⟨rfl, hb⟩; have n0_ := Aside0.mk (Kd.R_below (by (with_reducible repeat (first | apply Kd.R_alloc | apply Kd.R_drewN | apply Kd.R_drew)); exact HO_13.out) hb); have n1_ := Aside0.mk (below_step (by repeat (first | (with_reducible first | exact HB.out | apply below_alloc | apply pw_below_drewN | apply below_drew1) | exact HB.out)) hb); clear HO_13; clear HB; have HO_13 := n0_; have HB := n1_; clear n0_ n1_; (try clear hb); (try clear hb2); (try clear hk); (try clear hi)))
               go_ret
               exact ⟨by first | rfl | (simp [errW_none, errW_some] <;> rfl) | (simp only [← hji20]; first | rfl | (simp [errW_none, errW_some] <;> rfl)) | (simp [*, errW_none, errW_some] <;> rfl), by repeat (first | (with_reducible first | exact HB.out | apply below_alloc | apply pw_below_drewN | apply below_drew1) | exact HB.out)⟩
              ·rw [if_neg c29] at H
               have c29b0 : ((l3.length : Int) == (t378.length : Int)) = false := beq_eq_false_iff_ne.mpr c29
               have c29b1 : ((l3.length : Int) != (t378.length : Int)) = true := bne_iff_ne.mpr c29
               have c29b2 : (l3.length == t378.length) = false := by first | simpa using c29 | (simp at c29 ⊢; omega)
               obtain rfl := Option.some.inj H
               go_wp2_with (first | ((with_reducible refine gate_callee (f := 20) rfl ?_); refine goesL_ (some 58) rfl rfl Tryd.func20 (by kernel_rfl) rfl #[.int .u64 t376, .int .u64 a2, .int .i64 (ji20), .int .i64 (l0.length : Int), .slice A3 l3.length c3] rfl (by (try simp only [List.map_toArray, List.map_cons, List.map_nil]); first | done | (simp only [hji20]; rfl) | rfl | (simp only [List.length_drop, List.length_take]; rfl)) ?_; (with_reducible refine (digest_Check.calls kj12 t376 a2 (ji20) (l0.length : Int) _ _ l3 true _ ?side1 ?side2 A18.out).mono ?_); (case side1 => repeat (first | exact (Kd.C_below HR3.out HB.out) | (with_reducible refine Kd.C_alloc ?_ _) | (with_reducible refine Kd.C_drewN ?_ _) | (with_reducible refine Kd.C_drew ?_))); (case side2 => exact HC3.out); rintro e w34 ⟨rfl, hb⟩; refine ⟨_, rfl, ?_⟩; have n0_ := Aside0.mk (Kd.R_below (by (with_reducible repeat (first | apply Kd.R_alloc | apply Kd.R_drewN | apply Kd.R_drew)); exact HO_13.out) hb); have n1_ := Aside0.mk (below_step (by repeat (first | (with_reducible first | exact HB.out | apply below_alloc | apply pw_below_drewN | apply below_drew1) | exact HB.out)) hb); clear HO_13; clear HB; have HO_13 := n0_; have HB := n1_; clear n0_ n1_; (try clear hb); (try clear hb2); (try clear hk); (try clear hi); have p383 : 0 ≤ ((ji20) : Int) := of_decide_eq_true (by first | (with_reducible assumption) | assumption); have q383 : (ji20) < (l0.length : Int) := of_decide_eq_true (by first | (with_reducible assumption) | assumption); obtain ⟨ad383, e383, hx383_0⟩ := Kd.at_int HR0.out (ji20) p383 q383; cases e383; replace hx383_0 := (HB.out.cell (World.block_lt_of_cell? w _ hx383_0)).trans hx383_0; replace p383 := eq_true p383; replace q383 := eq_true q383; obtain ⟨Ao35, co35, eo35⟩ := Kd.R_slice HO_13.out; subst eo35) | (go_at_call 19; (with_reducible refine (cohousingref06_Same.calls kj12 _ _ l3 _ _ t378 false _ ?side1 ?side2 ?side3 ?side4 A24.out).mono ?_); (case side1 => repeat (first | exact (Kd.C_below HR3.out HB.out) | (with_reducible refine Kd.C_alloc ?_ _) | (with_reducible refine Kd.C_drewN ?_ _) | (with_reducible refine Kd.C_drew ?_))); (case side2 => exact HC3.out); (case side3 => repeat (first | exact (Kd.R_reads' HO_13.out).2.2 | (with_reducible refine Kd.C_alloc ?_ _) | (with_reducible refine Kd.C_drewN ?_ _) | (with_reducible refine Kd.C_drew ?_))); (case side4 => exact (Kd.R_reads' HO_13.out).2.1); rintro e w' ⟨rfl, ⟨nd, rfl⟩⟩))
               go_ret
               exact ⟨by first | rfl | (simp [errW_none, errW_some] <;> rfl) | (simp only [← hji20]; first | rfl | (simp [errW_none, errW_some] <;> rfl)) | (simp [*, errW_none, errW_some] <;> rfl), by repeat (first | (with_reducible first | exact HB.out | apply below_alloc | apply pw_below_drewN | apply below_drew1) | exact HB.out)⟩
             ·replace c28 := Bool.eq_false_iff.mpr c28
              subst c28
              have H1 : (some false) = some r := by rw [if_neg (show ¬ (false = true) by decide)] at H; exact H
              clear H
              have H := H1
              clear H1
              obtain rfl := Option.some.inj H
              go_wp2_with (first | ((with_reducible refine gate_callee (f := 20) rfl ?_); refine goesL_ (some 58) rfl rfl Tryd.func20 (by kernel_rfl) rfl #[.int .u64 t376, .int .u64 a2, .int .i64 (ji20), .int .i64 (l0.length : Int), .slice A3 l3.length c3] rfl (by (try simp only [List.map_toArray, List.map_cons, List.map_nil]); first | done | (simp only [hji20]; rfl) | rfl | (simp only [List.length_drop, List.length_take]; rfl)) ?_; (with_reducible refine (digest_Check.calls kj12 t376 a2 (ji20) (l0.length : Int) _ _ l3 true _ ?side1 ?side2 A18.out).mono ?_); (case side1 => repeat (first | exact (Kd.C_below HR3.out HB.out) | (with_reducible refine Kd.C_alloc ?_ _) | (with_reducible refine Kd.C_drewN ?_ _) | (with_reducible refine Kd.C_drew ?_))); (case side2 => exact HC3.out); rintro e w36 ⟨rfl, hb⟩; refine ⟨_, rfl, ?_⟩; have n0_ := Aside0.mk (Kd.R_below (by (with_reducible repeat (first | apply Kd.R_alloc | apply Kd.R_drewN | apply Kd.R_drew)); exact HO_13.out) hb); have n1_ := Aside0.mk (below_step (by repeat (first | (with_reducible first | exact HB.out | apply below_alloc | apply pw_below_drewN | apply below_drew1) | exact HB.out)) hb); clear HO_13; clear HB; have HO_13 := n0_; have HB := n1_; clear n0_ n1_; (try clear hb); (try clear hb2); (try clear hk); (try clear hi); have p383 : 0 ≤ ((ji20) : Int) := of_decide_eq_true (by first | (with_reducible assumption) | assumption); have q383 : (ji20) < (l0.length : Int) := of_decide_eq_true (by first | (with_reducible assumption) | assumption); obtain ⟨ad383, e383, hx383_0⟩ := Kd.at_int HR0.out (ji20) p383 q383; cases e383; replace hx383_0 := (HB.out.cell (World.block_lt_of_cell? w _ hx383_0)).trans hx383_0; replace p383 := eq_true p383; replace q383 := eq_true q383; obtain ⟨Ao37, co37, eo37⟩ := Kd.R_slice HO_13.out; subst eo37) | (go_at_call 19; (with_reducible refine (cohousingref06_Same.calls kj12 _ _ l3 _ _ t378 false _ ?side1 ?side2 ?side3 ?side4 A24.out).mono ?_); (case side1 => repeat (first | exact (Kd.C_below HR3.out HB.out) | (with_reducible refine Kd.C_alloc ?_ _) | (with_reducible refine Kd.C_drewN ?_ _) | (with_reducible refine Kd.C_drew ?_))); (case side2 => exact HC3.out); (case side3 => repeat (first | exact (Kd.R_reads' HO_13.out).2.2 | (with_reducible refine Kd.C_alloc ?_ _) | (with_reducible refine Kd.C_drewN ?_ _) | (with_reducible refine Kd.C_drew ?_))); (case side4 => exact (Kd.R_reads' HO_13.out).2.1); rintro e w' ⟨rfl, ⟨nd, rfl⟩⟩))
              go_ret
              exact ⟨by first | rfl | (simp [errW_none, errW_some] <;> rfl) | (simp only [← hji20]; first | rfl | (simp [errW_none, errW_some] <;> rfl)) | (simp [*, errW_none, errW_some] <;> rfl), by repeat (first | (with_reducible first | exact HB.out | apply below_alloc | apply pw_below_drewN | apply below_drew1) | exact HB.out)⟩
           ·rw [if_neg c23] at H
            have c23b0 : (a2 == (rd l0 (ji20))) = false := beq_eq_false_iff_ne.mpr c23
            have c23b1 : (a2 != (rd l0 (ji20))) = true := bne_iff_ne.mpr c23
            by_cases c38 : t375 = true
            ·subst c38
             have H1 : (if (l3.length : Int) = (t378.length : Int) then ((cohousinglaw06_clash.f kj12 a2 (rd l0 (ji20)) (ji20) (l0.length : Int) l3 t378).bind fun t388 => (some t388)) else (some false)) = some r := by rw [if_pos rfl] at H; exact H
             clear H
             have H := H1
             clear H1
             by_cases c39 : (l3.length : Int) = (t378.length : Int)
             ·rw [if_pos c39] at H
              have c39b0 : ((l3.length : Int) == (t378.length : Int)) = true := beq_iff_eq.mpr c39
              have c39b1 : ((l3.length : Int) != (t378.length : Int)) = false := bne_eq_false_iff_eq.mpr c39
              have c39b2 : (l3.length == t378.length) = true := by first | simpa using c39 | (simp at c39 ⊢; omega)
              clear c39
              replace H := Option.bind_eq_some_iff.mp H
              obtain ⟨t388, A400, H⟩ := H
              replace H : (some t388) = some r := H
              have A40 := Aside0.mk A400
              clear A400
              obtain rfl := Option.some.inj H
              go_wp2_with (first | ((with_reducible refine gate_callee (f := 20) rfl ?_); refine goesL_ (some 58) rfl rfl Tryd.func20 (by kernel_rfl) rfl #[.int .u64 t376, .int .u64 a2, .int .i64 (ji20), .int .i64 (l0.length : Int), .slice A3 l3.length c3] rfl (by (try simp only [List.map_toArray, List.map_cons, List.map_nil]); first | done | (simp only [hji20]; rfl) | rfl | (simp only [List.length_drop, List.length_take]; rfl)) ?_; (with_reducible refine (digest_Check.calls kj12 t376 a2 (ji20) (l0.length : Int) _ _ l3 true _ ?side1 ?side2 A18.out).mono ?_); (case side1 => repeat (first | exact (Kd.C_below HR3.out HB.out) | (with_reducible refine Kd.C_alloc ?_ _) | (with_reducible refine Kd.C_drewN ?_ _) | (with_reducible refine Kd.C_drew ?_))); (case side2 => exact HC3.out); rintro e w41 ⟨rfl, hb⟩; refine ⟨_, rfl, ?_⟩; have n0_ := Aside0.mk (Kd.R_below (by (with_reducible repeat (first | apply Kd.R_alloc | apply Kd.R_drewN | apply Kd.R_drew)); exact HO_13.out) hb); have n1_ := Aside0.mk (below_step (by repeat (first | (with_reducible first | exact HB.out | apply below_alloc | apply pw_below_drewN | apply below_drew1) | exact HB.out)) hb); clear HO_13; clear HB; have HO_13 := n0_; have HB := n1_; clear n0_ n1_; (try clear hb); (try clear hb2); (try clear hk); (try clear hi); have p383 : 0 ≤ ((ji20) : Int) := of_decide_eq_true (by first | (with_reducible assumption) | assumption); have q383 : (ji20) < (l0.length : Int) := of_decide_eq_true (by first | (with_reducible assumption) | assumption); obtain ⟨ad383, e383, hx383_0⟩ := Kd.at_int HR0.out (ji20) p383 q383; cases e383; replace hx383_0 := (HB.out.cell (World.block_lt_of_cell? w _ hx383_0)).trans hx383_0; replace p383 := eq_true p383; replace q383 := eq_true q383; obtain ⟨Ao42, co42, eo42⟩ := Kd.R_slice HO_13.out; subst eo42; have p387 : 0 ≤ ((ji20) : Int) := of_decide_eq_true (by first | (with_reducible assumption) | assumption); have q387 : (ji20) < (l0.length : Int) := of_decide_eq_true (by first | (with_reducible assumption) | assumption); obtain ⟨ad387, e387, hx387_0⟩ := Kd.at_int HR0.out (ji20) p387 q387; obtain rfl : ad383 = ad387 := (by injection e387); replace hx387_0 := (HB.out.cell (World.block_lt_of_cell? w _ hx387_0)).trans hx387_0; replace p387 := eq_true p387; replace q387 := eq_true q387) | (go_at_call 24; (with_reducible refine (cohousinglaw06_clash.calls kj12 a2 (rd l0 (ji20)) (ji20) (l0.length : Int) _ _ l3 _ _ t378 t388 _ ?side1 ?side2 ?side3 ?side4 A40.out).mono ?_); (case side1 => repeat (first | exact (Kd.C_below HR3.out HB.out) | (with_reducible refine Kd.C_alloc ?_ _) | (with_reducible refine Kd.C_drewN ?_ _) | (with_reducible refine Kd.C_drew ?_))); (case side2 => exact HC3.out); (case side3 => repeat (first | exact (Kd.R_reads' HO_13.out).2.2 | (with_reducible refine Kd.C_alloc ?_ _) | (with_reducible refine Kd.C_drewN ?_ _) | (with_reducible refine Kd.C_drew ?_))); (case side4 => exact (Kd.R_reads' HO_13.out).2.1); rintro e w43 ⟨rfl, hb⟩; have n0_ := Aside0.mk (Kd.R_below (by (with_reducible repeat (first | apply Kd.R_alloc | apply Kd.R_drewN | apply Kd.R_drew)); exact HO_13.out) hb); have n1_ := Aside0.mk (below_step (by repeat (first | (with_reducible first | exact HB.out | apply below_alloc | apply pw_below_drewN | apply below_drew1) | exact HB.out)) hb); clear HO_13; clear HB; have HO_13 := n0_; have HB := n1_; clear n0_ n1_; (try clear hb); (try clear hb2); (try clear hk); (try clear hi)))
              go_ret
              exact ⟨by first | rfl | (simp [errW_none, errW_some] <;> rfl) | (simp only [← hji20]; first | rfl | (simp [errW_none, errW_some] <;> rfl)) | (simp [*, errW_none, errW_some] <;> rfl), by repeat (first | (with_reducible first | exact HB.out | apply below_alloc | apply pw_below_drewN | apply below_drew1) | exact HB.out)⟩
             ·rw [if_neg c39] at H
              have c39b0 : ((l3.length : Int) == (t378.length : Int)) = false := beq_eq_false_iff_ne.mpr c39
              have c39b1 : ((l3.length : Int) != (t378.length : Int)) = true := bne_iff_ne.mpr c39
              have c39b2 : (l3.length == t378.length) = false := by first | simpa using c39 | (simp at c39 ⊢; omega)
              obtain rfl := Option.some.inj H
              go_wp2_with (first | ((with_reducible refine gate_callee (f := 20) rfl ?_); refine goesL_ (some 58) rfl rfl Tryd.func20 (by kernel_rfl) rfl #[.int .u64 t376, .int .u64 a2, .int .i64 (ji20), .int .i64 (l0.length : Int), .slice A3 l3.length c3] rfl (by (try simp only [List.map_toArray, List.map_cons, List.map_nil]); first | done | (simp only [hji20]; rfl) | rfl | (simp only [List.length_drop, List.length_take]; rfl)) ?_; (with_reducible refine (digest_Check.calls kj12 t376 a2 (ji20) (l0.length : Int) _ _ l3 true _ ?side1 ?side2 A18.out).mono ?_); (case side1 => repeat (first | exact (Kd.C_below HR3.out HB.out) | (with_reducible refine Kd.C_alloc ?_ _) | (with_reducible refine Kd.C_drewN ?_ _) | (with_reducible refine Kd.C_drew ?_))); (case side2 => exact HC3.out); rintro e w44 ⟨rfl, hb⟩; refine ⟨_, rfl, ?_⟩; have n0_ := Aside0.mk (Kd.R_below (by (with_reducible repeat (first | apply Kd.R_alloc | apply Kd.R_drewN | apply Kd.R_drew)); exact HO_13.out) hb); have n1_ := Aside0.mk (below_step (by repeat (first | (with_reducible first | exact HB.out | apply below_alloc | apply pw_below_drewN | apply below_drew1) | exact HB.out)) hb); clear HO_13; clear HB; have HO_13 := n0_; have HB := n1_; clear n0_ n1_; (try clear hb); (try clear hb2); (try clear hk); (try clear hi); have p383 : 0 ≤ ((ji20) : Int) := of_decide_eq_true (by first | (with_reducible assumption) | assumption); have q383 : (ji20) < (l0.length : Int) := of_decide_eq_true (by first | (with_reducible assumption) | assumption); obtain ⟨ad383, e383, hx383_0⟩ := Kd.at_int HR0.out (ji20) p383 q383; cases e383; replace hx383_0 := (HB.out.cell (World.block_lt_of_cell? w _ hx383_0)).trans hx383_0; replace p383 := eq_true p383; replace q383 := eq_true q383; obtain ⟨Ao45, co45, eo45⟩ := Kd.R_slice HO_13.out; subst eo45))
              go_ret
              exact ⟨by first | rfl | (simp [errW_none, errW_some] <;> rfl) | (simp only [← hji20]; first | rfl | (simp [errW_none, errW_some] <;> rfl)) | (simp [*, errW_none, errW_some] <;> rfl), by repeat (first | (with_reducible first | exact HB.out | apply below_alloc | apply pw_below_drewN | apply below_drew1) | exact HB.out)⟩
            ·replace c38 := Bool.eq_false_iff.mpr c38
             subst c38
             have H1 : (some false) = some r := by rw [if_neg (show ¬ (false = true) by decide)] at H; exact H
             clear H
             have H := H1
             clear H1
             obtain rfl := Option.some.inj H
             go_wp2_with (first | ((with_reducible refine gate_callee (f := 20) rfl ?_); refine goesL_ (some 58) rfl rfl Tryd.func20 (by kernel_rfl) rfl #[.int .u64 t376, .int .u64 a2, .int .i64 (ji20), .int .i64 (l0.length : Int), .slice A3 l3.length c3] rfl (by (try simp only [List.map_toArray, List.map_cons, List.map_nil]); first | done | (simp only [hji20]; rfl) | rfl | (simp only [List.length_drop, List.length_take]; rfl)) ?_; (with_reducible refine (digest_Check.calls kj12 t376 a2 (ji20) (l0.length : Int) _ _ l3 true _ ?side1 ?side2 A18.out).mono ?_); (case side1 => repeat (first | exact (Kd.C_below HR3.out HB.out) | (with_reducible refine Kd.C_alloc ?_ _) | (with_reducible refine Kd.C_drewN ?_ _) | (with_reducible refine Kd.C_drew ?_))); (case side2 => exact HC3.out); rintro e w46 ⟨rfl, hb⟩; refine ⟨_, rfl, ?_⟩; have n0_ := Aside0.mk (Kd.R_below (by (with_reducible repeat (first | apply Kd.R_alloc | apply Kd.R_drewN | apply Kd.R_drew)); exact HO_13.out) hb); have n1_ := Aside0.mk (below_step (by repeat (first | (with_reducible first | exact HB.out | apply below_alloc | apply pw_below_drewN | apply below_drew1) | exact HB.out)) hb); clear HO_13; clear HB; have HO_13 := n0_; have HB := n1_; clear n0_ n1_; (try clear hb); (try clear hb2); (try clear hk); (try clear hi); have p383 : 0 ≤ ((ji20) : Int) := of_decide_eq_true (by first | (with_reducible assumption) | assumption); have q383 : (ji20) < (l0.length : Int) := of_decide_eq_true (by first | (with_reducible assumption) | assumption); obtain ⟨ad383, e383, hx383_0⟩ := Kd.at_int HR0.out (ji20) p383 q383; cases e383; replace hx383_0 := (HB.out.cell (World.block_lt_of_cell? w _ hx383_0)).trans hx383_0; replace p383 := eq_true p383; replace q383 := eq_true q383))
             go_ret
             exact ⟨by first | rfl | (simp [errW_none, errW_some] <;> rfl) | (simp only [← hji20]; first | rfl | (simp [errW_none, errW_some] <;> rfl)) | (simp [*, errW_none, errW_some] <;> rfl), by repeat (first | (with_reducible first | exact HB.out | apply below_alloc | apply pw_below_drewN | apply below_drew1) | exact HB.out)⟩
          ·rw [if_neg c22] at H
           exact absurd H (by simp)
         ·rw [if_neg c21] at H
          exact absurd H (by simp)
        ·replace c19 := Bool.eq_false_iff.mpr c19
         subst c19
         have H1 : (some t375) = some r := by rw [if_neg (show ¬ (false = true) by decide)] at H; exact H
         clear H
         have H := H1
         clear H1
         obtain rfl := Option.some.inj H
         go_wp2_with (first | ((with_reducible refine gate_callee (f := 20) rfl ?_); refine goesL_ (some 58) rfl rfl Tryd.func20 (by kernel_rfl) rfl #[.int .u64 t376, .int .u64 a2, .int .i64 (Int.tmod (wrap64 ((Int.tmod a1 (l0.length : Int)) + (l0.length : Int))) (l0.length : Int)), .int .i64 (l0.length : Int), .slice A3 l3.length c3] rfl (by (try simp only [List.map_toArray, List.map_cons, List.map_nil]); first | done | rfl | (simp only [List.length_drop, List.length_take]; rfl)) ?_; (with_reducible refine (digest_Check.calls kj12 t376 a2 (Int.tmod (wrap64 ((Int.tmod a1 (l0.length : Int)) + (l0.length : Int))) (l0.length : Int)) (l0.length : Int) _ _ l3 false _ ?side1 ?side2 A18.out).mono ?_); (case side1 => repeat (first | exact (Kd.C_below HR3.out HB.out) | (with_reducible refine Kd.C_alloc ?_ _) | (with_reducible refine Kd.C_drewN ?_ _) | (with_reducible refine Kd.C_drew ?_))); (case side2 => exact HC3.out); rintro e w47 ⟨rfl, hb⟩; refine ⟨_, rfl, ?_⟩; have n0_ := Aside0.mk (Kd.R_below (by (with_reducible repeat (first | apply Kd.R_alloc | apply Kd.R_drewN | apply Kd.R_drew)); exact HO_13.out) hb); have n1_ := Aside0.mk (below_step (by repeat (first | (with_reducible first | exact HB.out | apply below_alloc | apply pw_below_drewN | apply below_drew1) | exact HB.out)) hb); clear HO_13; clear HB; have HO_13 := n0_; have HB := n1_; clear n0_ n1_; (try clear hb); (try clear hb2); (try clear hk); (try clear hi)))
         go_ret
         exact ⟨by first | rfl | (simp [errW_none, errW_some] <;> rfl) | (simp [*, errW_none, errW_some] <;> rfl), by repeat (first | (with_reducible first | exact HB.out | apply below_alloc | apply pw_below_drewN | apply below_drew1) | exact HB.out)⟩

end Go.Proofs.YtolgpnbjjehdiaaDoor.P
