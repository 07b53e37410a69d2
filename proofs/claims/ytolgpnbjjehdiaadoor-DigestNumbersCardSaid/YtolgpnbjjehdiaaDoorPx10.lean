-- Written by a program of this session out of the translation (wip/pp: the kit's print, turned). Not trusted: Lean checks it.
import Derived.Test.YtolgpnbjjehdiaaDoorPx0
import Derived.Test.YtolgpnbjjehdiaaDoorPx1
import Derived.Test.YtolgpnbjjehdiaaDoorXhead6
namespace Go.Proofs.YtolgpnbjjehdiaaDoor.P
open Go.RowKit Go.Proofs.YtolgpnbjjehdiaaDoorW.PrintWords Go.Proofs.YtolgpnbjjehdiaaDoorW.PrintLast Go.Proofs.YtolgpnbjjehdiaaDoorW.PrintMore
attribute [local go_sem] max2_int min2_int max_two min_two max_three min_three max_four min_four   -- for this text's walks alone
set_option linter.unusedVariables false
set_option linter.unusedSimpArgs false

/-! ### cohousinglaw06_DigestOneByte: function 4 -/
mutual
def cohousinglaw06_DigestOneByte.j0 : Nat → List Int → List Int → List Int → Int → Int → Bool → Bool → Option (Bool)
 | 0, _, _, _, _, _, _, _ => none
 | k + 1, x0, x1, x2, x3, x4, x11, x29 => if x29 = true then (some x11) else ((some (([] : List Int) : List Int)).bind fun y264 => (if y264.length + x0.length < 140737488355328 then ((some (y264 ++ x0 : List Int)).bind fun y267 => (if y267.length + x2.length < 140737488355328 then ((some (([] : List Int) : List Int)).bind fun y273 => (if y273.length + x1.length < 140737488355328 then ((some (y273 ++ x1 : List Int)).bind fun y276 => (if y276.length + x2.length < 140737488355328 then (if x11 = true then ((digest_Sum.f k (y267 ++ x2)).bind fun t282 => ((digest_Sum.f k (y276 ++ x2)).bind fun t283 => ((digest_Sum.f k x0).bind fun t284 => ((digest_Sum.f k x1).bind fun t285 => (cohousinglaw06_DigestOneByte.j1 k x0 x3 x4 ((t282 == t283) == (t284 == t285))))))) else (cohousinglaw06_DigestOneByte.j1 k x0 x3 x4 false)) else (none))) else (none))) else (none))) else (none)))
def cohousinglaw06_DigestOneByte.j1 : Nat → List Int → Int → Int → Bool → Option (Bool)
 | 0, _, _, _, _ => none
 | k + 1, x0, x3, x4, x11 => if (x0.length : Int) = 0 then (cohousinglaw06_DigestOneByte.j2 k x0 x3 x4 x11 true) else (cohousinglaw06_DigestOneByte.j2 k x0 x3 x4 x11 (x4 == 0))
def cohousinglaw06_DigestOneByte.j2 : Nat → List Int → Int → Int → Bool → Bool → Option (Bool)
 | 0, _, _, _, _, _ => none
 | k + 1, x0, x3, x4, x11, x61 => if x61 = true then (some x11) else ((some (([] : List Int) : List Int)).bind fun y286 => (if y286.length + x0.length < 140737488355328 then ((some (y286 ++ x0 : List Int)).bind fun y289 => (if (x0.length : Int) = 0 then (none) else (if 0 ≤ (Int.tmod (wrap64 ((Int.tmod x3 (x0.length : Int)) + (x0.length : Int))) (x0.length : Int)) then (if (Int.tmod (wrap64 ((Int.tmod x3 (x0.length : Int)) + (x0.length : Int))) (x0.length : Int)) < (y289.length : Int) then (if x11 = true then ((digest_Sum.f k (y289.set ((Int.tmod (wrap64 ((Int.tmod x3 (x0.length : Int)) + (x0.length : Int))) (x0.length : Int)) : Int).toNat (Go.bits .xor .u8 (rd y289 (Int.tmod (wrap64 ((Int.tmod x3 (x0.length : Int)) + (x0.length : Int))) (x0.length : Int))) x4))).bind fun t294 => ((digest_Sum.f k x0).bind fun t295 => (some (t294 != t295)))) else (some false)) else (none)) else (none)))) else (none)))
end
def cohousinglaw06_DigestOneByte.f (k : Nat) (l0 : List Int) (l1 : List Int) (l2 : List Int) (a3 : Int) (a4 : Int) : Option (Bool) := (cohousinglaw06_head.f).bind fun t263 => (if (l0.length : Int) > 300 then (cohousinglaw06_DigestOneByte.j0 k l0 l1 l2 a3 a4 t263 true) else (if (l1.length : Int) > 300 then (cohousinglaw06_DigestOneByte.j0 k l0 l1 l2 a3 a4 t263 true) else (cohousinglaw06_DigestOneByte.j0 k l0 l1 l2 a3 a4 t263 (decide ((l2.length : Int) > 300)))))
theorem cohousinglaw06_DigestOneByte.mono_l : ∀ k, (∀ y0 y1 y2 y3 y4 y5 y6, LeO (cohousinglaw06_DigestOneByte.j0 k y0 y1 y2 y3 y4 y5 y6) (cohousinglaw06_DigestOneByte.j0 (k + 1) y0 y1 y2 y3 y4 y5 y6)) ∧ (∀ y0 y1 y2 y3, LeO (cohousinglaw06_DigestOneByte.j1 k y0 y1 y2 y3) (cohousinglaw06_DigestOneByte.j1 (k + 1) y0 y1 y2 y3)) ∧ (∀ y0 y1 y2 y3 y4, LeO (cohousinglaw06_DigestOneByte.j2 k y0 y1 y2 y3 y4) (cohousinglaw06_DigestOneByte.j2 (k + 1) y0 y1 y2 y3 y4))
 | 0 => ⟨fun _ _ _ _ _ _ _ r h => by simp [cohousinglaw06_DigestOneByte.j0] at h, fun _ _ _ _ r h => by simp [cohousinglaw06_DigestOneByte.j1] at h, fun _ _ _ _ _ r h => by simp [cohousinglaw06_DigestOneByte.j2] at h⟩
 | k + 1 => by
  obtain ⟨ih0, ih1, ih2⟩ := cohousinglaw06_DigestOneByte.mono_l k
  refine ⟨?_, ?_, ?_⟩
  ·intro y0 y1 y2 y3 y4 y5 y6
   unfold cohousinglaw06_DigestOneByte.j0
   repeat' first
   | (with_reducible exact ih0 _ _ _ _ _ _ _)
   | (with_reducible exact ih1 _ _ _ _)
   | (with_reducible exact ih2 _ _ _ _ _)
   | (with_reducible exact digest_Sum.mono _ _)
   | (with_reducible exact LeO.refl _)
   | (with_reducible exact LeO.none _)
   | (with_reducible refine LeO.ite ?_ ?_)
   | (with_reducible refine LeO.bind ?_ (fun _ => ?_))
   | exact ih0 _ _ _ _ _ _ _
   | exact ih1 _ _ _ _
   | exact ih2 _ _ _ _ _
   | exact digest_Sum.mono _ _
   | exact LeO.none _
   | refine LeO.ite ?_ ?_
   | refine LeO.bind ?_ (fun _ => ?_)
  ·intro y0 y1 y2 y3
   unfold cohousinglaw06_DigestOneByte.j1
   repeat' first
   | (with_reducible exact ih0 _ _ _ _ _ _ _)
   | (with_reducible exact ih1 _ _ _ _)
   | (with_reducible exact ih2 _ _ _ _ _)
   | (with_reducible exact digest_Sum.mono _ _)
   | (with_reducible exact LeO.refl _)
   | (with_reducible exact LeO.none _)
   | (with_reducible refine LeO.ite ?_ ?_)
   | (with_reducible refine LeO.bind ?_ (fun _ => ?_))
   | exact ih0 _ _ _ _ _ _ _
   | exact ih1 _ _ _ _
   | exact ih2 _ _ _ _ _
   | exact digest_Sum.mono _ _
   | exact LeO.none _
   | refine LeO.ite ?_ ?_
   | refine LeO.bind ?_ (fun _ => ?_)
  ·intro y0 y1 y2 y3 y4
   unfold cohousinglaw06_DigestOneByte.j2
   repeat' first
   | (with_reducible exact ih0 _ _ _ _ _ _ _)
   | (with_reducible exact ih1 _ _ _ _)
   | (with_reducible exact ih2 _ _ _ _ _)
   | (with_reducible exact digest_Sum.mono _ _)
   | (with_reducible exact LeO.refl _)
   | (with_reducible exact LeO.none _)
   | (with_reducible refine LeO.ite ?_ ?_)
   | (with_reducible refine LeO.bind ?_ (fun _ => ?_))
   | exact ih0 _ _ _ _ _ _ _
   | exact ih1 _ _ _ _
   | exact ih2 _ _ _ _ _
   | exact digest_Sum.mono _ _
   | exact LeO.none _
   | refine LeO.ite ?_ ?_
   | refine LeO.bind ?_ (fun _ => ?_)
theorem cohousinglaw06_DigestOneByte.mono : ∀ a0 a1 a2 a3 a4 k, LeO (cohousinglaw06_DigestOneByte.f k a0 a1 a2 a3 a4) (cohousinglaw06_DigestOneByte.f (k + 1) a0 a1 a2 a3 a4) := by
 intro a0 a1 a2 a3 a4 k
 obtain ⟨ih0, ih1, ih2⟩ := cohousinglaw06_DigestOneByte.mono_l k
 unfold cohousinglaw06_DigestOneByte.f
 repeat' first
   | (with_reducible exact ih0 _ _ _ _ _ _ _)
   | (with_reducible exact ih1 _ _ _ _)
   | (with_reducible exact ih2 _ _ _ _ _)
   | (with_reducible exact digest_Sum.mono _ _)
   | (with_reducible exact LeO.refl _)
   | (with_reducible exact LeO.none _)
   | (with_reducible refine LeO.ite ?_ ?_)
   | (with_reducible refine LeO.bind ?_ (fun _ => ?_))
   | exact ih0 _ _ _ _ _ _ _
   | exact ih1 _ _ _ _
   | exact ih2 _ _ _ _ _
   | exact digest_Sum.mono _ _
   | exact LeO.none _
   | refine LeO.ite ?_ ?_
   | refine LeO.bind ?_ (fun _ => ?_)
set_option maxHeartbeats 8000000 in
set_option maxRecDepth 100000 in
theorem cohousinglaw06_DigestOneByte.calls (k : Nat) (A0 : Option Addr) (c0 : Nat) (l0 : List Int) (A1 : Option Addr) (c1 : Nat) (l1 : List Int) (A2 : Option Addr) (c2 : Nat) (l2 : List Int) (a3 : Int) (a4 : Int) (r : Bool) (w : World) (hr0 : Kd.C (Kd.int .u8) w A0 l0.length l0) (hc0 : l0.length ≤ c0) (hr1 : Kd.C (Kd.int .u8) w A1 l1.length l1) (hc1 : l1.length ≤ c1) (hr2 : Kd.C (Kd.int .u8) w A2 l2.length l2) (hc2 : l2.length ≤ c2) (hT : TabOk w) (h : cohousinglaw06_DigestOneByte.f k l0 l1 l2 a3 a4 = some r) :
  Calls Tryd.prog 4 #[.slice A0 l0.length c0, .slice A1 l1.length c1, .slice A2 l2.length c2, .int .i64 a3, .int .u8 a4] w fun e w' => e = .returned (.bool r) ∧ Below w.heap.size w w' := by
 have HR0 := Aside0.mk hr0
 have HC0 := Aside0.mk hc0
 clear hr0 hc0
 have HR1 := Aside0.mk hr1
 have HC1 := Aside0.mk hc1
 clear hr1 hc1
 have HR2 := Aside0.mk hr2
 have HC2 := Aside0.mk hc2
 clear hr2 hc2
 have HT := Aside0.mk hT
 clear hT
 have HB := Aside0.mk (Below.refl w.heap.size w)
 have H : ((cohousinglaw06_head.f).bind fun t263 => (if (l0.length : Int) > 300 then (cohousinglaw06_DigestOneByte.j0 k l0 l1 l2 a3 a4 t263 true) else (if (l1.length : Int) > 300 then (cohousinglaw06_DigestOneByte.j0 k l0 l1 l2 a3 a4 t263 true) else (cohousinglaw06_DigestOneByte.j0 k l0 l1 l2 a3 a4 t263 (decide ((l2.length : Int) > 300)))))) = some r := h
 clear h
 replace H := Option.bind_eq_some_iff.mp H
 obtain ⟨t263, A60, H⟩ := H
 replace H : (if (l0.length : Int) > 300 then (cohousinglaw06_DigestOneByte.j0 k l0 l1 l2 a3 a4 t263 true) else (if (l1.length : Int) > 300 then (cohousinglaw06_DigestOneByte.j0 k l0 l1 l2 a3 a4 t263 true) else (cohousinglaw06_DigestOneByte.j0 k l0 l1 l2 a3 a4 t263 (decide ((l2.length : Int) > 300))))) = some r := H
 have A6 := Aside0.mk A60
 clear A60
 have HC7 := Aside0.mk H
 clear H
 go_enter Tryd.func4, Tryd.ntmps4
 go_upto_region 2 with (first | ((with_reducible refine gate_callee (f := 10) rfl ?_); refine goesL_ (some 16) rfl rfl Tryd.func10 (by kernel_rfl) rfl #[] rfl (by (try simp only [List.map_toArray, List.map_cons, List.map_nil]); first | done | rfl | (simp only [List.length_drop, List.length_take]; rfl)) ?_; (with_reducible refine (cohousinglaw06_head.calls  t263 _ ?side1 A6.out).mono ?_); (case side1 => exact TabOk.below HT.out (by repeat (first | (with_reducible first | exact HB.out | apply below_alloc | apply pw_below_drewN | apply below_drew1) | exact HB.out))); rintro e w8 ⟨rfl, hb⟩; refine ⟨_, rfl, ?_⟩; have n0_ := Aside0.mk (below_step (by repeat (first | (with_reducible first | exact HB.out | apply below_alloc | apply pw_below_drewN | apply below_drew1) | exact HB.out)) hb); clear HB; have HB := n0_; clear n0_; (try clear hb); (try clear hb2); (try clear hk); (try clear hi)))
 (try simp only [Act.put, List.setIfInBounds_toArray, List.set_cons_zero, List.set_cons_succ])
 go_cut [29] (fun v29 wc => ∃ (kq : Nat) (x29_6 : Bool), v29 = .bool x29_6 ∧ Aside0 (cohousinglaw06_DigestOneByte.j0 kq l0 l1 l2 a3 a4 t263 x29_6 = some r) ∧ Aside0 (kq ≤ k) ∧ Aside0 (Below w.heap.size w wc))
 case first =>
  have H := HC7.out
  clear HC7
  by_cases c9 : (l0.length : Int) > 300
  ·rw [if_pos c9] at H
   have c9b0 : decide (300 < (l0.length : Int)) = true := decide_eq_true c9
   have c9b1 : decide (300 < l0.length) = true := decide_eq_true (by omega)
   clear c9
   (first | rw [c9b0] | (simp only [i64_w, i32_w]; rw [c9b0]) | skip)
   have H' := Aside0.mk H
   clear H
   go_wp2
   go_meet
   case rel => exact ⟨_, (true), (by first | rfl | (simp; done) | (simp [*]; done)), H', ⟨by first | omega | exact Nat.le_refl _⟩, ⟨by repeat (first | (with_reducible first | exact HB.out | apply below_alloc | apply pw_below_drewN | apply below_drew1) | exact HB.out)⟩⟩
  ·rw [if_neg c9] at H
   have c9b0 : decide (300 < (l0.length : Int)) = false := decide_eq_false c9
   have c9b1 : decide (300 < l0.length) = false := decide_eq_false (by omega)
   clear c9
   (first | rw [c9b0] | (simp only [i64_w, i32_w]; rw [c9b0]) | skip)
   by_cases c10 : (l1.length : Int) > 300
   ·rw [if_pos c10] at H
    have c10b0 : decide (300 < (l1.length : Int)) = true := decide_eq_true c10
    have c10b1 : decide (300 < l1.length) = true := decide_eq_true (by omega)
    clear c10
    have H' := Aside0.mk H
    clear H
    go_wp2
    go_meet
    case rel => exact ⟨_, (true), (by first | rfl | (simp; done) | (simp [*]; done)), H', ⟨by first | omega | exact Nat.le_refl _⟩, ⟨by repeat (first | (with_reducible first | exact HB.out | apply below_alloc | apply pw_below_drewN | apply below_drew1) | exact HB.out)⟩⟩
   ·rw [if_neg c10] at H
    have c10b0 : decide (300 < (l1.length : Int)) = false := decide_eq_false c10
    have c10b1 : decide (300 < l1.length) = false := decide_eq_false (by omega)
    clear c10
    have H' := Aside0.mk H
    clear H
    go_wp2
    go_meet
    case rel => exact ⟨_, (decide ((l2.length : Int) > 300)), (by first | rfl | (simp; done) | (simp [*]; done)), H', ⟨by first | omega | exact Nat.le_refl _⟩, ⟨by repeat (first | (with_reducible first | exact HB.out | apply below_alloc | apply pw_below_drewN | apply below_drew1) | exact HB.out)⟩⟩
 case rest =>
  clear HC7
  try clear c1
  try clear c2
  try clear p2
  try clear c4
  try clear c9
  try clear c9b0
  try clear c9b1
  try clear c10
  try clear c10b0
  try clear c10b1
  obtain ⟨kq, x29_6, rfl, HA, HJ6, HB⟩ := hcut
  cases kq with
  | zero => exact absurd HA.out (by simp [cohousinglaw06_DigestOneByte.j0])
  | succ kj6 =>
   have H := HA.out
   clear HA
   simp only [cohousinglaw06_DigestOneByte.j0] at H
   by_cases c11 : x29_6 = true
   ·subst c11
    have H1 : (some t263) = some r := by rw [if_pos rfl] at H; exact H
    clear H
    have H := H1
    clear H1
    obtain rfl := Option.some.inj H
    go_wp2
    go_ret
    exact ⟨by first | rfl | (simp [errW_none, errW_some] <;> rfl) | (simp [*, errW_none, errW_some] <;> rfl), by repeat (first | (with_reducible first | exact HB.out | apply below_alloc | apply pw_below_drewN | apply below_drew1) | exact HB.out)⟩
   ·replace c11 := Bool.eq_false_iff.mpr c11
    subst c11
    have H1 : ((some (([] : List Int) : List Int)).bind fun y264 => (if y264.length + l0.length < 140737488355328 then ((some (y264 ++ l0 : List Int)).bind fun y267 => (if y267.length + l2.length < 140737488355328 then ((some (([] : List Int) : List Int)).bind fun y273 => (if y273.length + l1.length < 140737488355328 then ((some (y273 ++ l1 : List Int)).bind fun y276 => (if y276.length + l2.length < 140737488355328 then (if t263 = true then ((digest_Sum.f kj6 (y267 ++ l2)).bind fun t282 => ((digest_Sum.f kj6 (y276 ++ l2)).bind fun t283 => ((digest_Sum.f kj6 l0).bind fun t284 => ((digest_Sum.f kj6 l1).bind fun t285 => (cohousinglaw06_DigestOneByte.j1 kj6 l0 a3 a4 ((t282 == t283) == (t284 == t285))))))) else (cohousinglaw06_DigestOneByte.j1 kj6 l0 a3 a4 false)) else (none))) else (none))) else (none))) else (none))) = some r := by rw [if_neg (show ¬ (false = true) by decide)] at H; exact H
    clear H
    have H := H1
    clear H1
    obtain ⟨y264, hy264⟩ : ∃ y_ : List Int, y_ = (([] : List Int)) := ⟨_, rfl⟩
    replace H : (if y264.length + l0.length < 140737488355328 then ((some (y264 ++ l0 : List Int)).bind fun y267 => (if y267.length + l2.length < 140737488355328 then ((some (([] : List Int) : List Int)).bind fun y273 => (if y273.length + l1.length < 140737488355328 then ((some (y273 ++ l1 : List Int)).bind fun y276 => (if y276.length + l2.length < 140737488355328 then (if t263 = true then ((digest_Sum.f kj6 (y267 ++ l2)).bind fun t282 => ((digest_Sum.f kj6 (y276 ++ l2)).bind fun t283 => ((digest_Sum.f kj6 l0).bind fun t284 => ((digest_Sum.f kj6 l1).bind fun t285 => (cohousinglaw06_DigestOneByte.j1 kj6 l0 a3 a4 ((t282 == t283) == (t284 == t285))))))) else (cohousinglaw06_DigestOneByte.j1 kj6 l0 a3 a4 false)) else (none))) else (none))) else (none))) else (none)) = some r := by first | (rw [hy264]; with_reducible exact H) | (have H2_ := (Option.bind_some _ _).symm.trans H; rw [hy264]; with_reducible exact H2_) | (have H2_ := (Option.bind_some _ _).symm.trans H; with_reducible exact H2_) | with_reducible exact H | (rw [hy264]; exact H) | exact H
    have Ny264 := Aside0.mk hy264
    clear hy264
    by_cases c12 : y264.length + l0.length < 140737488355328
    ·rw [if_pos c12] at H
     have LMc12 := Aside0.mk c12
     clear c12
     obtain ⟨y267, hy267⟩ : ∃ y_ : List Int, y_ = (y264 ++ l0) := ⟨_, rfl⟩
     replace H : (if y267.length + l2.length < 140737488355328 then ((some (([] : List Int) : List Int)).bind fun y273 => (if y273.length + l1.length < 140737488355328 then ((some (y273 ++ l1 : List Int)).bind fun y276 => (if y276.length + l2.length < 140737488355328 then (if t263 = true then ((digest_Sum.f kj6 (y267 ++ l2)).bind fun t282 => ((digest_Sum.f kj6 (y276 ++ l2)).bind fun t283 => ((digest_Sum.f kj6 l0).bind fun t284 => ((digest_Sum.f kj6 l1).bind fun t285 => (cohousinglaw06_DigestOneByte.j1 kj6 l0 a3 a4 ((t282 == t283) == (t284 == t285))))))) else (cohousinglaw06_DigestOneByte.j1 kj6 l0 a3 a4 false)) else (none))) else (none))) else (none)) = some r := by first | (rw [hy267]; with_reducible exact H) | (have H2_ := (Option.bind_some _ _).symm.trans H; rw [hy267]; with_reducible exact H2_) | (have H2_ := (Option.bind_some _ _).symm.trans H; with_reducible exact H2_) | with_reducible exact H | (rw [hy267]; exact H) | exact H
     have Ny267 := Aside0.mk hy267
     clear hy267
     by_cases c13 : y267.length + l2.length < 140737488355328
     ·rw [if_pos c13] at H
      have LMc13 := Aside0.mk c13
      clear c13
      obtain ⟨y270, hy270⟩ : ∃ y_ : List Int, y_ = (y267 ++ l2) := ⟨_, rfl⟩
      replace H : ((some (([] : List Int) : List Int)).bind fun y273 => (if y273.length + l1.length < 140737488355328 then ((some (y273 ++ l1 : List Int)).bind fun y276 => (if y276.length + l2.length < 140737488355328 then (if t263 = true then ((digest_Sum.f kj6 y270).bind fun t282 => ((digest_Sum.f kj6 (y276 ++ l2)).bind fun t283 => ((digest_Sum.f kj6 l0).bind fun t284 => ((digest_Sum.f kj6 l1).bind fun t285 => (cohousinglaw06_DigestOneByte.j1 kj6 l0 a3 a4 ((t282 == t283) == (t284 == t285))))))) else (cohousinglaw06_DigestOneByte.j1 kj6 l0 a3 a4 false)) else (none))) else (none))) = some r := by first | (rw [hy270]; with_reducible exact H) | (have H2_ := (Option.bind_some _ _).symm.trans H; rw [hy270]; with_reducible exact H2_) | (have H2_ := (Option.bind_some _ _).symm.trans H; with_reducible exact H2_) | with_reducible exact H | (rw [hy270]; exact H) | exact H
      have Ny270 := Aside0.mk hy270
      clear hy270
      obtain ⟨y273, hy273⟩ : ∃ y_ : List Int, y_ = (([] : List Int)) := ⟨_, rfl⟩
      replace H : (if y273.length + l1.length < 140737488355328 then ((some (y273 ++ l1 : List Int)).bind fun y276 => (if y276.length + l2.length < 140737488355328 then (if t263 = true then ((digest_Sum.f kj6 y270).bind fun t282 => ((digest_Sum.f kj6 (y276 ++ l2)).bind fun t283 => ((digest_Sum.f kj6 l0).bind fun t284 => ((digest_Sum.f kj6 l1).bind fun t285 => (cohousinglaw06_DigestOneByte.j1 kj6 l0 a3 a4 ((t282 == t283) == (t284 == t285))))))) else (cohousinglaw06_DigestOneByte.j1 kj6 l0 a3 a4 false)) else (none))) else (none)) = some r := by first | (rw [hy273]; with_reducible exact H) | (have H2_ := (Option.bind_some _ _).symm.trans H; rw [hy273]; with_reducible exact H2_) | (have H2_ := (Option.bind_some _ _).symm.trans H; with_reducible exact H2_) | with_reducible exact H | (rw [hy273]; exact H) | exact H
      have Ny273 := Aside0.mk hy273
      clear hy273
      by_cases c14 : y273.length + l1.length < 140737488355328
      ·rw [if_pos c14] at H
       have LMc14 := Aside0.mk c14
       clear c14
       obtain ⟨y276, hy276⟩ : ∃ y_ : List Int, y_ = (y273 ++ l1) := ⟨_, rfl⟩
       replace H : (if y276.length + l2.length < 140737488355328 then (if t263 = true then ((digest_Sum.f kj6 y270).bind fun t282 => ((digest_Sum.f kj6 (y276 ++ l2)).bind fun t283 => ((digest_Sum.f kj6 l0).bind fun t284 => ((digest_Sum.f kj6 l1).bind fun t285 => (cohousinglaw06_DigestOneByte.j1 kj6 l0 a3 a4 ((t282 == t283) == (t284 == t285))))))) else (cohousinglaw06_DigestOneByte.j1 kj6 l0 a3 a4 false)) else (none)) = some r := by first | (rw [hy276]; with_reducible exact H) | (have H2_ := (Option.bind_some _ _).symm.trans H; rw [hy276]; with_reducible exact H2_) | (have H2_ := (Option.bind_some _ _).symm.trans H; with_reducible exact H2_) | with_reducible exact H | (rw [hy276]; exact H) | exact H
       have Ny276 := Aside0.mk hy276
       clear hy276
       by_cases c15 : y276.length + l2.length < 140737488355328
       ·rw [if_pos c15] at H
        have LMc15 := Aside0.mk c15
        clear c15
        obtain ⟨y279, hy279⟩ : ∃ y_ : List Int, y_ = (y276 ++ l2) := ⟨_, rfl⟩
        replace H : (if t263 = true then ((digest_Sum.f kj6 y270).bind fun t282 => ((digest_Sum.f kj6 y279).bind fun t283 => ((digest_Sum.f kj6 l0).bind fun t284 => ((digest_Sum.f kj6 l1).bind fun t285 => (cohousinglaw06_DigestOneByte.j1 kj6 l0 a3 a4 ((t282 == t283) == (t284 == t285))))))) else (cohousinglaw06_DigestOneByte.j1 kj6 l0 a3 a4 false)) = some r := by first | (rw [hy279]; with_reducible exact H) | (have H2_ := (Option.bind_some _ _).symm.trans H; rw [hy279]; with_reducible exact H2_) | (have H2_ := (Option.bind_some _ _).symm.trans H; with_reducible exact H2_) | with_reducible exact H | (rw [hy279]; exact H) | exact H
        have Ny279 := Aside0.mk hy279
        clear hy279
        have HC16 := Aside0.mk H
        clear H
        go_upto_region 6 with (first | ((with_reducible refine gate_dst (N := 31) rfl ?_); (try (refine gate_guard (by rfl) ?_; dsimp only)); refine Kd.R_lit (Kd.int .u8) _ 5 ?hg (N := 31) ?hd (xs := ([] : List Int)) (inner := []) (ok := fun _ => True) (okp := fun _ => True) ?hr ?hp (fun _ hk => hk) trivial (Below.refl _ _) (Nat.le_refl _) (by simp) ?_; (case hd => rfl); (case hg => rfl); (case hr => first | (go_simp; done) | (go_simp; rfl)); (case hp => exact (Reps.none _ _)); intro v265 w17 ho18 hb hg_ hnew_; clear hg_ hnew_; (first | rw [← Ny264.out] at ho18 | (simp only [Int.reduceToNat] at ho18; rw [← Ny264.out] at ho18)); have n0_ := Aside0.mk (Kd.R_lower ho18 (below_size (by repeat (first | (with_reducible first | exact HB.out | apply below_alloc | apply pw_below_drewN | apply below_drew1) | exact HB.out)))); have n1_ := Aside0.mk (below_step (by repeat (first | (with_reducible first | exact HB.out | apply below_alloc | apply pw_below_drewN | apply below_drew1) | exact HB.out)) hb); clear HB; have HO266 := n0_; have HB := n1_; clear n0_ n1_; clear hb ho18) | ((with_reducible refine gate_builtin (b := .append) (xs := #[.tmp 31, .tmp 32]) rfl ?_); (try (refine gate_guard (by rfl) ?_; dsimp only)); at_builtin; refine Kd.R_append_rows (Kd.int .u8) (w0 := w) w.heap.size rfl (.tmp 31) (.tmp 32) 22 5 (.int .u8 0) 1 rfl Tryd.underlying22 info5 rfl (by decide) (by omega) v265 y264 l0 _ _ _ (fun _ => True) (fun _ => False) rfl rfl ?aO ?aR (fun _ _ h => h) (fun _ h => h.elim) ?aF ?aB ?aS ?aL ?_; (case aR => repeat (first | exact (Kd.C_below HR0.out HB.out) | (with_reducible refine Kd.C_alloc ?_ _) | (with_reducible refine Kd.C_drewN ?_ _) | (with_reducible refine Kd.C_drew ?_))); (case aB => exact (by repeat (first | (with_reducible first | exact HB.out | apply below_alloc | apply pw_below_drewN | apply below_drew1) | exact HB.out))); (case aF => exact (fun _ _ => trivial)); (case aO => exact (by (with_reducible repeat (first | apply Kd.R_alloc | apply Kd.R_drewN | apply Kd.R_drew)); exact HO266.out)); (case aS => exact (below_size (by repeat (first | (with_reducible first | exact HB.out | apply below_alloc | apply pw_below_drewN | apply below_drew1) | exact HB.out)))); (case aL => have := LMc12.out; omega); intro v268 w19 ho hb hg hat; rw [← Ny267.out] at ho; have n0_ := Aside0.mk (hb); have n1_ := Aside0.mk (ho); clear HB; clear HO266; have HB := n0_; have HO269 := n1_; clear n0_ n1_; clear ho hb hg hat) | ((with_reducible refine gate_builtin (b := .append) (xs := #[.tmp 33, .tmp 34]) rfl ?_); (try (refine gate_guard (by rfl) ?_; dsimp only)); at_builtin; refine Kd.R_append_rows (Kd.int .u8) (w0 := w) w.heap.size rfl (.tmp 33) (.tmp 34) 22 5 (.int .u8 0) 1 rfl Tryd.underlying22 info5 rfl (by decide) (by omega) v268 y267 l2 _ _ _ (fun _ => True) (fun _ => False) rfl rfl ?aO ?aR (fun _ _ h => h) (fun _ h => h.elim) ?aF ?aB ?aS ?aL ?_; (case aR => repeat (first | exact (Kd.C_below HR2.out HB.out) | (with_reducible refine Kd.C_alloc ?_ _) | (with_reducible refine Kd.C_drewN ?_ _) | (with_reducible refine Kd.C_drew ?_))); (case aB => exact (by repeat (first | (with_reducible first | exact HB.out | apply below_alloc | apply pw_below_drewN | apply below_drew1) | exact HB.out))); (case aF => exact (fun _ _ => trivial)); (case aO => exact (by (with_reducible repeat (first | apply Kd.R_alloc | apply Kd.R_drewN | apply Kd.R_drew)); exact HO269.out)); (case aS => exact (below_size (by repeat (first | (with_reducible first | exact HB.out | apply below_alloc | apply pw_below_drewN | apply below_drew1) | exact HB.out)))); (case aL => have := LMc13.out; omega); intro v271 w20 ho hb hg hat; rw [← Ny270.out] at ho; have n0_ := Aside0.mk (hb); have n1_ := Aside0.mk (ho); clear HB; clear HO269; have HB := n0_; have HO272 := n1_; clear n0_ n1_; clear ho hb hg hat) | ((with_reducible refine gate_dst (N := 36) rfl ?_); (try (refine gate_guard (by rfl) ?_; dsimp only)); refine Kd.R_lit (Kd.int .u8) _ 5 ?hg (N := 36) ?hd (xs := ([] : List Int)) (inner := []) (ok := fun _ => True) (okp := fun _ => True) ?hr ?hp (fun _ hk => hk) trivial (Below.refl _ _) (Nat.le_refl _) (by simp) ?_; (case hd => rfl); (case hg => rfl); (case hr => first | (go_simp; done) | (go_simp; rfl)); (case hp => exact (Reps.none _ _)); intro v274 w21 ho22 hb hg_ hnew_; clear hg_ hnew_; (first | rw [← Ny273.out] at ho22 | (simp only [Int.reduceToNat] at ho22; rw [← Ny273.out] at ho22)); have n0_ := Aside0.mk (Kd.R_elder' (by (with_reducible repeat (first | apply Kd.R_alloc | apply Kd.R_drewN | apply Kd.R_drew)); exact HO272.out) (Kd.R_base ho22) hb); have n1_ := Aside0.mk (Kd.R_lower (Kd.R_new' ho22 (Kd.R_lt (by (with_reducible repeat (first | apply Kd.R_alloc | apply Kd.R_drewN | apply Kd.R_drew)); exact HO272.out))) (below_size (by repeat (first | (with_reducible first | exact HB.out | apply below_alloc | apply pw_below_drewN | apply below_drew1) | exact HB.out)))); have n2_ := Aside0.mk (below_step (by repeat (first | (with_reducible first | exact HB.out | apply below_alloc | apply pw_below_drewN | apply below_drew1) | exact HB.out)) hb); clear HO272; clear HB; have HO272 := n0_; have HO275 := n1_; have HB := n2_; clear n0_ n1_ n2_; clear hb ho22) | ((with_reducible refine gate_builtin (b := .append) (xs := #[.tmp 36, .tmp 37]) rfl ?_); (try (refine gate_guard (by rfl) ?_; dsimp only)); at_builtin; refine Kd.R_append_rows (Kd.int .u8) (w0 := w) w.heap.size rfl (.tmp 36) (.tmp 37) 22 5 (.int .u8 0) 1 rfl Tryd.underlying22 info5 rfl (by decide) (by omega) v274 y273 l1 _ _ _ (fun k_ => some k_ ≠ (v271 : Value).ownBlock) (fun _ => False) rfl rfl ?aO ?aR (fun _ _ h => h) (fun _ h => h.elim) ?aF ?aB ?aS ?aL ?_; (case aR => repeat (first | exact (Kd.C_below HR1.out HB.out) | (with_reducible refine Kd.C_alloc ?_ _) | (with_reducible refine Kd.C_drewN ?_ _) | (with_reducible refine Kd.C_drew ?_))); (case aB => exact (by repeat (first | (with_reducible first | exact HB.out | apply below_alloc | apply pw_below_drewN | apply below_drew1) | exact HB.out))); (case aF => exact (fun k_ hk => Kd.fresh' (Kd.R_lt (by (with_reducible repeat (first | apply Kd.R_alloc | apply Kd.R_drewN | apply Kd.R_drew)); exact HO272.out)) k_ hk)); (case aO => exact (by (with_reducible repeat (first | apply Kd.R_alloc | apply Kd.R_drewN | apply Kd.R_drew)); exact Kd.R_mono HO275.out (fun _ hk => hk.2))); (case aS => exact (below_size (by repeat (first | (with_reducible first | exact HB.out | apply below_alloc | apply pw_below_drewN | apply below_drew1) | exact HB.out)))); (case aL => have := LMc14.out; omega); intro v277 w23 ho hb hg hat; rw [← Ny276.out] at ho; have n0_ := Aside0.mk (Kd.R_after (ok := (fun _ => True)) (by (with_reducible repeat (first | apply Kd.R_alloc | apply Kd.R_drewN | apply Kd.R_drew)); exact HO272.out) hg hat); have n1_ := Aside0.mk (hb); have n2_ := Aside0.mk (ho); clear HO272; clear HB; clear HO275; have HO272 := n0_; have HB := n1_; have HO278 := n2_; clear n0_ n1_ n2_; clear ho hb hg hat) | ((with_reducible refine gate_builtin (b := .append) (xs := #[.tmp 38, .tmp 39]) rfl ?_); (try (refine gate_guard (by rfl) ?_; dsimp only)); at_builtin; refine Kd.R_append_rows (Kd.int .u8) (w0 := w) w.heap.size rfl (.tmp 38) (.tmp 39) 22 5 (.int .u8 0) 1 rfl Tryd.underlying22 info5 rfl (by decide) (by omega) v277 y276 l2 _ _ _ (fun k_ => some k_ ≠ (v271 : Value).ownBlock) (fun _ => False) rfl rfl ?aO ?aR (fun _ _ h => h) (fun _ h => h.elim) ?aF ?aB ?aS ?aL ?_; (case aR => repeat (first | exact (Kd.C_below HR2.out HB.out) | (with_reducible refine Kd.C_alloc ?_ _) | (with_reducible refine Kd.C_drewN ?_ _) | (with_reducible refine Kd.C_drew ?_))); (case aB => exact (by repeat (first | (with_reducible first | exact HB.out | apply below_alloc | apply pw_below_drewN | apply below_drew1) | exact HB.out))); (case aF => exact (fun k_ hk => Kd.fresh' (Kd.R_lt (by (with_reducible repeat (first | apply Kd.R_alloc | apply Kd.R_drewN | apply Kd.R_drew)); exact HO272.out)) k_ hk)); (case aO => exact (by (with_reducible repeat (first | apply Kd.R_alloc | apply Kd.R_drewN | apply Kd.R_drew)); exact HO278.out)); (case aS => exact (below_size (by repeat (first | (with_reducible first | exact HB.out | apply below_alloc | apply pw_below_drewN | apply below_drew1) | exact HB.out)))); (case aL => have := LMc15.out; omega); intro v280 w24 ho hb hg hat; rw [← Ny279.out] at ho; have n0_ := Aside0.mk (Kd.R_after (ok := (fun _ => True)) (by (with_reducible repeat (first | apply Kd.R_alloc | apply Kd.R_drewN | apply Kd.R_drew)); exact HO272.out) hg hat); have n1_ := Aside0.mk (hb); have n2_ := Aside0.mk (ho); clear HO272; clear HB; clear HO278; have HO272 := n0_; have HB := n1_; have HO281 := n2_; clear n0_ n1_ n2_; clear ho hb hg hat))
        (try simp only [Act.put, List.setIfInBounds_toArray, List.set_cons_zero, List.set_cons_succ])
        go_cut [11] (fun v11 wc => ∃ (kq : Nat) (x11_15 : Bool), v11 = .bool x11_15 ∧ Aside0 (cohousinglaw06_DigestOneByte.j1 kq l0 a3 a4 x11_15 = some r) ∧ Aside0 (kq ≤ kj6) ∧ Aside0 (Below w.heap.size w wc))
        case first =>
         have H := HC16.out
         clear HC16
         by_cases c25 : t263 = true
         ·subst c25
          have H1 : ((digest_Sum.f kj6 y270).bind fun t282 => ((digest_Sum.f kj6 y279).bind fun t283 => ((digest_Sum.f kj6 l0).bind fun t284 => ((digest_Sum.f kj6 l1).bind fun t285 => (cohousinglaw06_DigestOneByte.j1 kj6 l0 a3 a4 ((t282 == t283) == (t284 == t285))))))) = some r := by rw [if_pos rfl] at H; exact H
          clear H
          have H := H1
          clear H1
          replace H := Option.bind_eq_some_iff.mp H
          obtain ⟨t282, A260, H⟩ := H
          replace H : ((digest_Sum.f kj6 y279).bind fun t283 => ((digest_Sum.f kj6 l0).bind fun t284 => ((digest_Sum.f kj6 l1).bind fun t285 => (cohousinglaw06_DigestOneByte.j1 kj6 l0 a3 a4 ((t282 == t283) == (t284 == t285)))))) = some r := H
          have A26 := Aside0.mk A260
          clear A260
          replace H := Option.bind_eq_some_iff.mp H
          obtain ⟨t283, A270, H⟩ := H
          replace H : ((digest_Sum.f kj6 l0).bind fun t284 => ((digest_Sum.f kj6 l1).bind fun t285 => (cohousinglaw06_DigestOneByte.j1 kj6 l0 a3 a4 ((t282 == t283) == (t284 == t285))))) = some r := H
          have A27 := Aside0.mk A270
          clear A270
          replace H := Option.bind_eq_some_iff.mp H
          obtain ⟨t284, A280, H⟩ := H
          replace H : ((digest_Sum.f kj6 l1).bind fun t285 => (cohousinglaw06_DigestOneByte.j1 kj6 l0 a3 a4 ((t282 == t283) == (t284 == t285)))) = some r := H
          have A28 := Aside0.mk A280
          clear A280
          replace H := Option.bind_eq_some_iff.mp H
          obtain ⟨t285, A290, H⟩ := H
          replace H : (cohousinglaw06_DigestOneByte.j1 kj6 l0 a3 a4 ((t282 == t283) == (t284 == t285))) = some r := H
          have A29 := Aside0.mk A290
          clear A290
          have H' := Aside0.mk H
          clear H
          obtain ⟨Ao30, co30, eo30⟩ := Kd.R_slice HO272.out
          subst eo30
          go_wp2_with (first | (go_at_call 11; (with_reducible refine (digest_Sum.calls kj6 _ _ y270 t282 _ ?side1 ?side2 A26.out).mono ?_); (case side1 => repeat (first | exact (Kd.R_reads' HO272.out).2.2 | (with_reducible refine Kd.C_alloc ?_ _) | (with_reducible refine Kd.C_drewN ?_ _) | (with_reducible refine Kd.C_drew ?_))); (case side2 => exact (Kd.R_reads' HO272.out).2.1); rintro e w' ⟨rfl, ⟨nd, rfl⟩⟩; obtain ⟨Ao31, co31, eo31⟩ := Kd.R_slice HO281.out; subst eo31) | (go_at_call 11; (with_reducible refine (digest_Sum.calls kj6 _ _ y279 t283 _ ?side1 ?side2 A27.out).mono ?_); (case side1 => repeat (first | exact (Kd.R_reads' HO281.out).2.2 | (with_reducible refine Kd.C_alloc ?_ _) | (with_reducible refine Kd.C_drewN ?_ _) | (with_reducible refine Kd.C_drew ?_))); (case side2 => exact (Kd.R_reads' HO281.out).2.1); rintro e w' ⟨rfl, ⟨nd, rfl⟩⟩) | (go_at_call 11; (with_reducible refine (digest_Sum.calls kj6 _ _ l0 t284 _ ?side1 ?side2 A28.out).mono ?_); (case side1 => repeat (first | exact (Kd.C_below HR0.out (by repeat (first | (with_reducible first | exact HB.out | apply below_alloc | apply pw_below_drewN | apply below_drew1) | exact HB.out))) | (with_reducible refine Kd.C_alloc ?_ _) | (with_reducible refine Kd.C_drewN ?_ _) | (with_reducible refine Kd.C_drew ?_))); (case side2 => exact HC0.out); rintro e w' ⟨rfl, ⟨nd, rfl⟩⟩) | (go_at_call 11; (with_reducible refine (digest_Sum.calls kj6 _ _ l1 t285 _ ?side1 ?side2 A29.out).mono ?_); (case side1 => repeat (first | exact (Kd.C_below HR1.out (by repeat (first | (with_reducible first | exact HB.out | apply below_alloc | apply pw_below_drewN | apply below_drew1) | exact HB.out))) | (with_reducible refine Kd.C_alloc ?_ _) | (with_reducible refine Kd.C_drewN ?_ _) | (with_reducible refine Kd.C_drew ?_))); (case side2 => exact HC1.out); rintro e w' ⟨rfl, ⟨nd, rfl⟩⟩))
          go_meet
          case rel => exact ⟨_, (((t282 == t283) == (t284 == t285))), (by first | rfl | (simp; done) | (simp [*]; done)), H', ⟨by have := HJ6.out; first | omega | exact Nat.le_refl _⟩, ⟨by repeat (first | (with_reducible first | exact HB.out | apply below_alloc | apply pw_below_drewN | apply below_drew1) | exact HB.out)⟩⟩
         ·replace c25 := Bool.eq_false_iff.mpr c25
          subst c25
          have H1 : (cohousinglaw06_DigestOneByte.j1 kj6 l0 a3 a4 false) = some r := by rw [if_neg (show ¬ (false = true) by decide)] at H; exact H
          clear H
          have H := H1
          clear H1
          have H' := Aside0.mk H
          clear H
          go_wp2
          go_meet
          case rel => exact ⟨_, (false), (by first | rfl | (simp; done) | (simp [*]; done)), H', ⟨by have := HJ6.out; first | omega | exact Nat.le_refl _⟩, ⟨by repeat (first | (with_reducible first | exact HB.out | apply below_alloc | apply pw_below_drewN | apply below_drew1) | exact HB.out)⟩⟩
        case rest =>
         clear HC16
         try clear c1
         try clear c2
         try clear p2
         try clear c4
         try clear c9
         try clear c9b0
         try clear c9b1
         try clear c10
         try clear c10b0
         try clear c10b1
         try clear c11
         try clear c12
         try clear c13
         try clear c14
         try clear c15
         try clear c25
         try clear p2
         obtain ⟨kq, x11_15, rfl, HA, HJ15, HB⟩ := hcut
         cases kq with
         | zero => exact absurd HA.out (by simp [cohousinglaw06_DigestOneByte.j1])
         | succ kj15 =>
          have H := HA.out
          clear HA
          simp only [cohousinglaw06_DigestOneByte.j1] at H
          have HC32 := Aside0.mk H
          clear H
          go_upto_region 7 with (fail)
          go_cut [61] (fun v61 wc => ∃ (kq : Nat) (x61_31 : Bool), v61 = .bool x61_31 ∧ Aside0 (cohousinglaw06_DigestOneByte.j2 kq l0 a3 a4 x11_15 x61_31 = some r) ∧ Aside0 (kq ≤ kj15) ∧ Aside0 (Below w.heap.size w wc))
          case first =>
           have H := HC32.out
           clear HC32
           by_cases c33 : (l0.length : Int) = 0
           ·rw [if_pos c33] at H
            have c33b0 : ((l0.length : Int) == 0) = true := beq_iff_eq.mpr c33
            have c33b1 : ((l0.length : Int) != 0) = false := bne_eq_false_iff_eq.mpr c33
            clear c33
            (first | rw [c33b0] | (simp only [i64_w, i32_w]; rw [c33b0]) | skip)
            have H' := Aside0.mk H
            clear H
            go_wp2
            go_meet
            case rel => exact ⟨_, (true), (by first | rfl | (simp; done) | (simp [*]; done)), H', ⟨by have := HJ6.out; have := HJ15.out; first | omega | exact Nat.le_refl _⟩, ⟨by repeat (first | (with_reducible first | exact HB.out | apply below_alloc | apply pw_below_drewN | apply below_drew1) | exact HB.out)⟩⟩
           ·rw [if_neg c33] at H
            have c33b0 : ((l0.length : Int) == 0) = false := beq_eq_false_iff_ne.mpr c33
            have c33b1 : ((l0.length : Int) != 0) = true := bne_iff_ne.mpr c33
            have c33b2 : ¬ (l0 = []) := fun h_ => c33 (by rw [h_]; rfl)
            (first | rw [c33b0] | (simp only [i64_w, i32_w]; rw [c33b0]) | skip)
            have H' := Aside0.mk H
            clear H
            go_wp2
            go_meet
            case rel => exact ⟨_, ((a4 == 0)), (by first | rfl | (simp; done) | (simp [*]; done)), H', ⟨by have := HJ6.out; have := HJ15.out; first | omega | exact Nat.le_refl _⟩, ⟨by repeat (first | (with_reducible first | exact HB.out | apply below_alloc | apply pw_below_drewN | apply below_drew1) | exact HB.out)⟩⟩
          case rest =>
           clear HC32
           try clear c1
           try clear c2
           try clear p2
           try clear c3
           try clear c4
           try clear c9
           try clear c9b0
           try clear c9b1
           try clear c10
           try clear c10b0
           try clear c10b1
           try clear c11
           try clear c12
           try clear c13
           try clear c14
           try clear c15
           try clear c25
           try clear c33
           try clear c33b0
           try clear c33b1
           try clear c33b2
           try clear p2
           obtain ⟨kq, x61_31, rfl, HA, HJ31, HB⟩ := hcut
           cases kq with
           | zero => exact absurd HA.out (by simp [cohousinglaw06_DigestOneByte.j2])
           | succ kj31 =>
            have H := HA.out
            clear HA
            simp only [cohousinglaw06_DigestOneByte.j2] at H
            by_cases c34 : x61_31 = true
            ·subst c34
             have H1 : (some x11_15) = some r := by rw [if_pos rfl] at H; exact H
             clear H
             have H := H1
             clear H1
             obtain rfl := Option.some.inj H
             go_wp2
             go_ret
             exact ⟨by first | rfl | (simp [errW_none, errW_some] <;> rfl) | (simp [*, errW_none, errW_some] <;> rfl), by repeat (first | (with_reducible first | exact HB.out | apply below_alloc | apply pw_below_drewN | apply below_drew1) | exact HB.out)⟩
            ·replace c34 := Bool.eq_false_iff.mpr c34
             subst c34
             have H1 : ((some (([] : List Int) : List Int)).bind fun y286 => (if y286.length + l0.length < 140737488355328 then ((some (y286 ++ l0 : List Int)).bind fun y289 => (if (l0.length : Int) = 0 then (none) else (if 0 ≤ (Int.tmod (wrap64 ((Int.tmod a3 (l0.length : Int)) + (l0.length : Int))) (l0.length : Int)) then (if (Int.tmod (wrap64 ((Int.tmod a3 (l0.length : Int)) + (l0.length : Int))) (l0.length : Int)) < (y289.length : Int) then (if x11_15 = true then ((digest_Sum.f kj31 (y289.set ((Int.tmod (wrap64 ((Int.tmod a3 (l0.length : Int)) + (l0.length : Int))) (l0.length : Int)) : Int).toNat (Go.bits .xor .u8 (rd y289 (Int.tmod (wrap64 ((Int.tmod a3 (l0.length : Int)) + (l0.length : Int))) (l0.length : Int))) a4))).bind fun t294 => ((digest_Sum.f kj31 l0).bind fun t295 => (some (t294 != t295)))) else (some false)) else (none)) else (none)))) else (none))) = some r := by rw [if_neg (show ¬ (false = true) by decide)] at H; exact H
             clear H
             have H := H1
             clear H1
             obtain ⟨y286, hy286⟩ : ∃ y_ : List Int, y_ = (([] : List Int)) := ⟨_, rfl⟩
             replace H : (if y286.length + l0.length < 140737488355328 then ((some (y286 ++ l0 : List Int)).bind fun y289 => (if (l0.length : Int) = 0 then (none) else (if 0 ≤ (Int.tmod (wrap64 ((Int.tmod a3 (l0.length : Int)) + (l0.length : Int))) (l0.length : Int)) then (if (Int.tmod (wrap64 ((Int.tmod a3 (l0.length : Int)) + (l0.length : Int))) (l0.length : Int)) < (y289.length : Int) then (if x11_15 = true then ((digest_Sum.f kj31 (y289.set ((Int.tmod (wrap64 ((Int.tmod a3 (l0.length : Int)) + (l0.length : Int))) (l0.length : Int)) : Int).toNat (Go.bits .xor .u8 (rd y289 (Int.tmod (wrap64 ((Int.tmod a3 (l0.length : Int)) + (l0.length : Int))) (l0.length : Int))) a4))).bind fun t294 => ((digest_Sum.f kj31 l0).bind fun t295 => (some (t294 != t295)))) else (some false)) else (none)) else (none)))) else (none)) = some r := by first | (rw [hy286]; with_reducible exact H) | (have H2_ := (Option.bind_some _ _).symm.trans H; rw [hy286]; with_reducible exact H2_) | (have H2_ := (Option.bind_some _ _).symm.trans H; with_reducible exact H2_) | with_reducible exact H | (rw [hy286]; exact H) | exact H
             have Ny286 := Aside0.mk hy286
             clear hy286
             by_cases c35 : y286.length + l0.length < 140737488355328
             ·rw [if_pos c35] at H
              have LMc35 := Aside0.mk c35
              clear c35
              obtain ⟨y289, hy289⟩ : ∃ y_ : List Int, y_ = (y286 ++ l0) := ⟨_, rfl⟩
              replace H : (if (l0.length : Int) = 0 then (none) else (if 0 ≤ (Int.tmod (wrap64 ((Int.tmod a3 (l0.length : Int)) + (l0.length : Int))) (l0.length : Int)) then (if (Int.tmod (wrap64 ((Int.tmod a3 (l0.length : Int)) + (l0.length : Int))) (l0.length : Int)) < (y289.length : Int) then (if x11_15 = true then ((digest_Sum.f kj31 (y289.set ((Int.tmod (wrap64 ((Int.tmod a3 (l0.length : Int)) + (l0.length : Int))) (l0.length : Int)) : Int).toNat (Go.bits .xor .u8 (rd y289 (Int.tmod (wrap64 ((Int.tmod a3 (l0.length : Int)) + (l0.length : Int))) (l0.length : Int))) a4))).bind fun t294 => ((digest_Sum.f kj31 l0).bind fun t295 => (some (t294 != t295)))) else (some false)) else (none)) else (none))) = some r := by first | (rw [hy289]; with_reducible exact H) | (have H2_ := (Option.bind_some _ _).symm.trans H; rw [hy289]; with_reducible exact H2_) | (have H2_ := (Option.bind_some _ _).symm.trans H; with_reducible exact H2_) | with_reducible exact H | (rw [hy289]; exact H) | exact H
              have Ny289 := Aside0.mk hy289
              clear hy289
              by_cases c36 : (l0.length : Int) = 0
              ·rw [if_pos c36] at H
               exact absurd H (by simp)
              ·rw [if_neg c36] at H
               have c36b0 : ((l0.length : Int) == 0) = false := beq_eq_false_iff_ne.mpr c36
               have c36b1 : ((l0.length : Int) != 0) = true := bne_iff_ne.mpr c36
               have c36b2 : ¬ (l0 = []) := fun h_ => c36 (by rw [h_]; rfl)
               obtain ⟨ji37, hji37⟩ : ∃ j_ : Int, (Int.tmod (wrap64 ((Int.tmod a3 (l0.length : Int)) + (l0.length : Int))) (l0.length : Int)) = j_ := ⟨_, rfl⟩
               replace H : (if 0 ≤ (ji37) then (if (ji37) < (y289.length : Int) then (if x11_15 = true then ((digest_Sum.f kj31 (y289.set ((ji37) : Int).toNat (Go.bits .xor .u8 (rd y289 (ji37)) a4))).bind fun t294 => ((digest_Sum.f kj31 l0).bind fun t295 => (some (t294 != t295)))) else (some false)) else (none)) else (none)) = some r := by first | (rw [hji37] at H; exact H) | (simp only [hji37] at H ⊢; exact H)
               by_cases c38 : 0 ≤ (ji37)
               ·rw [if_pos c38] at H
                have c38b0 : decide (0 ≤ (ji37)) = true := decide_eq_true c38
                clear c38
                by_cases c39 : (ji37) < (y289.length : Int)
                ·rw [if_pos c39] at H
                 have c39b0 : decide ((ji37) < (y289.length : Int)) = true := decide_eq_true c39
                 clear c39
                 obtain ⟨y293, hy293⟩ : ∃ y_ : List Int, y_ = (y289.set ((ji37) : Int).toNat (Go.bits .xor .u8 (rd y289 (ji37)) a4)) := ⟨_, rfl⟩
                 replace H : (if x11_15 = true then ((digest_Sum.f kj31 y293).bind fun t294 => ((digest_Sum.f kj31 l0).bind fun t295 => (some (t294 != t295)))) else (some false)) = some r := by first | (rw [hy293]; with_reducible exact H) | (have H2_ := (Option.bind_some _ _).symm.trans H; rw [hy293]; with_reducible exact H2_) | (have H2_ := (Option.bind_some _ _).symm.trans H; with_reducible exact H2_) | with_reducible exact H | (rw [hy293]; exact H) | exact H
                 have Ny293 := Aside0.mk hy293
                 clear hy293
                 by_cases c41 : x11_15 = true
                 ·subst c41
                  have H1 : ((digest_Sum.f kj31 y293).bind fun t294 => ((digest_Sum.f kj31 l0).bind fun t295 => (some (t294 != t295)))) = some r := by rw [if_pos rfl] at H; exact H
                  clear H
                  have H := H1
                  clear H1
                  replace H := Option.bind_eq_some_iff.mp H
                  obtain ⟨t294, A420, H⟩ := H
                  replace H : ((digest_Sum.f kj31 l0).bind fun t295 => (some (t294 != t295))) = some r := H
                  have A42 := Aside0.mk A420
                  clear A420
                  replace H := Option.bind_eq_some_iff.mp H
                  obtain ⟨t295, A430, H⟩ := H
                  replace H : (some (t294 != t295)) = some r := H
                  have A43 := Aside0.mk A430
                  clear A430
                  obtain rfl := Option.some.inj H
                  go_wp2_with (first | ((with_reducible refine gate_dst (N := 63) rfl ?_); (try (refine gate_guard (by rfl) ?_; dsimp only)); refine Kd.R_lit (Kd.int .u8) _ 5 ?hg (N := 63) ?hd (xs := ([] : List Int)) (inner := []) (ok := fun _ => True) (okp := fun _ => True) ?hr ?hp (fun _ hk => hk) trivial (Below.refl _ _) (Nat.le_refl _) (by simp) ?_; (case hd => rfl); (case hg => rfl); (case hr => first | (go_simp; done) | (go_simp; rfl)); (case hp => exact (Reps.none _ _)); intro v287 w44 ho45 hb hg_ hnew_; clear hg_ hnew_; (first | rw [← Ny286.out] at ho45 | (simp only [Int.reduceToNat] at ho45; rw [← Ny286.out] at ho45)); have n0_ := Aside0.mk (Kd.R_lower ho45 (below_size (by repeat (first | (with_reducible first | exact HB.out | apply below_alloc | apply pw_below_drewN | apply below_drew1) | exact HB.out)))); have n1_ := Aside0.mk (below_step (by repeat (first | (with_reducible first | exact HB.out | apply below_alloc | apply pw_below_drewN | apply below_drew1) | exact HB.out)) hb); clear HB; have HO288 := n0_; have HB := n1_; clear n0_ n1_; clear hb ho45) | ((with_reducible refine gate_builtin (b := .append) (xs := #[.tmp 63, .tmp 64]) rfl ?_); (try (refine gate_guard (by rfl) ?_; dsimp only)); at_builtin; refine Kd.R_append_rows (Kd.int .u8) (w0 := w) w.heap.size rfl (.tmp 63) (.tmp 64) 22 5 (.int .u8 0) 1 rfl Tryd.underlying22 info5 rfl (by decide) (by omega) v287 y286 l0 _ _ _ (fun _ => True) (fun _ => False) rfl rfl ?aO ?aR (fun _ _ h => h) (fun _ h => h.elim) ?aF ?aB ?aS ?aL ?_; (case aR => repeat (first | exact (Kd.C_below HR0.out HB.out) | (with_reducible refine Kd.C_alloc ?_ _) | (with_reducible refine Kd.C_drewN ?_ _) | (with_reducible refine Kd.C_drew ?_))); (case aB => exact (by repeat (first | (with_reducible first | exact HB.out | apply below_alloc | apply pw_below_drewN | apply below_drew1) | exact HB.out))); (case aF => exact (fun _ _ => trivial)); (case aO => exact (by (with_reducible repeat (first | apply Kd.R_alloc | apply Kd.R_drewN | apply Kd.R_drew)); exact HO288.out)); (case aS => exact (below_size (by repeat (first | (with_reducible first | exact HB.out | apply below_alloc | apply pw_below_drewN | apply below_drew1) | exact HB.out)))); (case aL => have := LMc35.out; omega); intro v290 w46 ho hb hg hat; rw [← Ny289.out] at ho; have n0_ := Aside0.mk (hb); have n1_ := Aside0.mk (ho); clear HB; clear HO288; have HB := n0_; have HO291 := n1_; clear n0_ n1_; clear ho hb hg hat; obtain ⟨Ao47, co47, eo47⟩ := Kd.R_slice HO291.out; subst eo47; have p292 : 0 ≤ ((ji37) : Int) := of_decide_eq_true (by first | (with_reducible assumption) | assumption); have q292 : (ji37) < (y289.length : Int) := of_decide_eq_true (by first | (with_reducible assumption) | assumption); obtain ⟨ad292, e292, hx292_0⟩ := Kd.at_int (Kd.R_reads' HO291.out).2.2 (ji37) p292 q292; cases e292; replace p292 := eq_true p292; replace q292 := eq_true q292; have p40 : 0 ≤ ((ji37) : Int) := of_decide_eq_true (by first | (with_reducible assumption) | assumption); have q40 : ((ji37) : Int) < ((y289.length : Int) : Int) := of_decide_eq_true (by first | (with_reducible assumption) | assumption); obtain ⟨go40, co40, eo40, gb40, gl40, cl40, HG40⟩ := Kd.R_form HO291.out (by omega); (first | cases eo40 | (injection eo40 with ea_ en_ ec_; (first | subst ea_ | (injection ea_ with ea_; subst ea_)); subst ec_; clear en_)); have GB40 := Aside0.mk gb40; have GG40 := Aside0.mk HG40; clear gb40 gl40 HG40; (first | simp only [add_plain] at hx292_0 | skip); obtain ⟨hx40_0, hf40_0⟩ := Kd.R_celln 0 HO291.out ((ji37) : Int) p40 q40; replace p40 := eq_true p40; replace q40 := eq_true q40; obtain ⟨hy48_, hz48_⟩ := Kd.R_celln 0 HO291.out ((ji37) : Int) (of_decide_eq_true (by first | (with_reducible assumption) | assumption)) (of_decide_eq_true (by first | (with_reducible assumption) | assumption)); have HP48 := Kd.R_putg HO291.out ((ji37) : Int) (Go.bits .xor .u8 (rd y289 (ji37)) a4)) | ((with_reducible refine gate_store (t := 5) (p := 82) rfl ?_); refine store_event (t := 5) (p := 82) (v := ?vo_w49) (w1 := (w46.setCell ⟨go40, ((ji37) : Int).toNat, none⟩ (.int .u8 (Go.bits .xor .u8 (rd y289 (ji37)) a4)))) ?hg ?ho ?hn ?hr ?_; (case ho => rfl); (case hg => rfl); (case hn => rfl); (case hr => first | (go_simp; done) | (go_simp; rfl)); intro w49 hw; have hg : w46.grownBy w49 (some go40) := (by rw [hw]; exact HP48.2); have hp_ : Kd.R (Kd.int .u8) 5 w49 w.heap.size (fun _ => True) (.slice (some ⟨go40, 0, none⟩) y289.length co47) y293 := (by rw [hw, Ny293.out]; exact HP48.1); clear HP48; have n0_ := Aside0.mk (hp_); have n1_ := Aside0.mk ((by rw [hw]; exact below_set (HB.out) GB40.out : Below w.heap.size w w49)); clear HO291; clear HB; have HO291 := n0_; have HB := n1_; clear n0_ n1_; clear hg hw hp_) | (go_at_call 11; refine calls_of_args (args' := #[.slice (some ⟨go40, 0, none⟩) y293.length co47]) (by first | (rw [show y293.length = y289.length from (Kd.R_reads' HO291.out).1.symm] <;> rfl) | rfl) ?_; (with_reducible refine (digest_Sum.calls kj31 _ _ y293 t294 _ ?side1 ?side2 A42.out).mono ?_); (case side1 => repeat (first | exact (Kd.R_reads' HO291.out).2.2 | (with_reducible refine Kd.C_alloc ?_ _) | (with_reducible refine Kd.C_drewN ?_ _) | (with_reducible refine Kd.C_drew ?_))); (case side2 => rw [show y293.length = y289.length from (Kd.R_reads' HO291.out).1.symm]; exact (Kd.R_reads' HO291.out).2.1); rintro e w' ⟨rfl, ⟨nd, rfl⟩⟩) | (go_at_call 11; (with_reducible refine (digest_Sum.calls kj31 _ _ l0 t295 _ ?side1 ?side2 A43.out).mono ?_); (case side1 => repeat (first | exact (Kd.C_below HR0.out (by repeat (first | (with_reducible first | exact HB.out | apply below_alloc | apply pw_below_drewN | apply below_drew1) | exact HB.out))) | (with_reducible refine Kd.C_alloc ?_ _) | (with_reducible refine Kd.C_drewN ?_ _) | (with_reducible refine Kd.C_drew ?_))); (case side2 => exact HC0.out); rintro e w' ⟨rfl, ⟨nd, rfl⟩⟩))
                  go_ret
                  exact ⟨by first | rfl | (simp [errW_none, errW_some] <;> rfl) | (simp only [← hji37]; first | rfl | (simp [errW_none, errW_some] <;> rfl)) | (simp [*, errW_none, errW_some] <;> rfl), by repeat (first | (with_reducible first | exact HB.out | apply below_alloc | apply pw_below_drewN | apply below_drew1) | exact HB.out)⟩
                 ·replace c41 := Bool.eq_false_iff.mpr c41
                  subst c41
                  have H1 : (some false) = some r := by rw [if_neg (show ¬ (false = true) by decide)] at H; exact H
                  clear H
                  have H := H1
                  clear H1
                  obtain rfl := Option.some.inj H
                  go_wp2_with (first | ((with_reducible refine gate_dst (N := 63) rfl ?_); (try (refine gate_guard (by rfl) ?_; dsimp only)); refine Kd.R_lit (Kd.int .u8) _ 5 ?hg (N := 63) ?hd (xs := ([] : List Int)) (inner := []) (ok := fun _ => True) (okp := fun _ => True) ?hr ?hp (fun _ hk => hk) trivial (Below.refl _ _) (Nat.le_refl _) (by simp) ?_; (case hd => rfl); (case hg => rfl); (case hr => first | (go_simp; done) | (go_simp; rfl)); (case hp => exact (Reps.none _ _)); intro v287 w50 ho51 hb hg_ hnew_; clear hg_ hnew_; (first | rw [← Ny286.out] at ho51 | (simp only [Int.reduceToNat] at ho51; rw [← Ny286.out] at ho51)); have n0_ := Aside0.mk (Kd.R_lower ho51 (below_size (by repeat (first | (with_reducible first | exact HB.out | apply below_alloc | apply pw_below_drewN | apply below_drew1) | exact HB.out)))); have n1_ := Aside0.mk (below_step (by repeat (first | (with_reducible first | exact HB.out | apply below_alloc | apply pw_below_drewN | apply below_drew1) | exact HB.out)) hb); clear HB; have HO288 := n0_; have HB := n1_; clear n0_ n1_; clear hb ho51) | ((with_reducible refine gate_builtin (b := .append) (xs := #[.tmp 63, .tmp 64]) rfl ?_); (try (refine gate_guard (by rfl) ?_; dsimp only)); at_builtin; refine Kd.R_append_rows (Kd.int .u8) (w0 := w) w.heap.size rfl (.tmp 63) (.tmp 64) 22 5 (.int .u8 0) 1 rfl Tryd.underlying22 info5 rfl (by decide) (by omega) v287 y286 l0 _ _ _ (fun _ => True) (fun _ => False) rfl rfl ?aO ?aR (fun _ _ h => h) (fun _ h => h.elim) ?aF ?aB ?aS ?aL ?_; (case aR => repeat (first | exact (Kd.C_below HR0.out HB.out) | (with_reducible refine Kd.C_alloc ?_ _) | (with_reducible refine Kd.C_drewN ?_ _) | (with_reducible refine Kd.C_drew ?_))); (case aB => exact (by repeat (first | (with_reducible first | exact HB.out | apply below_alloc | apply pw_below_drewN | apply below_drew1) | exact HB.out))); (case aF => exact (fun _ _ => trivial)); (case aO => exact (by (with_reducible repeat (first | apply Kd.R_alloc | apply Kd.R_drewN | apply Kd.R_drew)); exact HO288.out)); (case aS => exact (below_size (by repeat (first | (with_reducible first | exact HB.out | apply below_alloc | apply pw_below_drewN | apply below_drew1) | exact HB.out)))); (case aL => have := LMc35.out; omega); intro v290 w52 ho hb hg hat; rw [← Ny289.out] at ho; have n0_ := Aside0.mk (hb); have n1_ := Aside0.mk (ho); clear HB; clear HO288; have HB := n0_; have HO291 := n1_; clear n0_ n1_; clear ho hb hg hat; obtain ⟨Ao53, co53, eo53⟩ := Kd.R_slice HO291.out; subst eo53; have p292 : 0 ≤ ((ji37) : Int) := of_decide_eq_true (by first | (with_reducible assumption) | assumption); have q292 : (ji37) < (y289.length : Int) := of_decide_eq_true (by first | (with_reducible assumption) | assumption); obtain ⟨ad292, e292, hx292_0⟩ := Kd.at_int (Kd.R_reads' HO291.out).2.2 (ji37) p292 q292; cases e292; replace p292 := eq_true p292; replace q292 := eq_true q292; have p40 : 0 ≤ ((ji37) : Int) := of_decide_eq_true (by first | (with_reducible assumption) | assumption); have q40 : ((ji37) : Int) < ((y289.length : Int) : Int) := of_decide_eq_true (by first | (with_reducible assumption) | assumption); obtain ⟨go40, co40, eo40, gb40, gl40, cl40, HG40⟩ := Kd.R_form HO291.out (by omega); (first | cases eo40 | (injection eo40 with ea_ en_ ec_; (first | subst ea_ | (injection ea_ with ea_; subst ea_)); subst ec_; clear en_)); have GB40 := Aside0.mk gb40; have GG40 := Aside0.mk HG40; clear gb40 gl40 HG40; (first | simp only [add_plain] at hx292_0 | skip); obtain ⟨hx40_0, hf40_0⟩ := Kd.R_celln 0 HO291.out ((ji37) : Int) p40 q40; replace p40 := eq_true p40; replace q40 := eq_true q40; obtain ⟨hy54_, hz54_⟩ := Kd.R_celln 0 HO291.out ((ji37) : Int) (of_decide_eq_true (by first | (with_reducible assumption) | assumption)) (of_decide_eq_true (by first | (with_reducible assumption) | assumption)); have HP54 := Kd.R_putg HO291.out ((ji37) : Int) (Go.bits .xor .u8 (rd y289 (ji37)) a4)) | ((with_reducible refine gate_store (t := 5) (p := 82) rfl ?_); refine store_event (t := 5) (p := 82) (v := ?vo_w55) (w1 := (w52.setCell ⟨go40, ((ji37) : Int).toNat, none⟩ (.int .u8 (Go.bits .xor .u8 (rd y289 (ji37)) a4)))) ?hg ?ho ?hn ?hr ?_; (case ho => rfl); (case hg => rfl); (case hn => rfl); (case hr => first | (go_simp; done) | (go_simp; rfl)); intro w55 hw; have hg : w52.grownBy w55 (some go40) := (by rw [hw]; exact HP54.2); have hp_ : Kd.R (Kd.int .u8) 5 w55 w.heap.size (fun _ => True) (.slice (some ⟨go40, 0, none⟩) y289.length co53) y293 := (by rw [hw, Ny293.out]; exact HP54.1); clear HP54; have n0_ := Aside0.mk (hp_); have n1_ := Aside0.mk ((by rw [hw]; exact below_set (HB.out) GB40.out : Below w.heap.size w w55)); clear HO291; clear HB; have HO291 := n0_; have HB := n1_; clear n0_ n1_; clear hg hw hp_))
                  go_ret
                  exact ⟨by first | rfl | (simp [errW_none, errW_some] <;> rfl) | (simp only [← hji37]; first | rfl | (simp [errW_none, errW_some] <;> rfl)) | (simp [*, errW_none, errW_some] <;> rfl), by repeat (first | (with_reducible first | exact HB.out | apply below_alloc | apply pw_below_drewN | apply below_drew1) | exact HB.out)⟩
                ·rw [if_neg c39] at H
                 exact absurd H (by simp)
               ·rw [if_neg c38] at H
                exact absurd H (by simp)
             ·rw [if_neg c35] at H
              exact absurd H (by simp)
       ·rw [if_neg c15] at H
        exact absurd H (by simp)
      ·rw [if_neg c14] at H
       exact absurd H (by simp)
     ·rw [if_neg c13] at H
      exact absurd H (by simp)
    ·rw [if_neg c12] at H
     exact absurd H (by simp)

-- NOT PRINTED: function 5 (cohousinglaw06_DigestNumbers)

end Go.Proofs.YtolgpnbjjehdiaaDoor.P
