-- Written by a program of this session out of the translation (wip/pp: the kit's print, turned). Not trusted: Lean checks it.
import Derived.Test.YtcnkenknbmmglaaDoorPx0
import Derived.Test.YtcnkenknbmmglaaDoorPx12
import Derived.Test.YtcnkenknbmmglaaDoorPx13
import Derived.Test.YtcnkenknbmmglaaDoorPx14
namespace Go.Proofs.YtcnkenknbmmglaaDoor.P
open Go.RowKit Go.Proofs.YtcnkenknbmmglaaDoorW.PrintWords Go.Proofs.YtcnkenknbmmglaaDoorW.PrintLast Go.Proofs.YtcnkenknbmmglaaDoorW.PrintMore
attribute [local go_sem] max2_int min2_int max_two min_two max_three min_three max_four min_four   -- for this text's walks alone
set_option linter.unusedVariables false
set_option linter.unusedSimpArgs false

/-! ### cohousingref20_formed: function 41 -/
mutual
def cohousingref20_formed.j0 : Nat → List Int → List (S28) → Bool → Option (Bool)
 | 0, _, _, _ => none
 | k + 1, x1, x3, x42 => if x42 = true then (some false) else (cohousingref20_formed.l0 k x1 x3 0)
def cohousingref20_formed.l0 : Nat → List Int → List (S28) → Int → Option (Bool)
 | 0, _, _, _ => none
 | k + 1, x1, x3, x10 => if x10 < (x1.length : Int) then (if 0 ≤ x10 then ((cohousingref20_home.f (rd x1 x10)).bind fun t273 => (if t273 = true then (if x10 > 0 then (if 0 ≤ (wrap64 (x10 - 1)) then (if (wrap64 (x10 - 1)) < (x1.length : Int) then (if (rd x1 x10) ≤ (rd x1 (wrap64 (x10 - 1))) then (some false) else (cohousingref20_formed.l0 k x1 x3 (wrap64 (x10 + 1)))) else (none)) else (none)) else (cohousingref20_formed.l0 k x1 x3 (wrap64 (x10 + 1)))) else (some false))) else (none)) else (if 0 < (x3.length : Int) then ((cohousingref20_home.f ((rd_T28 x3 0).f0)).bind fun t277 => ((cohousingref20_Public.f k ((rd_T28 x3 0).f1)).bind fun t279 => ((cohousingref20_day.f ((rd_T28 x3 0).f2)).bind fun t281 => ((cohousingref20_in.f k x1 ((rd_T28 x3 0).f0)).bind fun t283 => (if t277 = true then (if t279 = true then (if t281 = true then (cohousingref20_formed.j2 k x3 t283) else (cohousingref20_formed.j2 k x3 true)) else (cohousingref20_formed.j2 k x3 true)) else (cohousingref20_formed.j2 k x3 true)))))) else (none))
def cohousingref20_formed.j2 : Nat → List (S28) → Bool → Option (Bool)
 | 0, _, _ => none
 | k + 1, x3, x105 => if x105 = true then (some false) else (cohousingref20_formed.l1 k x3 1)
def cohousingref20_formed.l1 : Nat → List (S28) → Int → Option (Bool)
 | 0, _, _ => none
 | k + 1, x3, x15 => if x15 < (x3.length : Int) then (if 0 ≤ x15 then (if 0 < (x3.length : Int) then (if ((rd_T28 x3 x15).f0) = ((rd_T28 x3 0).f0) then (if ((rd_T28 x3 x15).f1) = ((rd_T28 x3 0).f1) then (if ((rd_T28 x3 x15).f2) = ((rd_T28 x3 0).f2) then (cohousingref20_formed.l1 k x3 (wrap64 (x15 + 1))) else (some false)) else (some false)) else (some false)) else (none)) else (none)) else (some true)
end
def cohousingref20_formed.f (k : Nat) (l0 : List (S49)) (l1 : List Int) (a2 : Int) (l3 : List (S28)) : Option (Bool) := (cohousingref20_Valid.f k l0).bind fun t271 => (if t271 = true then (if (l1.length : Int) > 8 then (cohousingref20_formed.j0 k l1 l3 true) else (if a2 < 1 then (cohousingref20_formed.j0 k l1 l3 true) else (if a2 > 8 then (cohousingref20_formed.j0 k l1 l3 true) else (if (l3.length : Int) < 1 then (cohousingref20_formed.j0 k l1 l3 true) else (cohousingref20_formed.j0 k l1 l3 (decide ((l3.length : Int) > 16))))))) else (cohousingref20_formed.j0 k l1 l3 true))
theorem cohousingref20_formed.mono_l : ∀ k, (∀ y0 y1 y2, LeO (cohousingref20_formed.j0 k y0 y1 y2) (cohousingref20_formed.j0 (k + 1) y0 y1 y2)) ∧ (∀ y0 y1 y2, LeO (cohousingref20_formed.l0 k y0 y1 y2) (cohousingref20_formed.l0 (k + 1) y0 y1 y2)) ∧ (∀ y0 y1, LeO (cohousingref20_formed.j2 k y0 y1) (cohousingref20_formed.j2 (k + 1) y0 y1)) ∧ (∀ y0 y1, LeO (cohousingref20_formed.l1 k y0 y1) (cohousingref20_formed.l1 (k + 1) y0 y1))
 | 0 => ⟨fun _ _ _ r h => by simp [cohousingref20_formed.j0] at h, fun _ _ _ r h => by simp [cohousingref20_formed.l0] at h, fun _ _ r h => by simp [cohousingref20_formed.j2] at h, fun _ _ r h => by simp [cohousingref20_formed.l1] at h⟩
 | k + 1 => by
  obtain ⟨ih0, ih1, ih2, ih3⟩ := cohousingref20_formed.mono_l k
  refine ⟨?_, ?_, ?_, ?_⟩
  ·intro y0 y1 y2
   unfold cohousingref20_formed.j0
   repeat' first
   | (with_reducible exact ih0 _ _ _)
   | (with_reducible exact ih1 _ _ _)
   | (with_reducible exact ih2 _ _)
   | (with_reducible exact ih3 _ _)
   | (with_reducible exact cohousingref20_Public.mono _ _)
   | (with_reducible exact cohousingref20_Valid.mono _ _)
   | (with_reducible exact cohousingref20_in.mono _ _ _)
   | (with_reducible exact LeO.refl _)
   | (with_reducible exact LeO.none _)
   | (with_reducible refine LeO.ite ?_ ?_)
   | (with_reducible refine LeO.bind ?_ (fun _ => ?_))
   | exact ih0 _ _ _
   | exact ih1 _ _ _
   | exact ih2 _ _
   | exact ih3 _ _
   | exact cohousingref20_Public.mono _ _
   | exact cohousingref20_Valid.mono _ _
   | exact cohousingref20_in.mono _ _ _
   | exact LeO.none _
   | refine LeO.ite ?_ ?_
   | refine LeO.bind ?_ (fun _ => ?_)
  ·intro y0 y1 y2
   unfold cohousingref20_formed.l0
   repeat' first
   | (with_reducible exact ih0 _ _ _)
   | (with_reducible exact ih1 _ _ _)
   | (with_reducible exact ih2 _ _)
   | (with_reducible exact ih3 _ _)
   | (with_reducible exact cohousingref20_Public.mono _ _)
   | (with_reducible exact cohousingref20_Valid.mono _ _)
   | (with_reducible exact cohousingref20_in.mono _ _ _)
   | (with_reducible exact LeO.refl _)
   | (with_reducible exact LeO.none _)
   | (with_reducible refine LeO.ite ?_ ?_)
   | (with_reducible refine LeO.bind ?_ (fun _ => ?_))
   | exact ih0 _ _ _
   | exact ih1 _ _ _
   | exact ih2 _ _
   | exact ih3 _ _
   | exact cohousingref20_Public.mono _ _
   | exact cohousingref20_Valid.mono _ _
   | exact cohousingref20_in.mono _ _ _
   | exact LeO.none _
   | refine LeO.ite ?_ ?_
   | refine LeO.bind ?_ (fun _ => ?_)
  ·intro y0 y1
   unfold cohousingref20_formed.j2
   repeat' first
   | (with_reducible exact ih0 _ _ _)
   | (with_reducible exact ih1 _ _ _)
   | (with_reducible exact ih2 _ _)
   | (with_reducible exact ih3 _ _)
   | (with_reducible exact cohousingref20_Public.mono _ _)
   | (with_reducible exact cohousingref20_Valid.mono _ _)
   | (with_reducible exact cohousingref20_in.mono _ _ _)
   | (with_reducible exact LeO.refl _)
   | (with_reducible exact LeO.none _)
   | (with_reducible refine LeO.ite ?_ ?_)
   | (with_reducible refine LeO.bind ?_ (fun _ => ?_))
   | exact ih0 _ _ _
   | exact ih1 _ _ _
   | exact ih2 _ _
   | exact ih3 _ _
   | exact cohousingref20_Public.mono _ _
   | exact cohousingref20_Valid.mono _ _
   | exact cohousingref20_in.mono _ _ _
   | exact LeO.none _
   | refine LeO.ite ?_ ?_
   | refine LeO.bind ?_ (fun _ => ?_)
  ·intro y0 y1
   unfold cohousingref20_formed.l1
   repeat' first
   | (with_reducible exact ih0 _ _ _)
   | (with_reducible exact ih1 _ _ _)
   | (with_reducible exact ih2 _ _)
   | (with_reducible exact ih3 _ _)
   | (with_reducible exact cohousingref20_Public.mono _ _)
   | (with_reducible exact cohousingref20_Valid.mono _ _)
   | (with_reducible exact cohousingref20_in.mono _ _ _)
   | (with_reducible exact LeO.refl _)
   | (with_reducible exact LeO.none _)
   | (with_reducible refine LeO.ite ?_ ?_)
   | (with_reducible refine LeO.bind ?_ (fun _ => ?_))
   | exact ih0 _ _ _
   | exact ih1 _ _ _
   | exact ih2 _ _
   | exact ih3 _ _
   | exact cohousingref20_Public.mono _ _
   | exact cohousingref20_Valid.mono _ _
   | exact cohousingref20_in.mono _ _ _
   | exact LeO.none _
   | refine LeO.ite ?_ ?_
   | refine LeO.bind ?_ (fun _ => ?_)
theorem cohousingref20_formed.mono : ∀ a0 a1 a2 a3 k, LeO (cohousingref20_formed.f k a0 a1 a2 a3) (cohousingref20_formed.f (k + 1) a0 a1 a2 a3) := by
 intro a0 a1 a2 a3 k
 obtain ⟨ih0, ih1, ih2, ih3⟩ := cohousingref20_formed.mono_l k
 unfold cohousingref20_formed.f
 repeat' first
   | (with_reducible exact ih0 _ _ _)
   | (with_reducible exact ih1 _ _ _)
   | (with_reducible exact ih2 _ _)
   | (with_reducible exact ih3 _ _)
   | (with_reducible exact cohousingref20_Public.mono _ _)
   | (with_reducible exact cohousingref20_Valid.mono _ _)
   | (with_reducible exact cohousingref20_in.mono _ _ _)
   | (with_reducible exact LeO.refl _)
   | (with_reducible exact LeO.none _)
   | (with_reducible refine LeO.ite ?_ ?_)
   | (with_reducible refine LeO.bind ?_ (fun _ => ?_))
   | exact ih0 _ _ _
   | exact ih1 _ _ _
   | exact ih2 _ _
   | exact ih3 _ _
   | exact cohousingref20_Public.mono _ _
   | exact cohousingref20_Valid.mono _ _
   | exact cohousingref20_in.mono _ _ _
   | exact LeO.none _
   | refine LeO.ite ?_ ?_
   | refine LeO.bind ?_ (fun _ => ?_)
set_option maxHeartbeats 8000000 in
set_option maxRecDepth 100000 in
theorem cohousingref20_formed.calls (k : Nat) (A0 : Option Addr) (c0 : Nat) (l0 : List (S49)) (A1 : Option Addr) (c1 : Nat) (l1 : List Int) (a2 : Int) (A3 : Option Addr) (c3 : Nat) (l3 : List (S28)) (r : Bool) (w : World) (hr0 : Kd.C k49 w A0 l0.length l0) (hc0 : l0.length ≤ c0) (hr1 : Kd.C (Kd.int .i64) w A1 l1.length l1) (hc1 : l1.length ≤ c1) (hr3 : Kd.C k28 w A3 l3.length l3) (hc3 : l3.length ≤ c3) (h : cohousingref20_formed.f k l0 l1 a2 l3 = some r) :
  Calls Tryd.prog 41 #[.slice A0 l0.length c0, .slice A1 l1.length c1, .int .i64 a2, .slice A3 l3.length c3] w fun e w' => e = .returned (.bool r) ∧ Drawn0 w w' := by
 have HR0 := Aside0.mk hr0
 have HC0 := Aside0.mk hc0
 clear hr0 hc0
 have HR1 := Aside0.mk hr1
 have HC1 := Aside0.mk hc1
 clear hr1 hc1
 have HR3 := Aside0.mk hr3
 have HC3 := Aside0.mk hc3
 clear hr3 hc3
 have H : ((cohousingref20_Valid.f k l0).bind fun t271 => (if t271 = true then (if (l1.length : Int) > 8 then (cohousingref20_formed.j0 k l1 l3 true) else (if a2 < 1 then (cohousingref20_formed.j0 k l1 l3 true) else (if a2 > 8 then (cohousingref20_formed.j0 k l1 l3 true) else (if (l3.length : Int) < 1 then (cohousingref20_formed.j0 k l1 l3 true) else (cohousingref20_formed.j0 k l1 l3 (decide ((l3.length : Int) > 16))))))) else (cohousingref20_formed.j0 k l1 l3 true))) = some r := h
 clear h
 replace H := Option.bind_eq_some_iff.mp H
 obtain ⟨t271, A50, H⟩ := H
 replace H : (if t271 = true then (if (l1.length : Int) > 8 then (cohousingref20_formed.j0 k l1 l3 true) else (if a2 < 1 then (cohousingref20_formed.j0 k l1 l3 true) else (if a2 > 8 then (cohousingref20_formed.j0 k l1 l3 true) else (if (l3.length : Int) < 1 then (cohousingref20_formed.j0 k l1 l3 true) else (cohousingref20_formed.j0 k l1 l3 (decide ((l3.length : Int) > 16))))))) else (cohousingref20_formed.j0 k l1 l3 true)) = some r := H
 have A5 := Aside0.mk A50
 clear A50
 have HC6 := Aside0.mk H
 clear H
 go_enter Tryd.func41, Tryd.ntmps41
 go_upto_region 2 with (first | (go_at_call 13; (with_reducible refine (cohousingref20_Valid.calls k _ _ l0 t271 _ ?side1 ?side2 A5.out).mono ?_); (case side1 => repeat (first | exact HR0.out | (with_reducible refine Kd.C_alloc ?_ _) | (with_reducible refine Kd.C_drewN ?_ _) | (with_reducible refine Kd.C_drew ?_))); (case side2 => exact HC0.out); rintro e w' ⟨rfl, ⟨nd, rfl⟩⟩; (try first | exact ⟨rfl, _, World.drewN_drewN _ _ _⟩ | exact ⟨rfl, _, Eq.trans (World.drewN_drewN _ _ _) (congrArg (World.drewN _) (Nat.add_assoc _ _ _))⟩)))
 repeat (go_quiet (first | (go_at_call 13; (with_reducible refine (cohousingref20_Valid.calls k _ _ l0 t271 _ ?side1 ?side2 A5.out).mono ?_); (case side1 => repeat (first | exact HR0.out | (with_reducible refine Kd.C_alloc ?_ _) | (with_reducible refine Kd.C_drewN ?_ _) | (with_reducible refine Kd.C_drew ?_))); (case side2 => exact HC0.out); rintro e w' ⟨rfl, ⟨nd, rfl⟩⟩; (try first | exact ⟨rfl, _, World.drewN_drewN _ _ _⟩ | exact ⟨rfl, _, Eq.trans (World.drewN_drewN _ _ _) (congrArg (World.drewN _) (Nat.add_assoc _ _ _))⟩))); go_upto_region 2 with (first | (go_at_call 13; (with_reducible refine (cohousingref20_Valid.calls k _ _ l0 t271 _ ?side1 ?side2 A5.out).mono ?_); (case side1 => repeat (first | exact HR0.out | (with_reducible refine Kd.C_alloc ?_ _) | (with_reducible refine Kd.C_drewN ?_ _) | (with_reducible refine Kd.C_drew ?_))); (case side2 => exact HC0.out); rintro e w' ⟨rfl, ⟨nd, rfl⟩⟩; (try first | exact ⟨rfl, _, World.drewN_drewN _ _ _⟩ | exact ⟨rfl, _, Eq.trans (World.drewN_drewN _ _ _) (congrArg (World.drewN _) (Nat.add_assoc _ _ _))⟩))))
 (try simp only [Act.put, List.setIfInBounds_toArray, List.set_cons_zero, List.set_cons_succ])
 go_cut [42] (fun v42 wc => ∃ (kq : Nat) (x42_5 : Bool), v42 = .bool x42_5 ∧ Aside0 (cohousingref20_formed.j0 kq l1 l3 x42_5 = some r) ∧ Aside0 (kq ≤ k) ∧ Drawn0 w wc)
 case first =>
  have H := HC6.out
  clear HC6
  by_cases c7 : t271 = true
  ·subst c7
   have H1 : (if (l1.length : Int) > 8 then (cohousingref20_formed.j0 k l1 l3 true) else (if a2 < 1 then (cohousingref20_formed.j0 k l1 l3 true) else (if a2 > 8 then (cohousingref20_formed.j0 k l1 l3 true) else (if (l3.length : Int) < 1 then (cohousingref20_formed.j0 k l1 l3 true) else (cohousingref20_formed.j0 k l1 l3 (decide ((l3.length : Int) > 16))))))) = some r := by rw [if_pos rfl] at H; exact H
   clear H
   have H := H1
   clear H1
   by_cases c8 : (l1.length : Int) > 8
   ·rw [if_pos c8] at H
    have c8b0 : decide (8 < (l1.length : Int)) = true := decide_eq_true c8
    have c8b1 : decide (8 < l1.length) = true := decide_eq_true (by omega)
    clear c8
    (first | rw [c8b0] | (simp only [i64_w, i32_w]; rw [c8b0]) | skip)
    have H' := Aside0.mk H
    clear H
    go_wp2
    repeat (go_quiet (fail); try go_wp2)
    go_meet
    case rel => exact ⟨_, (true), (by first | rfl | (simp; done) | (simp [*]; done)), H', ⟨by first | omega | exact Nat.le_refl _⟩, by repeat (first | exact Drawn0.refl _ | apply Drawn0.step)⟩
   ·rw [if_neg c8] at H
    have c8b0 : decide (8 < (l1.length : Int)) = false := decide_eq_false c8
    have c8b1 : decide (8 < l1.length) = false := decide_eq_false (by omega)
    clear c8
    (first | rw [c8b0] | (simp only [i64_w, i32_w]; rw [c8b0]) | skip)
    by_cases c9 : a2 < 1
    ·rw [if_pos c9] at H
     have c9b0 : decide (a2 < 1) = true := decide_eq_true c9
     clear c9
     have H' := Aside0.mk H
     clear H
     go_wp2
     repeat (go_quiet (fail); try go_wp2)
     go_meet
     case rel => exact ⟨_, (true), (by first | rfl | (simp; done) | (simp [*]; done)), H', ⟨by first | omega | exact Nat.le_refl _⟩, by repeat (first | exact Drawn0.refl _ | apply Drawn0.step)⟩
    ·rw [if_neg c9] at H
     have c9b0 : decide (a2 < 1) = false := decide_eq_false c9
     clear c9
     by_cases c10 : a2 > 8
     ·rw [if_pos c10] at H
      have c10b0 : decide (8 < a2) = true := decide_eq_true c10
      clear c10
      have H' := Aside0.mk H
      clear H
      go_wp2
      repeat (go_quiet (fail); try go_wp2)
      go_meet
      case rel => exact ⟨_, (true), (by first | rfl | (simp; done) | (simp [*]; done)), H', ⟨by first | omega | exact Nat.le_refl _⟩, by repeat (first | exact Drawn0.refl _ | apply Drawn0.step)⟩
     ·rw [if_neg c10] at H
      have c10b0 : decide (8 < a2) = false := decide_eq_false c10
      clear c10
      by_cases c11 : (l3.length : Int) < 1
      ·rw [if_pos c11] at H
       have c11b0 : decide ((l3.length : Int) < 1) = true := decide_eq_true c11
       have c11b1 : decide (l3.length < 1) = true := decide_eq_true (by omega)
       clear c11
       have H' := Aside0.mk H
       clear H
       go_wp2
       repeat (go_quiet (fail); try go_wp2)
       go_meet
       case rel => exact ⟨_, (true), (by first | rfl | (simp; done) | (simp [*]; done)), H', ⟨by first | omega | exact Nat.le_refl _⟩, by repeat (first | exact Drawn0.refl _ | apply Drawn0.step)⟩
      ·rw [if_neg c11] at H
       have c11b0 : decide ((l3.length : Int) < 1) = false := decide_eq_false c11
       have c11b1 : decide (l3.length < 1) = false := decide_eq_false (by omega)
       clear c11
       have H' := Aside0.mk H
       clear H
       go_wp2
       repeat (go_quiet (fail); try go_wp2)
       go_meet
       case rel => exact ⟨_, (decide ((l3.length : Int) > 16)), (by first | rfl | (simp; done) | (simp [*]; done)), H', ⟨by first | omega | exact Nat.le_refl _⟩, by repeat (first | exact Drawn0.refl _ | apply Drawn0.step)⟩
  ·replace c7 := Bool.eq_false_iff.mpr c7
   subst c7
   have H1 : (cohousingref20_formed.j0 k l1 l3 true) = some r := by rw [if_neg (show ¬ (false = true) by decide)] at H; exact H
   clear H
   have H := H1
   clear H1
   have H' := Aside0.mk H
   clear H
   go_wp2
   repeat (go_quiet (fail); try go_wp2)
   go_meet
   case rel => exact ⟨_, (true), (by first | rfl | (simp; done) | (simp [*]; done)), H', ⟨by first | omega | exact Nat.le_refl _⟩, by repeat (first | exact Drawn0.refl _ | apply Drawn0.step)⟩
 case rest =>
  clear HC6
  try clear c1
  try clear p2
  try clear c3
  try clear c4
  try clear c7
  try clear c8
  try clear c8b0
  try clear c8b1
  try clear c9
  try clear c9b0
  try clear c10
  try clear c10b0
  try clear c11
  try clear c11b0
  try clear c11b1
  obtain ⟨kq, x42_5, rfl, HA, HJ5, ⟨mc5, rfl⟩⟩ := hcut
  cases kq with
  | zero => exact absurd HA.out (by simp [cohousingref20_formed.j0])
  | succ kj5 =>
   have H := HA.out
   clear HA
   simp only [cohousingref20_formed.j0] at H
   by_cases c12 : x42_5 = true
   ·subst c12
    have H1 : (some false) = some r := by rw [if_pos rfl] at H; exact H
    clear H
    have H := H1
    clear H1
    obtain rfl := Option.some.inj H
    go_wp2
    repeat (go_quiet (fail); try go_wp2)
    go_ret
    exact ⟨by first | rfl | (simp; done) | (simp [*]; done), by repeat (first | exact Drawn0.refl _ | apply Drawn0.step)⟩
   ·replace c12 := Bool.eq_false_iff.mpr c12
    subst c12
    have H1 : (cohousingref20_formed.l0 kj5 l1 l3 0) = some r := by rw [if_neg (show ¬ (false = true) by decide)] at H; exact H
    clear H
    have H := H1
    clear H1
    have H' := Aside0.mk H
    clear H
    go_wp2
    repeat (go_quiet (fail); try go_wp2)
    go_loopg [10] kj5 (fun kq v10 w' => ∃ (x10_2 : Int), v10 = .int .i64 x10_2 ∧ Aside0 (cohousingref20_formed.l0 kq l1 l3 x10_2 = some r) ∧ Aside0 (kq ≤ kj5) ∧ Drawn0 w w')
    case atStart => exact ⟨(0), (by first | rfl | (simp; done) | (simp [*]; done)), H', ⟨Nat.le_refl _⟩, by repeat (first | exact Drawn0.refl _ | apply Drawn0.step)⟩
    case round =>
     clear H'
     try clear c1
     try clear p2
     try clear c3
     try clear c4
     try clear c5
     try clear c7
     try clear c8
     try clear c8b0
     try clear c8b1
     try clear c9
     try clear c9b0
     try clear c10
     try clear c10b0
     try clear c11
     try clear c11b0
     try clear c11b1
     try clear c12
     try clear p2
     obtain ⟨x10_2, rfl, HA, HK2, ⟨m2, rfl⟩⟩ := hrel
     cases gk with
     | zero => exact absurd HA.out (by simp [cohousingref20_formed.l0])
     | succ k2 =>
      have H := HA.out
      clear HA
      simp only [cohousingref20_formed.l0] at H
      by_cases c13 : x10_2 < (l1.length : Int)
      ·rw [if_pos c13] at H
       have c13b0 : decide (x10_2 < (l1.length : Int)) = true := decide_eq_true c13
       clear c13
       by_cases c14 : 0 ≤ x10_2
       ·rw [if_pos c14] at H
        have c14b0 : decide (0 ≤ x10_2) = true := decide_eq_true c14
        clear c14
        replace H := Option.bind_eq_some_iff.mp H
        obtain ⟨t273, A150, H⟩ := H
        replace H : (if t273 = true then (if x10_2 > 0 then (if 0 ≤ (wrap64 (x10_2 - 1)) then (if (wrap64 (x10_2 - 1)) < (l1.length : Int) then (if (rd l1 x10_2) ≤ (rd l1 (wrap64 (x10_2 - 1))) then (some false) else (cohousingref20_formed.l0 k2 l1 l3 (wrap64 (x10_2 + 1)))) else (none)) else (none)) else (cohousingref20_formed.l0 k2 l1 l3 (wrap64 (x10_2 + 1)))) else (some false)) = some r := H
        have A15 := Aside0.mk A150
        clear A150
        by_cases c16 : t273 = true
        ·subst c16
         have H1 : (if x10_2 > 0 then (if 0 ≤ (wrap64 (x10_2 - 1)) then (if (wrap64 (x10_2 - 1)) < (l1.length : Int) then (if (rd l1 x10_2) ≤ (rd l1 (wrap64 (x10_2 - 1))) then (some false) else (cohousingref20_formed.l0 k2 l1 l3 (wrap64 (x10_2 + 1)))) else (none)) else (none)) else (cohousingref20_formed.l0 k2 l1 l3 (wrap64 (x10_2 + 1)))) = some r := by rw [if_pos rfl] at H; exact H
         clear H
         have H := H1
         clear H1
         by_cases c17 : x10_2 > 0
         ·rw [if_pos c17] at H
          have c17b0 : decide (0 < x10_2) = true := decide_eq_true c17
          clear c17
          obtain ⟨ji18, hji18⟩ : ∃ j_ : Int, (wrap64 (x10_2 - 1)) = j_ := ⟨_, rfl⟩
          replace H : (if 0 ≤ (ji18) then (if (ji18) < (l1.length : Int) then (if (rd l1 x10_2) ≤ (rd l1 (ji18)) then (some false) else (cohousingref20_formed.l0 k2 l1 l3 (wrap64 (x10_2 + 1)))) else (none)) else (none)) = some r := by first | (rw [hji18] at H; exact H) | (simp only [hji18] at H ⊢; exact H)
          (try rw [hji18] at A15)
          have hji18w : (IntKind.i64.wrap (x10_2 - 1)) = ji18 := (i64_w _).trans hji18
          by_cases c19 : 0 ≤ (ji18)
          ·rw [if_pos c19] at H
           have c19b0 : decide (0 ≤ (ji18)) = true := decide_eq_true c19
           clear c19
           by_cases c20 : (ji18) < (l1.length : Int)
           ·rw [if_pos c20] at H
            have c20b0 : decide ((ji18) < (l1.length : Int)) = true := decide_eq_true c20
            clear c20
            by_cases c21 : (rd l1 x10_2) ≤ (rd l1 (ji18))
            ·rw [if_pos c21] at H
             have c21b0 : decide ((rd l1 x10_2) ≤ (rd l1 (ji18))) = true := decide_eq_true c21
             clear c21
             obtain rfl := Option.some.inj H
             have p272 : 0 ≤ (x10_2 : Int) := of_decide_eq_true (by first | (with_reducible assumption) | assumption)
             have q272 : x10_2 < (l1.length : Int) := of_decide_eq_true (by first | (with_reducible assumption) | assumption)
             obtain ⟨ad272, e272, hx272_0⟩ := Kd.at_int HR1.out x10_2 p272 q272
             cases e272
             replace p272 := eq_true p272
             replace q272 := eq_true q272
             go_wp2_with (first | (go_at_call 26; (with_reducible refine (cohousingref20_home.calls (rd l1 x10_2) true _ A15.out).mono ?_); rintro e w' ⟨rfl, ⟨nd, rfl⟩⟩; (try first | exact ⟨rfl, _, World.drewN_drewN _ _ _⟩ | exact ⟨rfl, _, Eq.trans (World.drewN_drewN _ _ _) (congrArg (World.drewN _) (Nat.add_assoc _ _ _))⟩); have p274 : 0 ≤ (x10_2 : Int) := of_decide_eq_true (by first | (with_reducible assumption) | assumption); have q274 : x10_2 < (l1.length : Int) := of_decide_eq_true (by first | (with_reducible assumption) | assumption); obtain ⟨ad274, e274, hx274_0⟩ := Kd.at_int HR1.out x10_2 p274 q274; obtain rfl : ad272 = ad274 := (by injection e274); replace p274 := eq_true p274; replace q274 := eq_true q274; have p275 : 0 ≤ ((ji18) : Int) := of_decide_eq_true (by first | (with_reducible assumption) | assumption); have q275 : (ji18) < (l1.length : Int) := of_decide_eq_true (by first | (with_reducible assumption) | assumption); obtain ⟨ad275, e275, hx275_0⟩ := Kd.at_int HR1.out (ji18) p275 q275; obtain rfl : ad272 = ad275 := (by injection e275); replace p275 := eq_true p275; replace q275 := eq_true q275))
             repeat (go_quiet (first | (go_at_call 26; (with_reducible refine (cohousingref20_home.calls (rd l1 x10_2) true _ A15.out).mono ?_); rintro e w' ⟨rfl, ⟨nd, rfl⟩⟩; (try first | exact ⟨rfl, _, World.drewN_drewN _ _ _⟩ | exact ⟨rfl, _, Eq.trans (World.drewN_drewN _ _ _) (congrArg (World.drewN _) (Nat.add_assoc _ _ _))⟩); have p274 : 0 ≤ (x10_2 : Int) := of_decide_eq_true (by first | (with_reducible assumption) | assumption); have q274 : x10_2 < (l1.length : Int) := of_decide_eq_true (by first | (with_reducible assumption) | assumption); obtain ⟨ad274, e274, hx274_0⟩ := Kd.at_int HR1.out x10_2 p274 q274; obtain rfl : ad272 = ad274 := (by injection e274); replace p274 := eq_true p274; replace q274 := eq_true q274; have p275 : 0 ≤ ((ji18) : Int) := of_decide_eq_true (by first | (with_reducible assumption) | assumption); have q275 : (ji18) < (l1.length : Int) := of_decide_eq_true (by first | (with_reducible assumption) | assumption); obtain ⟨ad275, e275, hx275_0⟩ := Kd.at_int HR1.out (ji18) p275 q275; obtain rfl : ad272 = ad275 := (by injection e275); replace p275 := eq_true p275; replace q275 := eq_true q275)); try go_wp2_with (first | (go_at_call 26; (with_reducible refine (cohousingref20_home.calls (rd l1 x10_2) true _ A15.out).mono ?_); rintro e w' ⟨rfl, ⟨nd, rfl⟩⟩; (try first | exact ⟨rfl, _, World.drewN_drewN _ _ _⟩ | exact ⟨rfl, _, Eq.trans (World.drewN_drewN _ _ _) (congrArg (World.drewN _) (Nat.add_assoc _ _ _))⟩); have p274 : 0 ≤ (x10_2 : Int) := of_decide_eq_true (by first | (with_reducible assumption) | assumption); have q274 : x10_2 < (l1.length : Int) := of_decide_eq_true (by first | (with_reducible assumption) | assumption); obtain ⟨ad274, e274, hx274_0⟩ := Kd.at_int HR1.out x10_2 p274 q274; obtain rfl : ad272 = ad274 := (by injection e274); replace p274 := eq_true p274; replace q274 := eq_true q274; have p275 : 0 ≤ ((ji18) : Int) := of_decide_eq_true (by first | (with_reducible assumption) | assumption); have q275 : (ji18) < (l1.length : Int) := of_decide_eq_true (by first | (with_reducible assumption) | assumption); obtain ⟨ad275, e275, hx275_0⟩ := Kd.at_int HR1.out (ji18) p275 q275; obtain rfl : ad272 = ad275 := (by injection e275); replace p275 := eq_true p275; replace q275 := eq_true q275)))
             go_ret
             exact ⟨by first | rfl | (simp; done) | (simp only [← hji18] <;> (first | rfl | simp)) | (simp [*]; done), by repeat (first | exact Drawn0.refl _ | apply Drawn0.step)⟩
            ·rw [if_neg c21] at H
             have c21b0 : decide ((rd l1 x10_2) ≤ (rd l1 (ji18))) = false := decide_eq_false c21
             clear c21
             have H' := Aside0.mk H
             clear H
             have p272 : 0 ≤ (x10_2 : Int) := of_decide_eq_true (by first | (with_reducible assumption) | assumption)
             have q272 : x10_2 < (l1.length : Int) := of_decide_eq_true (by first | (with_reducible assumption) | assumption)
             obtain ⟨ad272, e272, hx272_0⟩ := Kd.at_int HR1.out x10_2 p272 q272
             cases e272
             replace p272 := eq_true p272
             replace q272 := eq_true q272
             go_wp2_with (first | (go_at_call 26; (with_reducible refine (cohousingref20_home.calls (rd l1 x10_2) true _ A15.out).mono ?_); rintro e w' ⟨rfl, ⟨nd, rfl⟩⟩; (try first | exact ⟨rfl, _, World.drewN_drewN _ _ _⟩ | exact ⟨rfl, _, Eq.trans (World.drewN_drewN _ _ _) (congrArg (World.drewN _) (Nat.add_assoc _ _ _))⟩); have p274 : 0 ≤ (x10_2 : Int) := of_decide_eq_true (by first | (with_reducible assumption) | assumption); have q274 : x10_2 < (l1.length : Int) := of_decide_eq_true (by first | (with_reducible assumption) | assumption); obtain ⟨ad274, e274, hx274_0⟩ := Kd.at_int HR1.out x10_2 p274 q274; obtain rfl : ad272 = ad274 := (by injection e274); replace p274 := eq_true p274; replace q274 := eq_true q274; have p275 : 0 ≤ ((ji18) : Int) := of_decide_eq_true (by first | (with_reducible assumption) | assumption); have q275 : (ji18) < (l1.length : Int) := of_decide_eq_true (by first | (with_reducible assumption) | assumption); obtain ⟨ad275, e275, hx275_0⟩ := Kd.at_int HR1.out (ji18) p275 q275; obtain rfl : ad272 = ad275 := (by injection e275); replace p275 := eq_true p275; replace q275 := eq_true q275))
             repeat (go_quiet (first | (go_at_call 26; (with_reducible refine (cohousingref20_home.calls (rd l1 x10_2) true _ A15.out).mono ?_); rintro e w' ⟨rfl, ⟨nd, rfl⟩⟩; (try first | exact ⟨rfl, _, World.drewN_drewN _ _ _⟩ | exact ⟨rfl, _, Eq.trans (World.drewN_drewN _ _ _) (congrArg (World.drewN _) (Nat.add_assoc _ _ _))⟩); have p274 : 0 ≤ (x10_2 : Int) := of_decide_eq_true (by first | (with_reducible assumption) | assumption); have q274 : x10_2 < (l1.length : Int) := of_decide_eq_true (by first | (with_reducible assumption) | assumption); obtain ⟨ad274, e274, hx274_0⟩ := Kd.at_int HR1.out x10_2 p274 q274; obtain rfl : ad272 = ad274 := (by injection e274); replace p274 := eq_true p274; replace q274 := eq_true q274; have p275 : 0 ≤ ((ji18) : Int) := of_decide_eq_true (by first | (with_reducible assumption) | assumption); have q275 : (ji18) < (l1.length : Int) := of_decide_eq_true (by first | (with_reducible assumption) | assumption); obtain ⟨ad275, e275, hx275_0⟩ := Kd.at_int HR1.out (ji18) p275 q275; obtain rfl : ad272 = ad275 := (by injection e275); replace p275 := eq_true p275; replace q275 := eq_true q275)); try go_wp2_with (first | (go_at_call 26; (with_reducible refine (cohousingref20_home.calls (rd l1 x10_2) true _ A15.out).mono ?_); rintro e w' ⟨rfl, ⟨nd, rfl⟩⟩; (try first | exact ⟨rfl, _, World.drewN_drewN _ _ _⟩ | exact ⟨rfl, _, Eq.trans (World.drewN_drewN _ _ _) (congrArg (World.drewN _) (Nat.add_assoc _ _ _))⟩); have p274 : 0 ≤ (x10_2 : Int) := of_decide_eq_true (by first | (with_reducible assumption) | assumption); have q274 : x10_2 < (l1.length : Int) := of_decide_eq_true (by first | (with_reducible assumption) | assumption); obtain ⟨ad274, e274, hx274_0⟩ := Kd.at_int HR1.out x10_2 p274 q274; obtain rfl : ad272 = ad274 := (by injection e274); replace p274 := eq_true p274; replace q274 := eq_true q274; have p275 : 0 ≤ ((ji18) : Int) := of_decide_eq_true (by first | (with_reducible assumption) | assumption); have q275 : (ji18) < (l1.length : Int) := of_decide_eq_true (by first | (with_reducible assumption) | assumption); obtain ⟨ad275, e275, hx275_0⟩ := Kd.at_int HR1.out (ji18) p275 q275; obtain rfl : ad272 = ad275 := (by injection e275); replace p275 := eq_true p275; replace q275 := eq_true q275)))
             go_roundg k2
             case measure => have := HJ5.out; have := HK2.out; omega
             case rel => exact ⟨(wrap64 (x10_2 + 1)), (by first | rfl | (simp; done) | (simp [*]; done)), H', ⟨by have := HJ5.out; have := HK2.out; omega⟩, by repeat (first | exact Drawn0.refl _ | apply Drawn0.step)⟩
           ·rw [if_neg c20] at H
            exact absurd H (by simp)
          ·rw [if_neg c19] at H
           exact absurd H (by simp)
         ·rw [if_neg c17] at H
          have c17b0 : decide (0 < x10_2) = false := decide_eq_false c17
          clear c17
          have H' := Aside0.mk H
          clear H
          have p272 : 0 ≤ (x10_2 : Int) := of_decide_eq_true (by first | (with_reducible assumption) | assumption)
          have q272 : x10_2 < (l1.length : Int) := of_decide_eq_true (by first | (with_reducible assumption) | assumption)
          obtain ⟨ad272, e272, hx272_0⟩ := Kd.at_int HR1.out x10_2 p272 q272
          cases e272
          replace p272 := eq_true p272
          replace q272 := eq_true q272
          go_wp2_with (first | (go_at_call 26; (with_reducible refine (cohousingref20_home.calls (rd l1 x10_2) true _ A15.out).mono ?_); rintro e w' ⟨rfl, ⟨nd, rfl⟩⟩; (try first | exact ⟨rfl, _, World.drewN_drewN _ _ _⟩ | exact ⟨rfl, _, Eq.trans (World.drewN_drewN _ _ _) (congrArg (World.drewN _) (Nat.add_assoc _ _ _))⟩)))
          repeat (go_quiet (first | (go_at_call 26; (with_reducible refine (cohousingref20_home.calls (rd l1 x10_2) true _ A15.out).mono ?_); rintro e w' ⟨rfl, ⟨nd, rfl⟩⟩; (try first | exact ⟨rfl, _, World.drewN_drewN _ _ _⟩ | exact ⟨rfl, _, Eq.trans (World.drewN_drewN _ _ _) (congrArg (World.drewN _) (Nat.add_assoc _ _ _))⟩))); try go_wp2_with (first | (go_at_call 26; (with_reducible refine (cohousingref20_home.calls (rd l1 x10_2) true _ A15.out).mono ?_); rintro e w' ⟨rfl, ⟨nd, rfl⟩⟩; (try first | exact ⟨rfl, _, World.drewN_drewN _ _ _⟩ | exact ⟨rfl, _, Eq.trans (World.drewN_drewN _ _ _) (congrArg (World.drewN _) (Nat.add_assoc _ _ _))⟩))))
          go_roundg k2
          case measure => have := HJ5.out; have := HK2.out; omega
          case rel => exact ⟨(wrap64 (x10_2 + 1)), (by first | rfl | (simp; done) | (simp [*]; done)), H', ⟨by have := HJ5.out; have := HK2.out; omega⟩, by repeat (first | exact Drawn0.refl _ | apply Drawn0.step)⟩
        ·replace c16 := Bool.eq_false_iff.mpr c16
         subst c16
         have H1 : (some false) = some r := by rw [if_neg (show ¬ (false = true) by decide)] at H; exact H
         clear H
         have H := H1
         clear H1
         obtain rfl := Option.some.inj H
         have p272 : 0 ≤ (x10_2 : Int) := of_decide_eq_true (by first | (with_reducible assumption) | assumption)
         have q272 : x10_2 < (l1.length : Int) := of_decide_eq_true (by first | (with_reducible assumption) | assumption)
         obtain ⟨ad272, e272, hx272_0⟩ := Kd.at_int HR1.out x10_2 p272 q272
         cases e272
         replace p272 := eq_true p272
         replace q272 := eq_true q272
         go_wp2_with (first | (go_at_call 26; (with_reducible refine (cohousingref20_home.calls (rd l1 x10_2) false _ A15.out).mono ?_); rintro e w' ⟨rfl, ⟨nd, rfl⟩⟩; (try first | exact ⟨rfl, _, World.drewN_drewN _ _ _⟩ | exact ⟨rfl, _, Eq.trans (World.drewN_drewN _ _ _) (congrArg (World.drewN _) (Nat.add_assoc _ _ _))⟩)))
         repeat (go_quiet (first | (go_at_call 26; (with_reducible refine (cohousingref20_home.calls (rd l1 x10_2) false _ A15.out).mono ?_); rintro e w' ⟨rfl, ⟨nd, rfl⟩⟩; (try first | exact ⟨rfl, _, World.drewN_drewN _ _ _⟩ | exact ⟨rfl, _, Eq.trans (World.drewN_drewN _ _ _) (congrArg (World.drewN _) (Nat.add_assoc _ _ _))⟩))); try go_wp2_with (first | (go_at_call 26; (with_reducible refine (cohousingref20_home.calls (rd l1 x10_2) false _ A15.out).mono ?_); rintro e w' ⟨rfl, ⟨nd, rfl⟩⟩; (try first | exact ⟨rfl, _, World.drewN_drewN _ _ _⟩ | exact ⟨rfl, _, Eq.trans (World.drewN_drewN _ _ _) (congrArg (World.drewN _) (Nat.add_assoc _ _ _))⟩))))
         go_ret
         exact ⟨by first | rfl | (simp; done) | (simp [*]; done), by repeat (first | exact Drawn0.refl _ | apply Drawn0.step)⟩
       ·rw [if_neg c14] at H
        exact absurd H (by simp)
      ·rw [if_neg c13] at H
       have c13b0 : decide (x10_2 < (l1.length : Int)) = false := decide_eq_false c13
       clear c13
       by_cases c22 : 0 < (l3.length : Int)
       ·rw [if_pos c22] at H
        have c22b0 : decide (0 < (l3.length : Int)) = true := decide_eq_true c22
        have c22b1 : decide (0 < l3.length) = true := decide_eq_true (by omega)
        clear c22
        replace H := Option.bind_eq_some_iff.mp H
        obtain ⟨t277, A230, H⟩ := H
        replace H : ((cohousingref20_Public.f k2 ((rd_T28 l3 0).f1)).bind fun t279 => ((cohousingref20_day.f ((rd_T28 l3 0).f2)).bind fun t281 => ((cohousingref20_in.f k2 l1 ((rd_T28 l3 0).f0)).bind fun t283 => (if t277 = true then (if t279 = true then (if t281 = true then (cohousingref20_formed.j2 k2 l3 t283) else (cohousingref20_formed.j2 k2 l3 true)) else (cohousingref20_formed.j2 k2 l3 true)) else (cohousingref20_formed.j2 k2 l3 true))))) = some r := H
        have A23 := Aside0.mk A230
        clear A230
        replace H := Option.bind_eq_some_iff.mp H
        obtain ⟨t279, A240, H⟩ := H
        replace H : ((cohousingref20_day.f ((rd_T28 l3 0).f2)).bind fun t281 => ((cohousingref20_in.f k2 l1 ((rd_T28 l3 0).f0)).bind fun t283 => (if t277 = true then (if t279 = true then (if t281 = true then (cohousingref20_formed.j2 k2 l3 t283) else (cohousingref20_formed.j2 k2 l3 true)) else (cohousingref20_formed.j2 k2 l3 true)) else (cohousingref20_formed.j2 k2 l3 true)))) = some r := H
        have A24 := Aside0.mk A240
        clear A240
        replace H := Option.bind_eq_some_iff.mp H
        obtain ⟨t281, A250, H⟩ := H
        replace H : ((cohousingref20_in.f k2 l1 ((rd_T28 l3 0).f0)).bind fun t283 => (if t277 = true then (if t279 = true then (if t281 = true then (cohousingref20_formed.j2 k2 l3 t283) else (cohousingref20_formed.j2 k2 l3 true)) else (cohousingref20_formed.j2 k2 l3 true)) else (cohousingref20_formed.j2 k2 l3 true))) = some r := H
        have A25 := Aside0.mk A250
        clear A250
        replace H := Option.bind_eq_some_iff.mp H
        obtain ⟨t283, A260, H⟩ := H
        replace H : (if t277 = true then (if t279 = true then (if t281 = true then (cohousingref20_formed.j2 k2 l3 t283) else (cohousingref20_formed.j2 k2 l3 true)) else (cohousingref20_formed.j2 k2 l3 true)) else (cohousingref20_formed.j2 k2 l3 true)) = some r := H
        have A26 := Aside0.mk A260
        clear A260
        have HC27 := Aside0.mk H
        clear H
        have p276 : 0 ≤ (0 : Int) := (by omega)
        have q276 : 0 < (l3.length : Int) := of_decide_eq_true (by first | (with_reducible assumption) | assumption)
        obtain ⟨ad276, e276, hx276_0, hx276_1, hx276_2, hx276_3, hx276_4, hx276_5⟩ := at_T28 HR3.out 0 p276 q276
        cases e276
        have qi276 : (0 < l3.length) = True := eq_true (by omega)
        (try rw [show ((0 : Int)).toNat = 0 from rfl] at hx276_0)
        (try rw [show 0 * 6 = 0 from rfl] at hx276_0)
        (try rw [Addr.add_zero'] at hx276_0)
        (try rw [show ((0 : Int)).toNat = 0 from rfl] at hx276_1)
        (try rw [show 0 * 6 = 0 from rfl] at hx276_1)
        (try rw [Addr.add_zero'] at hx276_1)
        (try rw [show ((0 : Int)).toNat = 0 from rfl] at hx276_2)
        (try rw [show 0 * 6 = 0 from rfl] at hx276_2)
        (try rw [Addr.add_zero'] at hx276_2)
        (try rw [show ((0 : Int)).toNat = 0 from rfl] at hx276_3)
        (try rw [show 0 * 6 = 0 from rfl] at hx276_3)
        (try rw [Addr.add_zero'] at hx276_3)
        (try rw [show ((0 : Int)).toNat = 0 from rfl] at hx276_4)
        (try rw [show 0 * 6 = 0 from rfl] at hx276_4)
        (try rw [Addr.add_zero'] at hx276_4)
        (try rw [show ((0 : Int)).toNat = 0 from rfl] at hx276_5)
        (try rw [show 0 * 6 = 0 from rfl] at hx276_5)
        (try rw [Addr.add_zero'] at hx276_5)
        replace p276 := eq_true p276
        replace q276 := eq_true q276
        go_upto_region 14 with (first | (go_at_call 26; (with_reducible refine (cohousingref20_home.calls ((rd_T28 l3 0).f0) t277 _ A23.out).mono ?_); rintro e w' ⟨rfl, ⟨nd, rfl⟩⟩; (try first | exact ⟨rfl, _, World.drewN_drewN _ _ _⟩ | exact ⟨rfl, _, Eq.trans (World.drewN_drewN _ _ _) (congrArg (World.drewN _) (Nat.add_assoc _ _ _))⟩); have p278 : 0 ≤ (0 : Int) := (by omega); have q278 : 0 < (l3.length : Int) := of_decide_eq_true (by first | (with_reducible assumption) | assumption); obtain ⟨ad278, e278, hx278_0, hx278_1, hx278_2, hx278_3, hx278_4, hx278_5⟩ := at_T28 HR3.out 0 p278 q278; obtain rfl : ad276 = ad278 := (by injection e278); have qi278 : (0 < l3.length) = True := eq_true (by omega); (try rw [show ((0 : Int)).toNat = 0 from rfl] at hx278_0); (try rw [show 0 * 6 = 0 from rfl] at hx278_0); (try rw [Addr.add_zero'] at hx278_0); (try rw [show ((0 : Int)).toNat = 0 from rfl] at hx278_1); (try rw [show 0 * 6 = 0 from rfl] at hx278_1); (try rw [Addr.add_zero'] at hx278_1); (try rw [show ((0 : Int)).toNat = 0 from rfl] at hx278_2); (try rw [show 0 * 6 = 0 from rfl] at hx278_2); (try rw [Addr.add_zero'] at hx278_2); (try rw [show ((0 : Int)).toNat = 0 from rfl] at hx278_3); (try rw [show 0 * 6 = 0 from rfl] at hx278_3); (try rw [Addr.add_zero'] at hx278_3); (try rw [show ((0 : Int)).toNat = 0 from rfl] at hx278_4); (try rw [show 0 * 6 = 0 from rfl] at hx278_4); (try rw [Addr.add_zero'] at hx278_4); (try rw [show ((0 : Int)).toNat = 0 from rfl] at hx278_5); (try rw [show 0 * 6 = 0 from rfl] at hx278_5); (try rw [Addr.add_zero'] at hx278_5); replace p278 := eq_true p278; replace q278 := eq_true q278) | (go_at_call 31; (with_reducible refine (cohousingref20_Public.calls k2 ((rd_T28 l3 0).f1) t279 _ A24.out).mono ?_); rintro e w' ⟨rfl, ⟨nd, rfl⟩⟩; (try first | exact ⟨rfl, _, World.drewN_drewN _ _ _⟩ | exact ⟨rfl, _, Eq.trans (World.drewN_drewN _ _ _) (congrArg (World.drewN _) (Nat.add_assoc _ _ _))⟩); have p280 : 0 ≤ (0 : Int) := (by omega); have q280 : 0 < (l3.length : Int) := of_decide_eq_true (by first | (with_reducible assumption) | assumption); obtain ⟨ad280, e280, hx280_0, hx280_1, hx280_2, hx280_3, hx280_4, hx280_5⟩ := at_T28 HR3.out 0 p280 q280; obtain rfl : ad276 = ad280 := (by injection e280); have qi280 : (0 < l3.length) = True := eq_true (by omega); (try rw [show ((0 : Int)).toNat = 0 from rfl] at hx280_0); (try rw [show 0 * 6 = 0 from rfl] at hx280_0); (try rw [Addr.add_zero'] at hx280_0); (try rw [show ((0 : Int)).toNat = 0 from rfl] at hx280_1); (try rw [show 0 * 6 = 0 from rfl] at hx280_1); (try rw [Addr.add_zero'] at hx280_1); (try rw [show ((0 : Int)).toNat = 0 from rfl] at hx280_2); (try rw [show 0 * 6 = 0 from rfl] at hx280_2); (try rw [Addr.add_zero'] at hx280_2); (try rw [show ((0 : Int)).toNat = 0 from rfl] at hx280_3); (try rw [show 0 * 6 = 0 from rfl] at hx280_3); (try rw [Addr.add_zero'] at hx280_3); (try rw [show ((0 : Int)).toNat = 0 from rfl] at hx280_4); (try rw [show 0 * 6 = 0 from rfl] at hx280_4); (try rw [Addr.add_zero'] at hx280_4); (try rw [show ((0 : Int)).toNat = 0 from rfl] at hx280_5); (try rw [show 0 * 6 = 0 from rfl] at hx280_5); (try rw [Addr.add_zero'] at hx280_5); replace p280 := eq_true p280; replace q280 := eq_true q280) | (go_at_call 27; (with_reducible refine (cohousingref20_day.calls ((rd_T28 l3 0).f2) t281 _ A25.out).mono ?_); rintro e w' ⟨rfl, ⟨nd, rfl⟩⟩; (try first | exact ⟨rfl, _, World.drewN_drewN _ _ _⟩ | exact ⟨rfl, _, Eq.trans (World.drewN_drewN _ _ _) (congrArg (World.drewN _) (Nat.add_assoc _ _ _))⟩); have p282 : 0 ≤ (0 : Int) := (by omega); have q282 : 0 < (l3.length : Int) := of_decide_eq_true (by first | (with_reducible assumption) | assumption); obtain ⟨ad282, e282, hx282_0, hx282_1, hx282_2, hx282_3, hx282_4, hx282_5⟩ := at_T28 HR3.out 0 p282 q282; obtain rfl : ad276 = ad282 := (by injection e282); have qi282 : (0 < l3.length) = True := eq_true (by omega); (try rw [show ((0 : Int)).toNat = 0 from rfl] at hx282_0); (try rw [show 0 * 6 = 0 from rfl] at hx282_0); (try rw [Addr.add_zero'] at hx282_0); (try rw [show ((0 : Int)).toNat = 0 from rfl] at hx282_1); (try rw [show 0 * 6 = 0 from rfl] at hx282_1); (try rw [Addr.add_zero'] at hx282_1); (try rw [show ((0 : Int)).toNat = 0 from rfl] at hx282_2); (try rw [show 0 * 6 = 0 from rfl] at hx282_2); (try rw [Addr.add_zero'] at hx282_2); (try rw [show ((0 : Int)).toNat = 0 from rfl] at hx282_3); (try rw [show 0 * 6 = 0 from rfl] at hx282_3); (try rw [Addr.add_zero'] at hx282_3); (try rw [show ((0 : Int)).toNat = 0 from rfl] at hx282_4); (try rw [show 0 * 6 = 0 from rfl] at hx282_4); (try rw [Addr.add_zero'] at hx282_4); (try rw [show ((0 : Int)).toNat = 0 from rfl] at hx282_5); (try rw [show 0 * 6 = 0 from rfl] at hx282_5); (try rw [Addr.add_zero'] at hx282_5); replace p282 := eq_true p282; replace q282 := eq_true q282) | (go_at_call 42; (with_reducible refine (cohousingref20_in.calls k2 _ _ l1 ((rd_T28 l3 0).f0) t283 _ ?side1 ?side2 A26.out).mono ?_); (case side1 => repeat (first | exact HR1.out | (with_reducible refine Kd.C_alloc ?_ _) | (with_reducible refine Kd.C_drewN ?_ _) | (with_reducible refine Kd.C_drew ?_))); (case side2 => exact HC1.out); rintro e w' ⟨rfl, ⟨nd, rfl⟩⟩; (try first | exact ⟨rfl, _, World.drewN_drewN _ _ _⟩ | exact ⟨rfl, _, Eq.trans (World.drewN_drewN _ _ _) (congrArg (World.drewN _) (Nat.add_assoc _ _ _))⟩)))
        repeat (go_quiet (first | (go_at_call 26; (with_reducible refine (cohousingref20_home.calls ((rd_T28 l3 0).f0) t277 _ A23.out).mono ?_); rintro e w' ⟨rfl, ⟨nd, rfl⟩⟩; (try first | exact ⟨rfl, _, World.drewN_drewN _ _ _⟩ | exact ⟨rfl, _, Eq.trans (World.drewN_drewN _ _ _) (congrArg (World.drewN _) (Nat.add_assoc _ _ _))⟩); have p278 : 0 ≤ (0 : Int) := (by omega); have q278 : 0 < (l3.length : Int) := of_decide_eq_true (by first | (with_reducible assumption) | assumption); obtain ⟨ad278, e278, hx278_0, hx278_1, hx278_2, hx278_3, hx278_4, hx278_5⟩ := at_T28 HR3.out 0 p278 q278; obtain rfl : ad276 = ad278 := (by injection e278); have qi278 : (0 < l3.length) = True := eq_true (by omega); (try rw [show ((0 : Int)).toNat = 0 from rfl] at hx278_0); (try rw [show 0 * 6 = 0 from rfl] at hx278_0); (try rw [Addr.add_zero'] at hx278_0); (try rw [show ((0 : Int)).toNat = 0 from rfl] at hx278_1); (try rw [show 0 * 6 = 0 from rfl] at hx278_1); (try rw [Addr.add_zero'] at hx278_1); (try rw [show ((0 : Int)).toNat = 0 from rfl] at hx278_2); (try rw [show 0 * 6 = 0 from rfl] at hx278_2); (try rw [Addr.add_zero'] at hx278_2); (try rw [show ((0 : Int)).toNat = 0 from rfl] at hx278_3); (try rw [show 0 * 6 = 0 from rfl] at hx278_3); (try rw [Addr.add_zero'] at hx278_3); (try rw [show ((0 : Int)).toNat = 0 from rfl] at hx278_4); (try rw [show 0 * 6 = 0 from rfl] at hx278_4); (try rw [Addr.add_zero'] at hx278_4); (try rw [show ((0 : Int)).toNat = 0 from rfl] at hx278_5); (try rw [show 0 * 6 = 0 from rfl] at hx278_5); (try rw [Addr.add_zero'] at hx278_5); replace p278 := eq_true p278; replace q278 := eq_true q278) | (go_at_call 31; (with_reducible refine (cohousingref20_Public.calls k2 ((rd_T28 l3 0).f1) t279 _ A24.out).mono ?_); rintro e w' ⟨rfl, ⟨nd, rfl⟩⟩; (try first | exact ⟨rfl, _, World.drewN_drewN _ _ _⟩ | exact ⟨rfl, _, Eq.trans (World.drewN_drewN _ _ _) (congrArg (World.drewN _) (Nat.add_assoc _ _ _))⟩); have p280 : 0 ≤ (0 : Int) := (by omega); have q280 : 0 < (l3.length : Int) := of_decide_eq_true (by first | (with_reducible assumption) | assumption); obtain ⟨ad280, e280, hx280_0, hx280_1, hx280_2, hx280_3, hx280_4, hx280_5⟩ := at_T28 HR3.out 0 p280 q280; obtain rfl : ad276 = ad280 := (by injection e280); have qi280 : (0 < l3.length) = True := eq_true (by omega); (try rw [show ((0 : Int)).toNat = 0 from rfl] at hx280_0); (try rw [show 0 * 6 = 0 from rfl] at hx280_0); (try rw [Addr.add_zero'] at hx280_0); (try rw [show ((0 : Int)).toNat = 0 from rfl] at hx280_1); (try rw [show 0 * 6 = 0 from rfl] at hx280_1); (try rw [Addr.add_zero'] at hx280_1); (try rw [show ((0 : Int)).toNat = 0 from rfl] at hx280_2); (try rw [show 0 * 6 = 0 from rfl] at hx280_2); (try rw [Addr.add_zero'] at hx280_2); (try rw [show ((0 : Int)).toNat = 0 from rfl] at hx280_3); (try rw [show 0 * 6 = 0 from rfl] at hx280_3); (try rw [Addr.add_zero'] at hx280_3); (try rw [show ((0 : Int)).toNat = 0 from rfl] at hx280_4); (try rw [show 0 * 6 = 0 from rfl] at hx280_4); (try rw [Addr.add_zero'] at hx280_4); (try rw [show ((0 : Int)).toNat = 0 from rfl] at hx280_5); (try rw [show 0 * 6 = 0 from rfl] at hx280_5); (try rw [Addr.add_zero'] at hx280_5); replace p280 := eq_true p280; replace q280 := eq_true q280) | (go_at_call 27; (with_reducible refine (cohousingref20_day.calls ((rd_T28 l3 0).f2) t281 _ A25.out).mono ?_); rintro e w' ⟨rfl, ⟨nd, rfl⟩⟩; (try first | exact ⟨rfl, _, World.drewN_drewN _ _ _⟩ | exact ⟨rfl, _, Eq.trans (World.drewN_drewN _ _ _) (congrArg (World.drewN _) (Nat.add_assoc _ _ _))⟩); have p282 : 0 ≤ (0 : Int) := (by omega); have q282 : 0 < (l3.length : Int) := of_decide_eq_true (by first | (with_reducible assumption) | assumption); obtain ⟨ad282, e282, hx282_0, hx282_1, hx282_2, hx282_3, hx282_4, hx282_5⟩ := at_T28 HR3.out 0 p282 q282; obtain rfl : ad276 = ad282 := (by injection e282); have qi282 : (0 < l3.length) = True := eq_true (by omega); (try rw [show ((0 : Int)).toNat = 0 from rfl] at hx282_0); (try rw [show 0 * 6 = 0 from rfl] at hx282_0); (try rw [Addr.add_zero'] at hx282_0); (try rw [show ((0 : Int)).toNat = 0 from rfl] at hx282_1); (try rw [show 0 * 6 = 0 from rfl] at hx282_1); (try rw [Addr.add_zero'] at hx282_1); (try rw [show ((0 : Int)).toNat = 0 from rfl] at hx282_2); (try rw [show 0 * 6 = 0 from rfl] at hx282_2); (try rw [Addr.add_zero'] at hx282_2); (try rw [show ((0 : Int)).toNat = 0 from rfl] at hx282_3); (try rw [show 0 * 6 = 0 from rfl] at hx282_3); (try rw [Addr.add_zero'] at hx282_3); (try rw [show ((0 : Int)).toNat = 0 from rfl] at hx282_4); (try rw [show 0 * 6 = 0 from rfl] at hx282_4); (try rw [Addr.add_zero'] at hx282_4); (try rw [show ((0 : Int)).toNat = 0 from rfl] at hx282_5); (try rw [show 0 * 6 = 0 from rfl] at hx282_5); (try rw [Addr.add_zero'] at hx282_5); replace p282 := eq_true p282; replace q282 := eq_true q282) | (go_at_call 42; (with_reducible refine (cohousingref20_in.calls k2 _ _ l1 ((rd_T28 l3 0).f0) t283 _ ?side1 ?side2 A26.out).mono ?_); (case side1 => repeat (first | exact HR1.out | (with_reducible refine Kd.C_alloc ?_ _) | (with_reducible refine Kd.C_drewN ?_ _) | (with_reducible refine Kd.C_drew ?_))); (case side2 => exact HC1.out); rintro e w' ⟨rfl, ⟨nd, rfl⟩⟩; (try first | exact ⟨rfl, _, World.drewN_drewN _ _ _⟩ | exact ⟨rfl, _, Eq.trans (World.drewN_drewN _ _ _) (congrArg (World.drewN _) (Nat.add_assoc _ _ _))⟩))); go_upto_region 14 with (first | (go_at_call 26; (with_reducible refine (cohousingref20_home.calls ((rd_T28 l3 0).f0) t277 _ A23.out).mono ?_); rintro e w' ⟨rfl, ⟨nd, rfl⟩⟩; (try first | exact ⟨rfl, _, World.drewN_drewN _ _ _⟩ | exact ⟨rfl, _, Eq.trans (World.drewN_drewN _ _ _) (congrArg (World.drewN _) (Nat.add_assoc _ _ _))⟩); have p278 : 0 ≤ (0 : Int) := (by omega); have q278 : 0 < (l3.length : Int) := of_decide_eq_true (by first | (with_reducible assumption) | assumption); obtain ⟨ad278, e278, hx278_0, hx278_1, hx278_2, hx278_3, hx278_4, hx278_5⟩ := at_T28 HR3.out 0 p278 q278; obtain rfl : ad276 = ad278 := (by injection e278); have qi278 : (0 < l3.length) = True := eq_true (by omega); (try rw [show ((0 : Int)).toNat = 0 from rfl] at hx278_0); (try rw [show 0 * 6 = 0 from rfl] at hx278_0); (try rw [Addr.add_zero'] at hx278_0); (try rw [show ((0 : Int)).toNat = 0 from rfl] at hx278_1); (try rw [show 0 * 6 = 0 from rfl] at hx278_1); (try rw [Addr.add_zero'] at hx278_1); (try rw [show ((0 : Int)).toNat = 0 from rfl] at hx278_2); (try rw [show 0 * 6 = 0 from rfl] at hx278_2); (try rw [Addr.add_zero'] at hx278_2); (try rw [show ((0 : Int)).toNat = 0 from rfl] at hx278_3); (try rw [show 0 * 6 = 0 from rfl] at hx278_3); (try rw [Addr.add_zero'] at hx278_3); (try rw [show ((0 : Int)).toNat = 0 from rfl] at hx278_4); (try rw [show 0 * 6 = 0 from rfl] at hx278_4); (try rw [Addr.add_zero'] at hx278_4); (try rw [show ((0 : Int)).toNat = 0 from rfl] at hx278_5); (try rw [show 0 * 6 = 0 from rfl] at hx278_5); (try rw [Addr.add_zero'] at hx278_5); replace p278 := eq_true p278; replace q278 := eq_true q278) | (go_at_call 31; (with_reducible refine (cohousingref20_Public.calls k2 ((rd_T28 l3 0).f1) t279 _ A24.out).mono ?_); rintro e w' ⟨rfl, ⟨nd, rfl⟩⟩; (try first | exact ⟨rfl, _, World.drewN_drewN _ _ _⟩ | exact ⟨rfl, _, Eq.trans (World.drewN_drewN _ _ _) (congrArg (World.drewN _) (Nat.add_assoc _ _ _))⟩); have p280 : 0 ≤ (0 : Int) := (by omega); have q280 : 0 < (l3.length : Int) := of_decide_eq_true (by first | (with_reducible assumption) | assumption); obtain ⟨ad280, e280, hx280_0, hx280_1, hx280_2, hx280_3, hx280_4, hx280_5⟩ := at_T28 HR3.out 0 p280 q280; obtain rfl : ad276 = ad280 := (by injection e280); have qi280 : (0 < l3.length) = True := eq_true (by omega); (try rw [show ((0 : Int)).toNat = 0 from rfl] at hx280_0); (try rw [show 0 * 6 = 0 from rfl] at hx280_0); (try rw [Addr.add_zero'] at hx280_0); (try rw [show ((0 : Int)).toNat = 0 from rfl] at hx280_1); (try rw [show 0 * 6 = 0 from rfl] at hx280_1); (try rw [Addr.add_zero'] at hx280_1); (try rw [show ((0 : Int)).toNat = 0 from rfl] at hx280_2); (try rw [show 0 * 6 = 0 from rfl] at hx280_2); (try rw [Addr.add_zero'] at hx280_2); (try rw [show ((0 : Int)).toNat = 0 from rfl] at hx280_3); (try rw [show 0 * 6 = 0 from rfl] at hx280_3); (try rw [Addr.add_zero'] at hx280_3); (try rw [show ((0 : Int)).toNat = 0 from rfl] at hx280_4); (try rw [show 0 * 6 = 0 from rfl] at hx280_4); (try rw [Addr.add_zero'] at hx280_4); (try rw [show ((0 : Int)).toNat = 0 from rfl] at hx280_5); (try rw [show 0 * 6 = 0 from rfl] at hx280_5); (try rw [Addr.add_zero'] at hx280_5); replace p280 := eq_true p280; replace q280 := eq_true q280) | (go_at_call 27; (with_reducible refine (cohousingref20_day.calls ((rd_T28 l3 0).f2) t281 _ A25.out).mono ?_); rintro e w' ⟨rfl, ⟨nd, rfl⟩⟩; (try first | exact ⟨rfl, _, World.drewN_drewN _ _ _⟩ | exact ⟨rfl, _, Eq.trans (World.drewN_drewN _ _ _) (congrArg (World.drewN _) (Nat.add_assoc _ _ _))⟩); have p282 : 0 ≤ (0 : Int) := (by omega); have q282 : 0 < (l3.length : Int) := of_decide_eq_true (by first | (with_reducible assumption) | assumption); obtain ⟨ad282, e282, hx282_0, hx282_1, hx282_2, hx282_3, hx282_4, hx282_5⟩ := at_T28 HR3.out 0 p282 q282; obtain rfl : ad276 = ad282 := (by injection e282); have qi282 : (0 < l3.length) = True := eq_true (by omega); (try rw [show ((0 : Int)).toNat = 0 from rfl] at hx282_0); (try rw [show 0 * 6 = 0 from rfl] at hx282_0); (try rw [Addr.add_zero'] at hx282_0); (try rw [show ((0 : Int)).toNat = 0 from rfl] at hx282_1); (try rw [show 0 * 6 = 0 from rfl] at hx282_1); (try rw [Addr.add_zero'] at hx282_1); (try rw [show ((0 : Int)).toNat = 0 from rfl] at hx282_2); (try rw [show 0 * 6 = 0 from rfl] at hx282_2); (try rw [Addr.add_zero'] at hx282_2); (try rw [show ((0 : Int)).toNat = 0 from rfl] at hx282_3); (try rw [show 0 * 6 = 0 from rfl] at hx282_3); (try rw [Addr.add_zero'] at hx282_3); (try rw [show ((0 : Int)).toNat = 0 from rfl] at hx282_4); (try rw [show 0 * 6 = 0 from rfl] at hx282_4); (try rw [Addr.add_zero'] at hx282_4); (try rw [show ((0 : Int)).toNat = 0 from rfl] at hx282_5); (try rw [show 0 * 6 = 0 from rfl] at hx282_5); (try rw [Addr.add_zero'] at hx282_5); replace p282 := eq_true p282; replace q282 := eq_true q282) | (go_at_call 42; (with_reducible refine (cohousingref20_in.calls k2 _ _ l1 ((rd_T28 l3 0).f0) t283 _ ?side1 ?side2 A26.out).mono ?_); (case side1 => repeat (first | exact HR1.out | (with_reducible refine Kd.C_alloc ?_ _) | (with_reducible refine Kd.C_drewN ?_ _) | (with_reducible refine Kd.C_drew ?_))); (case side2 => exact HC1.out); rintro e w' ⟨rfl, ⟨nd, rfl⟩⟩; (try first | exact ⟨rfl, _, World.drewN_drewN _ _ _⟩ | exact ⟨rfl, _, Eq.trans (World.drewN_drewN _ _ _) (congrArg (World.drewN _) (Nat.add_assoc _ _ _))⟩))))
        (try simp only [Act.put, List.setIfInBounds_toArray, List.set_cons_zero, List.set_cons_succ])
        go_cut [105] (fun v105 wc => ∃ (kq : Nat) (x105_26 : Bool), v105 = .bool x105_26 ∧ Aside0 (cohousingref20_formed.j2 kq l3 x105_26 = some r) ∧ Aside0 (kq ≤ k2) ∧ Drawn0 w wc)
        case first =>
         have H := HC27.out
         clear HC27
         by_cases c28 : t277 = true
         ·subst c28
          have H1 : (if t279 = true then (if t281 = true then (cohousingref20_formed.j2 k2 l3 t283) else (cohousingref20_formed.j2 k2 l3 true)) else (cohousingref20_formed.j2 k2 l3 true)) = some r := by rw [if_pos rfl] at H; exact H
          clear H
          have H := H1
          clear H1
          by_cases c29 : t279 = true
          ·subst c29
           have H1 : (if t281 = true then (cohousingref20_formed.j2 k2 l3 t283) else (cohousingref20_formed.j2 k2 l3 true)) = some r := by rw [if_pos rfl] at H; exact H
           clear H
           have H := H1
           clear H1
           by_cases c30 : t281 = true
           ·subst c30
            have H1 : (cohousingref20_formed.j2 k2 l3 t283) = some r := by rw [if_pos rfl] at H; exact H
            clear H
            have H := H1
            clear H1
            have H' := Aside0.mk H
            clear H
            go_wp2
            repeat (go_quiet (fail); try go_wp2)
            (try subst hji18)
            go_meet
            case rel => exact ⟨_, (t283), (by first | rfl | (simp; done) | (simp [*]; done)), H', ⟨by have := HJ5.out; have := HK2.out; first | omega | exact Nat.le_refl _⟩, by repeat (first | exact Drawn0.refl _ | apply Drawn0.step)⟩
           ·replace c30 := Bool.eq_false_iff.mpr c30
            subst c30
            have H1 : (cohousingref20_formed.j2 k2 l3 true) = some r := by rw [if_neg (show ¬ (false = true) by decide)] at H; exact H
            clear H
            have H := H1
            clear H1
            have H' := Aside0.mk H
            clear H
            go_wp2
            repeat (go_quiet (fail); try go_wp2)
            (try subst hji18)
            go_meet
            case rel => exact ⟨_, (true), (by first | rfl | (simp; done) | (simp [*]; done)), H', ⟨by have := HJ5.out; have := HK2.out; first | omega | exact Nat.le_refl _⟩, by repeat (first | exact Drawn0.refl _ | apply Drawn0.step)⟩
          ·replace c29 := Bool.eq_false_iff.mpr c29
           subst c29
           have H1 : (cohousingref20_formed.j2 k2 l3 true) = some r := by rw [if_neg (show ¬ (false = true) by decide)] at H; exact H
           clear H
           have H := H1
           clear H1
           have H' := Aside0.mk H
           clear H
           go_wp2
           repeat (go_quiet (fail); try go_wp2)
           (try subst hji18)
           go_meet
           case rel => exact ⟨_, (true), (by first | rfl | (simp; done) | (simp [*]; done)), H', ⟨by have := HJ5.out; have := HK2.out; first | omega | exact Nat.le_refl _⟩, by repeat (first | exact Drawn0.refl _ | apply Drawn0.step)⟩
         ·replace c28 := Bool.eq_false_iff.mpr c28
          subst c28
          have H1 : (cohousingref20_formed.j2 k2 l3 true) = some r := by rw [if_neg (show ¬ (false = true) by decide)] at H; exact H
          clear H
          have H := H1
          clear H1
          have H' := Aside0.mk H
          clear H
          go_wp2
          repeat (go_quiet (fail); try go_wp2)
          (try subst hji18)
          go_meet
          case rel => exact ⟨_, (true), (by first | rfl | (simp; done) | (simp [*]; done)), H', ⟨by have := HJ5.out; have := HK2.out; first | omega | exact Nat.le_refl _⟩, by repeat (first | exact Drawn0.refl _ | apply Drawn0.step)⟩
        case rest =>
         clear HC27
         try clear c1
         try clear c2
         try clear p2
         try clear q2
         try clear hx2
         try clear qi2
         try clear c3
         try clear c4
         try clear c5
         try clear p6
         try clear c7
         try clear c8
         try clear c8b0
         try clear c8b1
         try clear c9
         try clear c9b0
         try clear c10
         try clear c10b0
         try clear c11
         try clear c11b0
         try clear c11b1
         try clear c12
         try clear c13
         try clear c13b0
         try clear c14
         try clear c14b0
         try clear c16
         try clear c17
         try clear c17b0
         try clear c19
         try clear c19b0
         try clear c20
         try clear c20b0
         try clear c21
         try clear c21b0
         try clear c22
         try clear c22b0
         try clear c22b1
         try clear p27
         try clear q27
         try clear hx27
         try clear qi27
         try clear c28
         try clear p28
         try clear q28
         try clear hx28
         try clear qi28
         try clear c29
         try clear c30
         try clear hx272_0
         try clear hx274_0
         try clear hx275_0
         try clear hx276_0
         try clear hx276_1
         try clear hx276_2
         try clear hx276_3
         try clear hx276_4
         try clear hx276_5
         try clear hx278_0
         try clear hx278_1
         try clear hx278_2
         try clear hx278_3
         try clear hx278_4
         try clear hx278_5
         try clear hx280_0
         try clear hx280_1
         try clear hx280_2
         try clear hx280_3
         try clear hx280_4
         try clear hx280_5
         try clear hx282_0
         try clear hx282_1
         try clear hx282_2
         try clear hx282_3
         try clear hx282_4
         try clear hx282_5
         try clear p2
         try clear p272
         try clear p274
         try clear p275
         try clear p276
         try clear p278
         try clear p280
         try clear p282
         try clear q272
         try clear q274
         try clear q275
         try clear q276
         try clear q278
         try clear q280
         try clear q282
         obtain ⟨kq, x105_26, rfl, HA, HJ26, ⟨mc26, rfl⟩⟩ := hcut
         cases kq with
         | zero => exact absurd HA.out (by simp [cohousingref20_formed.j2])
         | succ kj26 =>
          have H := HA.out
          clear HA
          simp only [cohousingref20_formed.j2] at H
          by_cases c31 : x105_26 = true
          ·subst c31
           have H1 : (some false) = some r := by rw [if_pos rfl] at H; exact H
           clear H
           have H := H1
           clear H1
           obtain rfl := Option.some.inj H
           go_wp2
           repeat (go_quiet (fail); try go_wp2)
           go_ret
           exact ⟨by first | rfl | (simp; done) | (simp [*]; done), by repeat (first | exact Drawn0.refl _ | apply Drawn0.step)⟩
          ·replace c31 := Bool.eq_false_iff.mpr c31
           subst c31
           have H1 : (cohousingref20_formed.l1 kj26 l3 1) = some r := by rw [if_neg (show ¬ (false = true) by decide)] at H; exact H
           clear H
           have H := H1
           clear H1
           have H' := Aside0.mk H
           clear H
           go_wp2
           repeat (go_quiet (fail); try go_wp2)
           go_loopg [15] kj26 (fun kq v15 w' => ∃ (x15_4 : Int), v15 = .int .i64 x15_4 ∧ Aside0 (cohousingref20_formed.l1 kq l3 x15_4 = some r) ∧ Aside0 (kq ≤ kj26) ∧ Drawn0 w w')
           case atStart => exact ⟨(1), (by first | rfl | (simp; done) | (simp [*]; done)), H', ⟨Nat.le_refl _⟩, by repeat (first | exact Drawn0.refl _ | apply Drawn0.step)⟩
           case round =>
            clear H'
            try clear c1
            try clear c2
            try clear p2
            try clear q2
            try clear hx2
            try clear qi2
            try clear c3
            try clear c4
            try clear c5
            try clear p6
            try clear c7
            try clear c8
            try clear c8b0
            try clear c8b1
            try clear c9
            try clear c9b0
            try clear c10
            try clear c10b0
            try clear c11
            try clear c11b0
            try clear c11b1
            try clear c12
            try clear c13
            try clear c13b0
            try clear c14
            try clear c14b0
            try clear c16
            try clear c17
            try clear c17b0
            try clear c19
            try clear c19b0
            try clear c20
            try clear c20b0
            try clear c21
            try clear c21b0
            try clear c22
            try clear c22b0
            try clear c22b1
            try clear c26
            try clear p27
            try clear q27
            try clear hx27
            try clear qi27
            try clear c28
            try clear p28
            try clear q28
            try clear hx28
            try clear qi28
            try clear c29
            try clear c30
            try clear c31
            try clear hx272_0
            try clear hx274_0
            try clear hx275_0
            try clear hx276_0
            try clear hx276_1
            try clear hx276_2
            try clear hx276_3
            try clear hx276_4
            try clear hx276_5
            try clear hx278_0
            try clear hx278_1
            try clear hx278_2
            try clear hx278_3
            try clear hx278_4
            try clear hx278_5
            try clear hx280_0
            try clear hx280_1
            try clear hx280_2
            try clear hx280_3
            try clear hx280_4
            try clear hx280_5
            try clear hx282_0
            try clear hx282_1
            try clear hx282_2
            try clear hx282_3
            try clear hx282_4
            try clear hx282_5
            try clear p2
            try clear p27
            try clear p272
            try clear p274
            try clear p275
            try clear p276
            try clear p278
            try clear p28
            try clear p280
            try clear p282
            try clear p6
            try clear q2
            try clear q27
            try clear q272
            try clear q274
            try clear q275
            try clear q276
            try clear q278
            try clear q28
            try clear q280
            try clear q282
            obtain ⟨x15_4, rfl, HA, HK4, ⟨m4, rfl⟩⟩ := hrel
            cases gk with
            | zero => exact absurd HA.out (by simp [cohousingref20_formed.l1])
            | succ k4 =>
             have H := HA.out
             clear HA
             simp only [cohousingref20_formed.l1] at H
             by_cases c32 : x15_4 < (l3.length : Int)
             ·rw [if_pos c32] at H
              have c32b0 : decide (x15_4 < (l3.length : Int)) = true := decide_eq_true c32
              clear c32
              by_cases c33 : 0 ≤ x15_4
              ·rw [if_pos c33] at H
               have c33b0 : decide (0 ≤ x15_4) = true := decide_eq_true c33
               clear c33
               by_cases c34 : 0 < (l3.length : Int)
               ·rw [if_pos c34] at H
                have c34b0 : decide (0 < (l3.length : Int)) = true := decide_eq_true c34
                have c34b1 : decide (0 < l3.length) = true := decide_eq_true (by omega)
                clear c34
                by_cases c35 : ((rd_T28 l3 x15_4).f0) = ((rd_T28 l3 0).f0)
                ·rw [if_pos c35] at H
                 have c35b0 : (((rd_T28 l3 x15_4).f0) == ((rd_T28 l3 0).f0)) = true := beq_iff_eq.mpr c35
                 have c35b1 : (((rd_T28 l3 x15_4).f0) != ((rd_T28 l3 0).f0)) = false := bne_eq_false_iff_eq.mpr c35
                 clear c35
                 by_cases c36 : ((rd_T28 l3 x15_4).f1) = ((rd_T28 l3 0).f1)
                 ·rw [if_pos c36] at H
                  have c36b0 : (((rd_T28 l3 x15_4).f1) == ((rd_T28 l3 0).f1)) = true := beq_iff_eq.mpr c36
                  have c36b1 : (((rd_T28 l3 x15_4).f1) != ((rd_T28 l3 0).f1)) = false := bne_eq_false_iff_eq.mpr c36
                  clear c36
                  by_cases c37 : ((rd_T28 l3 x15_4).f2) = ((rd_T28 l3 0).f2)
                  ·rw [if_pos c37] at H
                   have c37b0 : (((rd_T28 l3 x15_4).f2) == ((rd_T28 l3 0).f2)) = true := beq_iff_eq.mpr c37
                   have c37b1 : (((rd_T28 l3 x15_4).f2) != ((rd_T28 l3 0).f2)) = false := bne_eq_false_iff_eq.mpr c37
                   clear c37
                   have H' := Aside0.mk H
                   clear H
                   have p284 : 0 ≤ (x15_4 : Int) := of_decide_eq_true (by first | (with_reducible assumption) | assumption)
                   have q284 : x15_4 < (l3.length : Int) := of_decide_eq_true (by first | (with_reducible assumption) | assumption)
                   obtain ⟨ad284, e284, hx284_0, hx284_1, hx284_2, hx284_3, hx284_4, hx284_5⟩ := at_T28 HR3.out x15_4 p284 q284
                   obtain rfl : ad276 = ad284 := (by injection e284)
                   replace p284 := eq_true p284
                   replace q284 := eq_true q284
                   have p285 : 0 ≤ (0 : Int) := (by omega)
                   have q285 : 0 < (l3.length : Int) := of_decide_eq_true (by first | (with_reducible assumption) | assumption)
                   obtain ⟨ad285, e285, hx285_0, hx285_1, hx285_2, hx285_3, hx285_4, hx285_5⟩ := at_T28 HR3.out 0 p285 q285
                   obtain rfl : ad276 = ad285 := (by injection e285)
                   have qi285 : (0 < l3.length) = True := eq_true (by omega)
                   (try rw [show ((0 : Int)).toNat = 0 from rfl] at hx285_0)
                   (try rw [show 0 * 6 = 0 from rfl] at hx285_0)
                   (try rw [Addr.add_zero'] at hx285_0)
                   (try rw [show ((0 : Int)).toNat = 0 from rfl] at hx285_1)
                   (try rw [show 0 * 6 = 0 from rfl] at hx285_1)
                   (try rw [Addr.add_zero'] at hx285_1)
                   (try rw [show ((0 : Int)).toNat = 0 from rfl] at hx285_2)
                   (try rw [show 0 * 6 = 0 from rfl] at hx285_2)
                   (try rw [Addr.add_zero'] at hx285_2)
                   (try rw [show ((0 : Int)).toNat = 0 from rfl] at hx285_3)
                   (try rw [show 0 * 6 = 0 from rfl] at hx285_3)
                   (try rw [Addr.add_zero'] at hx285_3)
                   (try rw [show ((0 : Int)).toNat = 0 from rfl] at hx285_4)
                   (try rw [show 0 * 6 = 0 from rfl] at hx285_4)
                   (try rw [Addr.add_zero'] at hx285_4)
                   (try rw [show ((0 : Int)).toNat = 0 from rfl] at hx285_5)
                   (try rw [show 0 * 6 = 0 from rfl] at hx285_5)
                   (try rw [Addr.add_zero'] at hx285_5)
                   replace p285 := eq_true p285
                   replace q285 := eq_true q285
                   have p286 : 0 ≤ (x15_4 : Int) := of_decide_eq_true (by first | (with_reducible assumption) | assumption)
                   have q286 : x15_4 < (l3.length : Int) := of_decide_eq_true (by first | (with_reducible assumption) | assumption)
                   obtain ⟨ad286, e286, hx286_0, hx286_1, hx286_2, hx286_3, hx286_4, hx286_5⟩ := at_T28 HR3.out x15_4 p286 q286
                   obtain rfl : ad276 = ad286 := (by injection e286)
                   replace p286 := eq_true p286
                   replace q286 := eq_true q286
                   have p287 : 0 ≤ (0 : Int) := (by omega)
                   have q287 : 0 < (l3.length : Int) := of_decide_eq_true (by first | (with_reducible assumption) | assumption)
                   obtain ⟨ad287, e287, hx287_0, hx287_1, hx287_2, hx287_3, hx287_4, hx287_5⟩ := at_T28 HR3.out 0 p287 q287
                   obtain rfl : ad276 = ad287 := (by injection e287)
                   have qi287 : (0 < l3.length) = True := eq_true (by omega)
                   (try rw [show ((0 : Int)).toNat = 0 from rfl] at hx287_0)
                   (try rw [show 0 * 6 = 0 from rfl] at hx287_0)
                   (try rw [Addr.add_zero'] at hx287_0)
                   (try rw [show ((0 : Int)).toNat = 0 from rfl] at hx287_1)
                   (try rw [show 0 * 6 = 0 from rfl] at hx287_1)
                   (try rw [Addr.add_zero'] at hx287_1)
                   (try rw [show ((0 : Int)).toNat = 0 from rfl] at hx287_2)
                   (try rw [show 0 * 6 = 0 from rfl] at hx287_2)
                   (try rw [Addr.add_zero'] at hx287_2)
                   (try rw [show ((0 : Int)).toNat = 0 from rfl] at hx287_3)
                   (try rw [show 0 * 6 = 0 from rfl] at hx287_3)
                   (try rw [Addr.add_zero'] at hx287_3)
                   (try rw [show ((0 : Int)).toNat = 0 from rfl] at hx287_4)
                   (try rw [show 0 * 6 = 0 from rfl] at hx287_4)
                   (try rw [Addr.add_zero'] at hx287_4)
                   (try rw [show ((0 : Int)).toNat = 0 from rfl] at hx287_5)
                   (try rw [show 0 * 6 = 0 from rfl] at hx287_5)
                   (try rw [Addr.add_zero'] at hx287_5)
                   replace p287 := eq_true p287
                   replace q287 := eq_true q287
                   have p288 : 0 ≤ (x15_4 : Int) := of_decide_eq_true (by first | (with_reducible assumption) | assumption)
                   have q288 : x15_4 < (l3.length : Int) := of_decide_eq_true (by first | (with_reducible assumption) | assumption)
                   obtain ⟨ad288, e288, hx288_0, hx288_1, hx288_2, hx288_3, hx288_4, hx288_5⟩ := at_T28 HR3.out x15_4 p288 q288
                   obtain rfl : ad276 = ad288 := (by injection e288)
                   replace p288 := eq_true p288
                   replace q288 := eq_true q288
                   have p289 : 0 ≤ (0 : Int) := (by omega)
                   have q289 : 0 < (l3.length : Int) := of_decide_eq_true (by first | (with_reducible assumption) | assumption)
                   obtain ⟨ad289, e289, hx289_0, hx289_1, hx289_2, hx289_3, hx289_4, hx289_5⟩ := at_T28 HR3.out 0 p289 q289
                   obtain rfl : ad276 = ad289 := (by injection e289)
                   have qi289 : (0 < l3.length) = True := eq_true (by omega)
                   (try rw [show ((0 : Int)).toNat = 0 from rfl] at hx289_0)
                   (try rw [show 0 * 6 = 0 from rfl] at hx289_0)
                   (try rw [Addr.add_zero'] at hx289_0)
                   (try rw [show ((0 : Int)).toNat = 0 from rfl] at hx289_1)
                   (try rw [show 0 * 6 = 0 from rfl] at hx289_1)
                   (try rw [Addr.add_zero'] at hx289_1)
                   (try rw [show ((0 : Int)).toNat = 0 from rfl] at hx289_2)
                   (try rw [show 0 * 6 = 0 from rfl] at hx289_2)
                   (try rw [Addr.add_zero'] at hx289_2)
                   (try rw [show ((0 : Int)).toNat = 0 from rfl] at hx289_3)
                   (try rw [show 0 * 6 = 0 from rfl] at hx289_3)
                   (try rw [Addr.add_zero'] at hx289_3)
                   (try rw [show ((0 : Int)).toNat = 0 from rfl] at hx289_4)
                   (try rw [show 0 * 6 = 0 from rfl] at hx289_4)
                   (try rw [Addr.add_zero'] at hx289_4)
                   (try rw [show ((0 : Int)).toNat = 0 from rfl] at hx289_5)
                   (try rw [show 0 * 6 = 0 from rfl] at hx289_5)
                   (try rw [Addr.add_zero'] at hx289_5)
                   replace p289 := eq_true p289
                   replace q289 := eq_true q289
                   go_wp2
                   repeat (go_quiet (fail); try go_wp2)
                   go_roundg k4
                   case measure => have := HJ5.out; have := HK2.out; have := HJ26.out; have := HK4.out; omega
                   case rel => exact ⟨(wrap64 (x15_4 + 1)), (by first | rfl | (simp; done) | (simp [*]; done)), H', ⟨by have := HJ5.out; have := HK2.out; have := HJ26.out; have := HK4.out; omega⟩, by repeat (first | exact Drawn0.refl _ | apply Drawn0.step)⟩
                  ·rw [if_neg c37] at H
                   have c37b0 : (((rd_T28 l3 x15_4).f2) == ((rd_T28 l3 0).f2)) = false := beq_eq_false_iff_ne.mpr c37
                   have c37b1 : (((rd_T28 l3 x15_4).f2) != ((rd_T28 l3 0).f2)) = true := bne_iff_ne.mpr c37
                   obtain rfl := Option.some.inj H
                   have p284 : 0 ≤ (x15_4 : Int) := of_decide_eq_true (by first | (with_reducible assumption) | assumption)
                   have q284 : x15_4 < (l3.length : Int) := of_decide_eq_true (by first | (with_reducible assumption) | assumption)
                   obtain ⟨ad284, e284, hx284_0, hx284_1, hx284_2, hx284_3, hx284_4, hx284_5⟩ := at_T28 HR3.out x15_4 p284 q284
                   obtain rfl : ad276 = ad284 := (by injection e284)
                   replace p284 := eq_true p284
                   replace q284 := eq_true q284
                   have p285 : 0 ≤ (0 : Int) := (by omega)
                   have q285 : 0 < (l3.length : Int) := of_decide_eq_true (by first | (with_reducible assumption) | assumption)
                   obtain ⟨ad285, e285, hx285_0, hx285_1, hx285_2, hx285_3, hx285_4, hx285_5⟩ := at_T28 HR3.out 0 p285 q285
                   obtain rfl : ad276 = ad285 := (by injection e285)
                   have qi285 : (0 < l3.length) = True := eq_true (by omega)
                   (try rw [show ((0 : Int)).toNat = 0 from rfl] at hx285_0)
                   (try rw [show 0 * 6 = 0 from rfl] at hx285_0)
                   (try rw [Addr.add_zero'] at hx285_0)
                   (try rw [show ((0 : Int)).toNat = 0 from rfl] at hx285_1)
                   (try rw [show 0 * 6 = 0 from rfl] at hx285_1)
                   (try rw [Addr.add_zero'] at hx285_1)
                   (try rw [show ((0 : Int)).toNat = 0 from rfl] at hx285_2)
                   (try rw [show 0 * 6 = 0 from rfl] at hx285_2)
                   (try rw [Addr.add_zero'] at hx285_2)
                   (try rw [show ((0 : Int)).toNat = 0 from rfl] at hx285_3)
                   (try rw [show 0 * 6 = 0 from rfl] at hx285_3)
                   (try rw [Addr.add_zero'] at hx285_3)
                   (try rw [show ((0 : Int)).toNat = 0 from rfl] at hx285_4)
                   (try rw [show 0 * 6 = 0 from rfl] at hx285_4)
                   (try rw [Addr.add_zero'] at hx285_4)
                   (try rw [show ((0 : Int)).toNat = 0 from rfl] at hx285_5)
                   (try rw [show 0 * 6 = 0 from rfl] at hx285_5)
                   (try rw [Addr.add_zero'] at hx285_5)
                   replace p285 := eq_true p285
                   replace q285 := eq_true q285
                   have p286 : 0 ≤ (x15_4 : Int) := of_decide_eq_true (by first | (with_reducible assumption) | assumption)
                   have q286 : x15_4 < (l3.length : Int) := of_decide_eq_true (by first | (with_reducible assumption) | assumption)
                   obtain ⟨ad286, e286, hx286_0, hx286_1, hx286_2, hx286_3, hx286_4, hx286_5⟩ := at_T28 HR3.out x15_4 p286 q286
                   obtain rfl : ad276 = ad286 := (by injection e286)
                   replace p286 := eq_true p286
                   replace q286 := eq_true q286
                   have p287 : 0 ≤ (0 : Int) := (by omega)
                   have q287 : 0 < (l3.length : Int) := of_decide_eq_true (by first | (with_reducible assumption) | assumption)
                   obtain ⟨ad287, e287, hx287_0, hx287_1, hx287_2, hx287_3, hx287_4, hx287_5⟩ := at_T28 HR3.out 0 p287 q287
                   obtain rfl : ad276 = ad287 := (by injection e287)
                   have qi287 : (0 < l3.length) = True := eq_true (by omega)
                   (try rw [show ((0 : Int)).toNat = 0 from rfl] at hx287_0)
                   (try rw [show 0 * 6 = 0 from rfl] at hx287_0)
                   (try rw [Addr.add_zero'] at hx287_0)
                   (try rw [show ((0 : Int)).toNat = 0 from rfl] at hx287_1)
                   (try rw [show 0 * 6 = 0 from rfl] at hx287_1)
                   (try rw [Addr.add_zero'] at hx287_1)
                   (try rw [show ((0 : Int)).toNat = 0 from rfl] at hx287_2)
                   (try rw [show 0 * 6 = 0 from rfl] at hx287_2)
                   (try rw [Addr.add_zero'] at hx287_2)
                   (try rw [show ((0 : Int)).toNat = 0 from rfl] at hx287_3)
                   (try rw [show 0 * 6 = 0 from rfl] at hx287_3)
                   (try rw [Addr.add_zero'] at hx287_3)
                   (try rw [show ((0 : Int)).toNat = 0 from rfl] at hx287_4)
                   (try rw [show 0 * 6 = 0 from rfl] at hx287_4)
                   (try rw [Addr.add_zero'] at hx287_4)
                   (try rw [show ((0 : Int)).toNat = 0 from rfl] at hx287_5)
                   (try rw [show 0 * 6 = 0 from rfl] at hx287_5)
                   (try rw [Addr.add_zero'] at hx287_5)
                   replace p287 := eq_true p287
                   replace q287 := eq_true q287
                   have p288 : 0 ≤ (x15_4 : Int) := of_decide_eq_true (by first | (with_reducible assumption) | assumption)
                   have q288 : x15_4 < (l3.length : Int) := of_decide_eq_true (by first | (with_reducible assumption) | assumption)
                   obtain ⟨ad288, e288, hx288_0, hx288_1, hx288_2, hx288_3, hx288_4, hx288_5⟩ := at_T28 HR3.out x15_4 p288 q288
                   obtain rfl : ad276 = ad288 := (by injection e288)
                   replace p288 := eq_true p288
                   replace q288 := eq_true q288
                   have p289 : 0 ≤ (0 : Int) := (by omega)
                   have q289 : 0 < (l3.length : Int) := of_decide_eq_true (by first | (with_reducible assumption) | assumption)
                   obtain ⟨ad289, e289, hx289_0, hx289_1, hx289_2, hx289_3, hx289_4, hx289_5⟩ := at_T28 HR3.out 0 p289 q289
                   obtain rfl : ad276 = ad289 := (by injection e289)
                   have qi289 : (0 < l3.length) = True := eq_true (by omega)
                   (try rw [show ((0 : Int)).toNat = 0 from rfl] at hx289_0)
                   (try rw [show 0 * 6 = 0 from rfl] at hx289_0)
                   (try rw [Addr.add_zero'] at hx289_0)
                   (try rw [show ((0 : Int)).toNat = 0 from rfl] at hx289_1)
                   (try rw [show 0 * 6 = 0 from rfl] at hx289_1)
                   (try rw [Addr.add_zero'] at hx289_1)
                   (try rw [show ((0 : Int)).toNat = 0 from rfl] at hx289_2)
                   (try rw [show 0 * 6 = 0 from rfl] at hx289_2)
                   (try rw [Addr.add_zero'] at hx289_2)
                   (try rw [show ((0 : Int)).toNat = 0 from rfl] at hx289_3)
                   (try rw [show 0 * 6 = 0 from rfl] at hx289_3)
                   (try rw [Addr.add_zero'] at hx289_3)
                   (try rw [show ((0 : Int)).toNat = 0 from rfl] at hx289_4)
                   (try rw [show 0 * 6 = 0 from rfl] at hx289_4)
                   (try rw [Addr.add_zero'] at hx289_4)
                   (try rw [show ((0 : Int)).toNat = 0 from rfl] at hx289_5)
                   (try rw [show 0 * 6 = 0 from rfl] at hx289_5)
                   (try rw [Addr.add_zero'] at hx289_5)
                   replace p289 := eq_true p289
                   replace q289 := eq_true q289
                   go_wp2
                   repeat (go_quiet (fail); try go_wp2)
                   go_ret
                   exact ⟨by first | rfl | (simp; done) | (simp [*]; done), by repeat (first | exact Drawn0.refl _ | apply Drawn0.step)⟩
                 ·rw [if_neg c36] at H
                  have c36b0 : (((rd_T28 l3 x15_4).f1) == ((rd_T28 l3 0).f1)) = false := beq_eq_false_iff_ne.mpr c36
                  have c36b1 : (((rd_T28 l3 x15_4).f1) != ((rd_T28 l3 0).f1)) = true := bne_iff_ne.mpr c36
                  obtain rfl := Option.some.inj H
                  have p284 : 0 ≤ (x15_4 : Int) := of_decide_eq_true (by first | (with_reducible assumption) | assumption)
                  have q284 : x15_4 < (l3.length : Int) := of_decide_eq_true (by first | (with_reducible assumption) | assumption)
                  obtain ⟨ad284, e284, hx284_0, hx284_1, hx284_2, hx284_3, hx284_4, hx284_5⟩ := at_T28 HR3.out x15_4 p284 q284
                  obtain rfl : ad276 = ad284 := (by injection e284)
                  replace p284 := eq_true p284
                  replace q284 := eq_true q284
                  have p285 : 0 ≤ (0 : Int) := (by omega)
                  have q285 : 0 < (l3.length : Int) := of_decide_eq_true (by first | (with_reducible assumption) | assumption)
                  obtain ⟨ad285, e285, hx285_0, hx285_1, hx285_2, hx285_3, hx285_4, hx285_5⟩ := at_T28 HR3.out 0 p285 q285
                  obtain rfl : ad276 = ad285 := (by injection e285)
                  have qi285 : (0 < l3.length) = True := eq_true (by omega)
                  (try rw [show ((0 : Int)).toNat = 0 from rfl] at hx285_0)
                  (try rw [show 0 * 6 = 0 from rfl] at hx285_0)
                  (try rw [Addr.add_zero'] at hx285_0)
                  (try rw [show ((0 : Int)).toNat = 0 from rfl] at hx285_1)
                  (try rw [show 0 * 6 = 0 from rfl] at hx285_1)
                  (try rw [Addr.add_zero'] at hx285_1)
                  (try rw [show ((0 : Int)).toNat = 0 from rfl] at hx285_2)
                  (try rw [show 0 * 6 = 0 from rfl] at hx285_2)
                  (try rw [Addr.add_zero'] at hx285_2)
                  (try rw [show ((0 : Int)).toNat = 0 from rfl] at hx285_3)
                  (try rw [show 0 * 6 = 0 from rfl] at hx285_3)
                  (try rw [Addr.add_zero'] at hx285_3)
                  (try rw [show ((0 : Int)).toNat = 0 from rfl] at hx285_4)
                  (try rw [show 0 * 6 = 0 from rfl] at hx285_4)
                  (try rw [Addr.add_zero'] at hx285_4)
                  (try rw [show ((0 : Int)).toNat = 0 from rfl] at hx285_5)
                  (try rw [show 0 * 6 = 0 from rfl] at hx285_5)
                  (try rw [Addr.add_zero'] at hx285_5)
                  replace p285 := eq_true p285
                  replace q285 := eq_true q285
                  have p286 : 0 ≤ (x15_4 : Int) := of_decide_eq_true (by first | (with_reducible assumption) | assumption)
                  have q286 : x15_4 < (l3.length : Int) := of_decide_eq_true (by first | (with_reducible assumption) | assumption)
                  obtain ⟨ad286, e286, hx286_0, hx286_1, hx286_2, hx286_3, hx286_4, hx286_5⟩ := at_T28 HR3.out x15_4 p286 q286
                  obtain rfl : ad276 = ad286 := (by injection e286)
                  replace p286 := eq_true p286
                  replace q286 := eq_true q286
                  have p287 : 0 ≤ (0 : Int) := (by omega)
                  have q287 : 0 < (l3.length : Int) := of_decide_eq_true (by first | (with_reducible assumption) | assumption)
                  obtain ⟨ad287, e287, hx287_0, hx287_1, hx287_2, hx287_3, hx287_4, hx287_5⟩ := at_T28 HR3.out 0 p287 q287
                  obtain rfl : ad276 = ad287 := (by injection e287)
                  have qi287 : (0 < l3.length) = True := eq_true (by omega)
                  (try rw [show ((0 : Int)).toNat = 0 from rfl] at hx287_0)
                  (try rw [show 0 * 6 = 0 from rfl] at hx287_0)
                  (try rw [Addr.add_zero'] at hx287_0)
                  (try rw [show ((0 : Int)).toNat = 0 from rfl] at hx287_1)
                  (try rw [show 0 * 6 = 0 from rfl] at hx287_1)
                  (try rw [Addr.add_zero'] at hx287_1)
                  (try rw [show ((0 : Int)).toNat = 0 from rfl] at hx287_2)
                  (try rw [show 0 * 6 = 0 from rfl] at hx287_2)
                  (try rw [Addr.add_zero'] at hx287_2)
                  (try rw [show ((0 : Int)).toNat = 0 from rfl] at hx287_3)
                  (try rw [show 0 * 6 = 0 from rfl] at hx287_3)
                  (try rw [Addr.add_zero'] at hx287_3)
                  (try rw [show ((0 : Int)).toNat = 0 from rfl] at hx287_4)
                  (try rw [show 0 * 6 = 0 from rfl] at hx287_4)
                  (try rw [Addr.add_zero'] at hx287_4)
                  (try rw [show ((0 : Int)).toNat = 0 from rfl] at hx287_5)
                  (try rw [show 0 * 6 = 0 from rfl] at hx287_5)
                  (try rw [Addr.add_zero'] at hx287_5)
                  replace p287 := eq_true p287
                  replace q287 := eq_true q287
                  go_wp2
                  repeat (go_quiet (fail); try go_wp2)
                  go_ret
                  exact ⟨by first | rfl | (simp; done) | (simp [*]; done), by repeat (first | exact Drawn0.refl _ | apply Drawn0.step)⟩
                ·rw [if_neg c35] at H
                 have c35b0 : (((rd_T28 l3 x15_4).f0) == ((rd_T28 l3 0).f0)) = false := beq_eq_false_iff_ne.mpr c35
                 have c35b1 : (((rd_T28 l3 x15_4).f0) != ((rd_T28 l3 0).f0)) = true := bne_iff_ne.mpr c35
                 obtain rfl := Option.some.inj H
                 have p284 : 0 ≤ (x15_4 : Int) := of_decide_eq_true (by first | (with_reducible assumption) | assumption)
                 have q284 : x15_4 < (l3.length : Int) := of_decide_eq_true (by first | (with_reducible assumption) | assumption)
                 obtain ⟨ad284, e284, hx284_0, hx284_1, hx284_2, hx284_3, hx284_4, hx284_5⟩ := at_T28 HR3.out x15_4 p284 q284
                 obtain rfl : ad276 = ad284 := (by injection e284)
                 replace p284 := eq_true p284
                 replace q284 := eq_true q284
                 have p285 : 0 ≤ (0 : Int) := (by omega)
                 have q285 : 0 < (l3.length : Int) := of_decide_eq_true (by first | (with_reducible assumption) | assumption)
                 obtain ⟨ad285, e285, hx285_0, hx285_1, hx285_2, hx285_3, hx285_4, hx285_5⟩ := at_T28 HR3.out 0 p285 q285
                 obtain rfl : ad276 = ad285 := (by injection e285)
                 have qi285 : (0 < l3.length) = True := eq_true (by omega)
                 (try rw [show ((0 : Int)).toNat = 0 from rfl] at hx285_0)
                 (try rw [show 0 * 6 = 0 from rfl] at hx285_0)
                 (try rw [Addr.add_zero'] at hx285_0)
                 (try rw [show ((0 : Int)).toNat = 0 from rfl] at hx285_1)
                 (try rw [show 0 * 6 = 0 from rfl] at hx285_1)
                 (try rw [Addr.add_zero'] at hx285_1)
                 (try rw [show ((0 : Int)).toNat = 0 from rfl] at hx285_2)
                 (try rw [show 0 * 6 = 0 from rfl] at hx285_2)
                 (try rw [Addr.add_zero'] at hx285_2)
                 (try rw [show ((0 : Int)).toNat = 0 from rfl] at hx285_3)
                 (try rw [show 0 * 6 = 0 from rfl] at hx285_3)
                 (try rw [Addr.add_zero'] at hx285_3)
                 (try rw [show ((0 : Int)).toNat = 0 from rfl] at hx285_4)
                 (try rw [show 0 * 6 = 0 from rfl] at hx285_4)
                 (try rw [Addr.add_zero'] at hx285_4)
                 (try rw [show ((0 : Int)).toNat = 0 from rfl] at hx285_5)
                 (try rw [show 0 * 6 = 0 from rfl] at hx285_5)
                 (try rw [Addr.add_zero'] at hx285_5)
                 replace p285 := eq_true p285
                 replace q285 := eq_true q285
                 go_wp2
                 repeat (go_quiet (fail); try go_wp2)
                 go_ret
                 exact ⟨by first | rfl | (simp; done) | (simp [*]; done), by repeat (first | exact Drawn0.refl _ | apply Drawn0.step)⟩
               ·rw [if_neg c34] at H
                exact absurd H (by simp)
              ·rw [if_neg c33] at H
               exact absurd H (by simp)
             ·rw [if_neg c32] at H
              have c32b0 : decide (x15_4 < (l3.length : Int)) = false := decide_eq_false c32
              clear c32
              obtain rfl := Option.some.inj H
              go_wp2
              repeat (go_quiet (fail); try go_wp2)
              go_ret
              exact ⟨by first | rfl | (simp; done) | (simp [*]; done), by repeat (first | exact Drawn0.refl _ | apply Drawn0.step)⟩
       ·rw [if_neg c22] at H
        exact absurd H (by simp)

end Go.Proofs.YtcnkenknbmmglaaDoor.P
