-- Written by a program of this session out of the translation (wip/pp: the kit's print, turned). Not trusted: Lean checks it.
import Derived.Test.YtcnkenknbmmglaaDoorPx0
import Derived.Test.YtcnkenknbmmglaaDoorPx12
namespace Go.Proofs.YtcnkenknbmmglaaDoor.P
open Go.RowKit Go.Proofs.YtcnkenknbmmglaaDoorW.PrintWords Go.Proofs.YtcnkenknbmmglaaDoorW.PrintLast Go.Proofs.YtcnkenknbmmglaaDoorW.PrintMore
attribute [local go_sem] max2_int min2_int max_two min_two max_three min_three max_four min_four   -- for this text's walks alone
set_option linter.unusedVariables false
set_option linter.unusedSimpArgs false

/-! ### cohousingref20_Valid: function 13 -/
mutual
def cohousingref20_Valid.l0 : Nat → List (S49) → Int → Option (Bool)
 | 0, _, _ => none
 | k + 1, x0, x3 => if x3 < (x0.length : Int) then (if 0 ≤ x3 then ((cohousingref20_home.f ((rd_T49 x0 x3).f0)).bind fun t228 => ((cohousingref20_Public.f k ((rd_T49 x0 x3).f1)).bind fun t230 => ((cohousingref20_day.f ((rd_T49 x0 x3).f2)).bind fun t232 => (if t228 = true then (if t230 = true then (cohousingref20_Valid.j1 k x0 x3 (!t232)) else (cohousingref20_Valid.j1 k x0 x3 true)) else (cohousingref20_Valid.j1 k x0 x3 true))))) else (none)) else (some true)
def cohousingref20_Valid.j1 : Nat → List (S49) → Int → Bool → Option (Bool)
 | 0, _, _, _ => none
 | k + 1, x0, x3, x43 => if x43 = true then (some false) else (if x3 > 0 then (if 0 ≤ x3 then (if x3 < (x0.length : Int) then (if 0 ≤ (wrap64 (x3 - 1)) then (if (wrap64 (x3 - 1)) < (x0.length : Int) then (if ((rd_T49 x0 x3).f0) < ((rd_T49 x0 (wrap64 (x3 - 1))).f0) then (some false) else (if ((rd_T49 x0 x3).f0) = ((rd_T49 x0 (wrap64 (x3 - 1))).f0) then (if ((rd_T49 x0 x3).f2) ≤ ((rd_T49 x0 (wrap64 (x3 - 1))).f2) then (some false) else (cohousingref20_Valid.l0 k x0 (wrap64 (x3 + 1)))) else (cohousingref20_Valid.l0 k x0 (wrap64 (x3 + 1))))) else (none)) else (none)) else (none)) else (none)) else (cohousingref20_Valid.l0 k x0 (wrap64 (x3 + 1))))
end
def cohousingref20_Valid.f (k : Nat) (l0 : List (S49)) : Option (Bool) := if (l0.length : Int) > 1000 then (some false) else (cohousingref20_Valid.l0 k l0 0)
theorem cohousingref20_Valid.mono_l : ∀ k, (∀ y0 y1, LeO (cohousingref20_Valid.l0 k y0 y1) (cohousingref20_Valid.l0 (k + 1) y0 y1)) ∧ (∀ y0 y1 y2, LeO (cohousingref20_Valid.j1 k y0 y1 y2) (cohousingref20_Valid.j1 (k + 1) y0 y1 y2))
 | 0 => ⟨fun _ _ r h => by simp [cohousingref20_Valid.l0] at h, fun _ _ _ r h => by simp [cohousingref20_Valid.j1] at h⟩
 | k + 1 => by
  obtain ⟨ih0, ih1⟩ := cohousingref20_Valid.mono_l k
  refine ⟨?_, ?_⟩
  ·intro y0 y1
   unfold cohousingref20_Valid.l0
   repeat' first
   | (with_reducible exact ih0 _ _)
   | (with_reducible exact ih1 _ _ _)
   | (with_reducible exact cohousingref20_Public.mono _ _)
   | (with_reducible exact LeO.refl _)
   | (with_reducible exact LeO.none _)
   | (with_reducible refine LeO.ite ?_ ?_)
   | (with_reducible refine LeO.bind ?_ (fun _ => ?_))
   | exact ih0 _ _
   | exact ih1 _ _ _
   | exact cohousingref20_Public.mono _ _
   | exact LeO.none _
   | refine LeO.ite ?_ ?_
   | refine LeO.bind ?_ (fun _ => ?_)
  ·intro y0 y1 y2
   unfold cohousingref20_Valid.j1
   repeat' first
   | (with_reducible exact ih0 _ _)
   | (with_reducible exact ih1 _ _ _)
   | (with_reducible exact cohousingref20_Public.mono _ _)
   | (with_reducible exact LeO.refl _)
   | (with_reducible exact LeO.none _)
   | (with_reducible refine LeO.ite ?_ ?_)
   | (with_reducible refine LeO.bind ?_ (fun _ => ?_))
   | exact ih0 _ _
   | exact ih1 _ _ _
   | exact cohousingref20_Public.mono _ _
   | exact LeO.none _
   | refine LeO.ite ?_ ?_
   | refine LeO.bind ?_ (fun _ => ?_)
theorem cohousingref20_Valid.mono : ∀ a0 k, LeO (cohousingref20_Valid.f k a0) (cohousingref20_Valid.f (k + 1) a0) := by
 intro a0 k
 obtain ⟨ih0, ih1⟩ := cohousingref20_Valid.mono_l k
 unfold cohousingref20_Valid.f
 repeat' first
   | (with_reducible exact ih0 _ _)
   | (with_reducible exact ih1 _ _ _)
   | (with_reducible exact cohousingref20_Public.mono _ _)
   | (with_reducible exact LeO.refl _)
   | (with_reducible exact LeO.none _)
   | (with_reducible refine LeO.ite ?_ ?_)
   | (with_reducible refine LeO.bind ?_ (fun _ => ?_))
   | exact ih0 _ _
   | exact ih1 _ _ _
   | exact cohousingref20_Public.mono _ _
   | exact LeO.none _
   | refine LeO.ite ?_ ?_
   | refine LeO.bind ?_ (fun _ => ?_)
set_option maxHeartbeats 8000000 in
set_option maxRecDepth 100000 in
theorem cohousingref20_Valid.calls (k : Nat) (A0 : Option Addr) (c0 : Nat) (l0 : List (S49)) (r : Bool) (w : World) (hr0 : Kd.C k49 w A0 l0.length l0) (hc0 : l0.length ≤ c0) (h : cohousingref20_Valid.f k l0 = some r) :
  Calls Tryd.prog 13 #[.slice A0 l0.length c0] w fun e w' => e = .returned (.bool r) ∧ Drawn0 w w' := by
 have HR0 := Aside0.mk hr0
 have HC0 := Aside0.mk hc0
 clear hr0 hc0
 have H : (if (l0.length : Int) > 1000 then (some false) else (cohousingref20_Valid.l0 k l0 0)) = some r := h
 clear h
 by_cases c2 : (l0.length : Int) > 1000
 ·rw [if_pos c2] at H
  have c2b0 : decide (1000 < (l0.length : Int)) = true := decide_eq_true c2
  have c2b1 : decide (1000 < l0.length) = true := decide_eq_true (by omega)
  clear c2
  obtain rfl := Option.some.inj H
  go_enter Tryd.func13, Tryd.ntmps13
  go_wp2
  repeat (go_quiet (fail); try go_wp2)
  go_ret
  exact ⟨by first | rfl | (simp; done) | (simp [*]; done), by repeat (first | exact Drawn0.refl _ | apply Drawn0.step)⟩
 ·rw [if_neg c2] at H
  have c2b0 : decide (1000 < (l0.length : Int)) = false := decide_eq_false c2
  have c2b1 : decide (1000 < l0.length) = false := decide_eq_false (by omega)
  clear c2
  have H' := Aside0.mk H
  clear H
  go_enter Tryd.func13, Tryd.ntmps13
  go_wp2
  repeat (go_quiet (fail); try go_wp2)
  go_loopg [3] k (fun kq v3 w' => ∃ (x3_1 : Int), v3 = .int .i64 x3_1 ∧ Aside0 (cohousingref20_Valid.l0 kq l0 x3_1 = some r) ∧ Aside0 (kq ≤ k) ∧ Drawn0 w w')
  case atStart => exact ⟨(0), (by first | rfl | (simp; done) | (simp [*]; done)), H', ⟨Nat.le_refl _⟩, by repeat (first | exact Drawn0.refl _ | apply Drawn0.step)⟩
  case round =>
   clear H'
   try clear c1
   try clear c2
   try clear c2b0
   try clear c2b1
   try clear p2
   obtain ⟨x3_1, rfl, HA, HK1, ⟨m1, rfl⟩⟩ := hrel
   cases gk with
   | zero => exact absurd HA.out (by simp [cohousingref20_Valid.l0])
   | succ k1 =>
    have H := HA.out
    clear HA
    simp only [cohousingref20_Valid.l0] at H
    by_cases c3 : x3_1 < (l0.length : Int)
    ·rw [if_pos c3] at H
     have c3b0 : decide (x3_1 < (l0.length : Int)) = true := decide_eq_true c3
     clear c3
     by_cases c4 : 0 ≤ x3_1
     ·rw [if_pos c4] at H
      have c4b0 : decide (0 ≤ x3_1) = true := decide_eq_true c4
      clear c4
      replace H := Option.bind_eq_some_iff.mp H
      obtain ⟨t228, A50, H⟩ := H
      replace H : ((cohousingref20_Public.f k1 ((rd_T49 l0 x3_1).f1)).bind fun t230 => ((cohousingref20_day.f ((rd_T49 l0 x3_1).f2)).bind fun t232 => (if t228 = true then (if t230 = true then (cohousingref20_Valid.j1 k1 l0 x3_1 (!t232)) else (cohousingref20_Valid.j1 k1 l0 x3_1 true)) else (cohousingref20_Valid.j1 k1 l0 x3_1 true)))) = some r := H
      have A5 := Aside0.mk A50
      clear A50
      replace H := Option.bind_eq_some_iff.mp H
      obtain ⟨t230, A60, H⟩ := H
      replace H : ((cohousingref20_day.f ((rd_T49 l0 x3_1).f2)).bind fun t232 => (if t228 = true then (if t230 = true then (cohousingref20_Valid.j1 k1 l0 x3_1 (!t232)) else (cohousingref20_Valid.j1 k1 l0 x3_1 true)) else (cohousingref20_Valid.j1 k1 l0 x3_1 true))) = some r := H
      have A6 := Aside0.mk A60
      clear A60
      replace H := Option.bind_eq_some_iff.mp H
      obtain ⟨t232, A70, H⟩ := H
      replace H : (if t228 = true then (if t230 = true then (cohousingref20_Valid.j1 k1 l0 x3_1 (!t232)) else (cohousingref20_Valid.j1 k1 l0 x3_1 true)) else (cohousingref20_Valid.j1 k1 l0 x3_1 true)) = some r := H
      have A7 := Aside0.mk A70
      clear A70
      have HC8 := Aside0.mk H
      clear H
      have p227 : 0 ≤ (x3_1 : Int) := of_decide_eq_true (by first | (with_reducible assumption) | assumption)
      have q227 : x3_1 < (l0.length : Int) := of_decide_eq_true (by first | (with_reducible assumption) | assumption)
      obtain ⟨ad227, e227, hx227_0, hx227_1, hx227_2⟩ := at_T49 HR0.out x3_1 p227 q227
      cases e227
      replace p227 := eq_true p227
      replace q227 := eq_true q227
      go_upto_region 9 with (first | (go_at_call 26; (with_reducible refine (cohousingref20_home.calls ((rd_T49 l0 x3_1).f0) t228 _ A5.out).mono ?_); rintro e w' ⟨rfl, ⟨nd, rfl⟩⟩; (try first | exact ⟨rfl, _, World.drewN_drewN _ _ _⟩ | exact ⟨rfl, _, Eq.trans (World.drewN_drewN _ _ _) (congrArg (World.drewN _) (Nat.add_assoc _ _ _))⟩); have p229 : 0 ≤ (x3_1 : Int) := of_decide_eq_true (by first | (with_reducible assumption) | assumption); have q229 : x3_1 < (l0.length : Int) := of_decide_eq_true (by first | (with_reducible assumption) | assumption); obtain ⟨ad229, e229, hx229_0, hx229_1, hx229_2⟩ := at_T49 HR0.out x3_1 p229 q229; obtain rfl : ad227 = ad229 := (by injection e229); replace p229 := eq_true p229; replace q229 := eq_true q229) | (go_at_call 31; (with_reducible refine (cohousingref20_Public.calls k1 ((rd_T49 l0 x3_1).f1) t230 _ A6.out).mono ?_); rintro e w' ⟨rfl, ⟨nd, rfl⟩⟩; (try first | exact ⟨rfl, _, World.drewN_drewN _ _ _⟩ | exact ⟨rfl, _, Eq.trans (World.drewN_drewN _ _ _) (congrArg (World.drewN _) (Nat.add_assoc _ _ _))⟩); have p231 : 0 ≤ (x3_1 : Int) := of_decide_eq_true (by first | (with_reducible assumption) | assumption); have q231 : x3_1 < (l0.length : Int) := of_decide_eq_true (by first | (with_reducible assumption) | assumption); obtain ⟨ad231, e231, hx231_0, hx231_1, hx231_2⟩ := at_T49 HR0.out x3_1 p231 q231; obtain rfl : ad227 = ad231 := (by injection e231); replace p231 := eq_true p231; replace q231 := eq_true q231) | (go_at_call 27; (with_reducible refine (cohousingref20_day.calls ((rd_T49 l0 x3_1).f2) t232 _ A7.out).mono ?_); rintro e w' ⟨rfl, ⟨nd, rfl⟩⟩; (try first | exact ⟨rfl, _, World.drewN_drewN _ _ _⟩ | exact ⟨rfl, _, Eq.trans (World.drewN_drewN _ _ _) (congrArg (World.drewN _) (Nat.add_assoc _ _ _))⟩)))
      repeat (go_quiet (first | (go_at_call 26; (with_reducible refine (cohousingref20_home.calls ((rd_T49 l0 x3_1).f0) t228 _ A5.out).mono ?_); rintro e w' ⟨rfl, ⟨nd, rfl⟩⟩; (try first | exact ⟨rfl, _, World.drewN_drewN _ _ _⟩ | exact ⟨rfl, _, Eq.trans (World.drewN_drewN _ _ _) (congrArg (World.drewN _) (Nat.add_assoc _ _ _))⟩); have p229 : 0 ≤ (x3_1 : Int) := of_decide_eq_true (by first | (with_reducible assumption) | assumption); have q229 : x3_1 < (l0.length : Int) := of_decide_eq_true (by first | (with_reducible assumption) | assumption); obtain ⟨ad229, e229, hx229_0, hx229_1, hx229_2⟩ := at_T49 HR0.out x3_1 p229 q229; obtain rfl : ad227 = ad229 := (by injection e229); replace p229 := eq_true p229; replace q229 := eq_true q229) | (go_at_call 31; (with_reducible refine (cohousingref20_Public.calls k1 ((rd_T49 l0 x3_1).f1) t230 _ A6.out).mono ?_); rintro e w' ⟨rfl, ⟨nd, rfl⟩⟩; (try first | exact ⟨rfl, _, World.drewN_drewN _ _ _⟩ | exact ⟨rfl, _, Eq.trans (World.drewN_drewN _ _ _) (congrArg (World.drewN _) (Nat.add_assoc _ _ _))⟩); have p231 : 0 ≤ (x3_1 : Int) := of_decide_eq_true (by first | (with_reducible assumption) | assumption); have q231 : x3_1 < (l0.length : Int) := of_decide_eq_true (by first | (with_reducible assumption) | assumption); obtain ⟨ad231, e231, hx231_0, hx231_1, hx231_2⟩ := at_T49 HR0.out x3_1 p231 q231; obtain rfl : ad227 = ad231 := (by injection e231); replace p231 := eq_true p231; replace q231 := eq_true q231) | (go_at_call 27; (with_reducible refine (cohousingref20_day.calls ((rd_T49 l0 x3_1).f2) t232 _ A7.out).mono ?_); rintro e w' ⟨rfl, ⟨nd, rfl⟩⟩; (try first | exact ⟨rfl, _, World.drewN_drewN _ _ _⟩ | exact ⟨rfl, _, Eq.trans (World.drewN_drewN _ _ _) (congrArg (World.drewN _) (Nat.add_assoc _ _ _))⟩))); go_upto_region 9 with (first | (go_at_call 26; (with_reducible refine (cohousingref20_home.calls ((rd_T49 l0 x3_1).f0) t228 _ A5.out).mono ?_); rintro e w' ⟨rfl, ⟨nd, rfl⟩⟩; (try first | exact ⟨rfl, _, World.drewN_drewN _ _ _⟩ | exact ⟨rfl, _, Eq.trans (World.drewN_drewN _ _ _) (congrArg (World.drewN _) (Nat.add_assoc _ _ _))⟩); have p229 : 0 ≤ (x3_1 : Int) := of_decide_eq_true (by first | (with_reducible assumption) | assumption); have q229 : x3_1 < (l0.length : Int) := of_decide_eq_true (by first | (with_reducible assumption) | assumption); obtain ⟨ad229, e229, hx229_0, hx229_1, hx229_2⟩ := at_T49 HR0.out x3_1 p229 q229; obtain rfl : ad227 = ad229 := (by injection e229); replace p229 := eq_true p229; replace q229 := eq_true q229) | (go_at_call 31; (with_reducible refine (cohousingref20_Public.calls k1 ((rd_T49 l0 x3_1).f1) t230 _ A6.out).mono ?_); rintro e w' ⟨rfl, ⟨nd, rfl⟩⟩; (try first | exact ⟨rfl, _, World.drewN_drewN _ _ _⟩ | exact ⟨rfl, _, Eq.trans (World.drewN_drewN _ _ _) (congrArg (World.drewN _) (Nat.add_assoc _ _ _))⟩); have p231 : 0 ≤ (x3_1 : Int) := of_decide_eq_true (by first | (with_reducible assumption) | assumption); have q231 : x3_1 < (l0.length : Int) := of_decide_eq_true (by first | (with_reducible assumption) | assumption); obtain ⟨ad231, e231, hx231_0, hx231_1, hx231_2⟩ := at_T49 HR0.out x3_1 p231 q231; obtain rfl : ad227 = ad231 := (by injection e231); replace p231 := eq_true p231; replace q231 := eq_true q231) | (go_at_call 27; (with_reducible refine (cohousingref20_day.calls ((rd_T49 l0 x3_1).f2) t232 _ A7.out).mono ?_); rintro e w' ⟨rfl, ⟨nd, rfl⟩⟩; (try first | exact ⟨rfl, _, World.drewN_drewN _ _ _⟩ | exact ⟨rfl, _, Eq.trans (World.drewN_drewN _ _ _) (congrArg (World.drewN _) (Nat.add_assoc _ _ _))⟩))))
      (try simp only [Act.put, List.setIfInBounds_toArray, List.set_cons_zero, List.set_cons_succ])
      go_cut [43] (fun v43 wc => ∃ (kq : Nat) (x43_7 : Bool), v43 = .bool x43_7 ∧ Aside0 (cohousingref20_Valid.j1 kq l0 x3_1 x43_7 = some r) ∧ Aside0 (kq ≤ k1) ∧ Drawn0 w wc)
      case first =>
       have H := HC8.out
       clear HC8
       by_cases c9 : t228 = true
       ·subst c9
        have H1 : (if t230 = true then (cohousingref20_Valid.j1 k1 l0 x3_1 (!t232)) else (cohousingref20_Valid.j1 k1 l0 x3_1 true)) = some r := by rw [if_pos rfl] at H; exact H
        clear H
        have H := H1
        clear H1
        by_cases c10 : t230 = true
        ·subst c10
         have H1 : (cohousingref20_Valid.j1 k1 l0 x3_1 (!t232)) = some r := by rw [if_pos rfl] at H; exact H
         clear H
         have H := H1
         clear H1
         have H' := Aside0.mk H
         clear H
         go_wp2
         repeat (go_quiet (fail); try go_wp2)
         go_meet
         case rel => exact ⟨_, (!t232), (by first | rfl | (simp; done) | (simp [*]; done)), H', ⟨by have := HK1.out; first | omega | exact Nat.le_refl _⟩, by repeat (first | exact Drawn0.refl _ | apply Drawn0.step)⟩
        ·replace c10 := Bool.eq_false_iff.mpr c10
         subst c10
         have H1 : (cohousingref20_Valid.j1 k1 l0 x3_1 true) = some r := by rw [if_neg (show ¬ (false = true) by decide)] at H; exact H
         clear H
         have H := H1
         clear H1
         have H' := Aside0.mk H
         clear H
         go_wp2
         repeat (go_quiet (fail); try go_wp2)
         go_meet
         case rel => exact ⟨_, (true), (by first | rfl | (simp; done) | (simp [*]; done)), H', ⟨by have := HK1.out; first | omega | exact Nat.le_refl _⟩, by repeat (first | exact Drawn0.refl _ | apply Drawn0.step)⟩
       ·replace c9 := Bool.eq_false_iff.mpr c9
        subst c9
        have H1 : (cohousingref20_Valid.j1 k1 l0 x3_1 true) = some r := by rw [if_neg (show ¬ (false = true) by decide)] at H; exact H
        clear H
        have H := H1
        clear H1
        have H' := Aside0.mk H
        clear H
        go_wp2
        repeat (go_quiet (fail); try go_wp2)
        go_meet
        case rel => exact ⟨_, (true), (by first | rfl | (simp; done) | (simp [*]; done)), H', ⟨by have := HK1.out; first | omega | exact Nat.le_refl _⟩, by repeat (first | exact Drawn0.refl _ | apply Drawn0.step)⟩
      case rest =>
       clear HC8
       try clear c1
       try clear c2
       try clear c2b0
       try clear c2b1
       try clear p2
       try clear q2
       try clear hx2
       try clear c3
       try clear c3b0
       try clear c4
       try clear c4b0
       try clear c9
       try clear c10
       try clear hx227_0
       try clear hx227_1
       try clear hx227_2
       try clear hx229_0
       try clear hx229_1
       try clear hx229_2
       try clear hx231_0
       try clear hx231_1
       try clear hx231_2
       try clear p2
       try clear p227
       try clear p229
       try clear p231
       try clear q227
       try clear q229
       try clear q231
       obtain ⟨kq, x43_7, rfl, HA, HJ7, ⟨mc7, rfl⟩⟩ := hcut
       cases kq with
       | zero => exact absurd HA.out (by simp [cohousingref20_Valid.j1])
       | succ kj7 =>
        have H := HA.out
        clear HA
        simp only [cohousingref20_Valid.j1] at H
        by_cases c11 : x43_7 = true
        ·subst c11
         have H1 : (some false) = some r := by rw [if_pos rfl] at H; exact H
         clear H
         have H := H1
         clear H1
         obtain rfl := Option.some.inj H
         go_wp2
         repeat (go_quiet (fail); try go_wp2)
         go_ret
         exact ⟨by first | rfl | (simp; done) | (simp [*]; done), by repeat (first | exact Drawn0.refl _ | apply Drawn0.step)⟩
        ·replace c11 := Bool.eq_false_iff.mpr c11
         subst c11
         have H1 : (if x3_1 > 0 then (if 0 ≤ x3_1 then (if x3_1 < (l0.length : Int) then (if 0 ≤ (wrap64 (x3_1 - 1)) then (if (wrap64 (x3_1 - 1)) < (l0.length : Int) then (if ((rd_T49 l0 x3_1).f0) < ((rd_T49 l0 (wrap64 (x3_1 - 1))).f0) then (some false) else (if ((rd_T49 l0 x3_1).f0) = ((rd_T49 l0 (wrap64 (x3_1 - 1))).f0) then (if ((rd_T49 l0 x3_1).f2) ≤ ((rd_T49 l0 (wrap64 (x3_1 - 1))).f2) then (some false) else (cohousingref20_Valid.l0 kj7 l0 (wrap64 (x3_1 + 1)))) else (cohousingref20_Valid.l0 kj7 l0 (wrap64 (x3_1 + 1))))) else (none)) else (none)) else (none)) else (none)) else (cohousingref20_Valid.l0 kj7 l0 (wrap64 (x3_1 + 1)))) = some r := by rw [if_neg (show ¬ (false = true) by decide)] at H; exact H
         clear H
         have H := H1
         clear H1
         by_cases c12 : x3_1 > 0
         ·rw [if_pos c12] at H
          have c12b0 : decide (0 < x3_1) = true := decide_eq_true c12
          clear c12
          by_cases c13 : 0 ≤ x3_1
          ·rw [if_pos c13] at H
           have c13b0 : decide (0 ≤ x3_1) = true := decide_eq_true c13
           clear c13
           by_cases c14 : x3_1 < (l0.length : Int)
           ·rw [if_pos c14] at H
            have c14b0 : decide (x3_1 < (l0.length : Int)) = true := decide_eq_true c14
            clear c14
            obtain ⟨ji15, hji15⟩ : ∃ j_ : Int, (wrap64 (x3_1 - 1)) = j_ := ⟨_, rfl⟩
            replace H : (if 0 ≤ (ji15) then (if (ji15) < (l0.length : Int) then (if ((rd_T49 l0 x3_1).f0) < ((rd_T49 l0 (ji15)).f0) then (some false) else (if ((rd_T49 l0 x3_1).f0) = ((rd_T49 l0 (ji15)).f0) then (if ((rd_T49 l0 x3_1).f2) ≤ ((rd_T49 l0 (ji15)).f2) then (some false) else (cohousingref20_Valid.l0 kj7 l0 (wrap64 (x3_1 + 1)))) else (cohousingref20_Valid.l0 kj7 l0 (wrap64 (x3_1 + 1))))) else (none)) else (none)) = some r := by first | (rw [hji15] at H; exact H) | (simp only [hji15] at H ⊢; exact H)
            have hji15w : (IntKind.i64.wrap (x3_1 - 1)) = ji15 := (i64_w _).trans hji15
            by_cases c16 : 0 ≤ (ji15)
            ·rw [if_pos c16] at H
             have c16b0 : decide (0 ≤ (ji15)) = true := decide_eq_true c16
             clear c16
             by_cases c17 : (ji15) < (l0.length : Int)
             ·rw [if_pos c17] at H
              have c17b0 : decide ((ji15) < (l0.length : Int)) = true := decide_eq_true c17
              clear c17
              by_cases c18 : ((rd_T49 l0 x3_1).f0) < ((rd_T49 l0 (ji15)).f0)
              ·rw [if_pos c18] at H
               have c18b0 : decide (((rd_T49 l0 x3_1).f0) < ((rd_T49 l0 (ji15)).f0)) = true := decide_eq_true c18
               clear c18
               obtain rfl := Option.some.inj H
               have p233 : 0 ≤ (x3_1 : Int) := of_decide_eq_true (by first | (with_reducible assumption) | assumption)
               have q233 : x3_1 < (l0.length : Int) := of_decide_eq_true (by first | (with_reducible assumption) | assumption)
               obtain ⟨ad233, e233, hx233_0, hx233_1, hx233_2⟩ := at_T49 HR0.out x3_1 p233 q233
               obtain rfl : ad227 = ad233 := (by injection e233)
               replace p233 := eq_true p233
               replace q233 := eq_true q233
               have p234 : 0 ≤ ((ji15) : Int) := of_decide_eq_true (by first | (with_reducible assumption) | assumption)
               have q234 : (ji15) < (l0.length : Int) := of_decide_eq_true (by first | (with_reducible assumption) | assumption)
               obtain ⟨ad234, e234, hx234_0, hx234_1, hx234_2⟩ := at_T49 HR0.out (ji15) p234 q234
               obtain rfl : ad227 = ad234 := (by injection e234)
               replace p234 := eq_true p234
               replace q234 := eq_true q234
               go_wp2
               repeat (go_quiet (fail); try go_wp2)
               go_ret
               exact ⟨by first | rfl | (simp; done) | (simp only [← hji15] <;> (first | rfl | simp)) | (simp [*]; done), by repeat (first | exact Drawn0.refl _ | apply Drawn0.step)⟩
              ·rw [if_neg c18] at H
               have c18b0 : decide (((rd_T49 l0 x3_1).f0) < ((rd_T49 l0 (ji15)).f0)) = false := decide_eq_false c18
               clear c18
               by_cases c19 : ((rd_T49 l0 x3_1).f0) = ((rd_T49 l0 (ji15)).f0)
               ·rw [if_pos c19] at H
                have c19b0 : (((rd_T49 l0 x3_1).f0) == ((rd_T49 l0 (ji15)).f0)) = true := beq_iff_eq.mpr c19
                have c19b1 : (((rd_T49 l0 x3_1).f0) != ((rd_T49 l0 (ji15)).f0)) = false := bne_eq_false_iff_eq.mpr c19
                clear c19
                by_cases c20 : ((rd_T49 l0 x3_1).f2) ≤ ((rd_T49 l0 (ji15)).f2)
                ·rw [if_pos c20] at H
                 have c20b0 : decide (((rd_T49 l0 x3_1).f2) ≤ ((rd_T49 l0 (ji15)).f2)) = true := decide_eq_true c20
                 clear c20
                 obtain rfl := Option.some.inj H
                 have p233 : 0 ≤ (x3_1 : Int) := of_decide_eq_true (by first | (with_reducible assumption) | assumption)
                 have q233 : x3_1 < (l0.length : Int) := of_decide_eq_true (by first | (with_reducible assumption) | assumption)
                 obtain ⟨ad233, e233, hx233_0, hx233_1, hx233_2⟩ := at_T49 HR0.out x3_1 p233 q233
                 obtain rfl : ad227 = ad233 := (by injection e233)
                 replace p233 := eq_true p233
                 replace q233 := eq_true q233
                 have p234 : 0 ≤ ((ji15) : Int) := of_decide_eq_true (by first | (with_reducible assumption) | assumption)
                 have q234 : (ji15) < (l0.length : Int) := of_decide_eq_true (by first | (with_reducible assumption) | assumption)
                 obtain ⟨ad234, e234, hx234_0, hx234_1, hx234_2⟩ := at_T49 HR0.out (ji15) p234 q234
                 obtain rfl : ad227 = ad234 := (by injection e234)
                 replace p234 := eq_true p234
                 replace q234 := eq_true q234
                 have p235 : 0 ≤ (x3_1 : Int) := of_decide_eq_true (by first | (with_reducible assumption) | assumption)
                 have q235 : x3_1 < (l0.length : Int) := of_decide_eq_true (by first | (with_reducible assumption) | assumption)
                 obtain ⟨ad235, e235, hx235_0, hx235_1, hx235_2⟩ := at_T49 HR0.out x3_1 p235 q235
                 obtain rfl : ad227 = ad235 := (by injection e235)
                 replace p235 := eq_true p235
                 replace q235 := eq_true q235
                 have p236 : 0 ≤ ((ji15) : Int) := of_decide_eq_true (by first | (with_reducible assumption) | assumption)
                 have q236 : (ji15) < (l0.length : Int) := of_decide_eq_true (by first | (with_reducible assumption) | assumption)
                 obtain ⟨ad236, e236, hx236_0, hx236_1, hx236_2⟩ := at_T49 HR0.out (ji15) p236 q236
                 obtain rfl : ad227 = ad236 := (by injection e236)
                 replace p236 := eq_true p236
                 replace q236 := eq_true q236
                 have p237 : 0 ≤ (x3_1 : Int) := of_decide_eq_true (by first | (with_reducible assumption) | assumption)
                 have q237 : x3_1 < (l0.length : Int) := of_decide_eq_true (by first | (with_reducible assumption) | assumption)
                 obtain ⟨ad237, e237, hx237_0, hx237_1, hx237_2⟩ := at_T49 HR0.out x3_1 p237 q237
                 obtain rfl : ad227 = ad237 := (by injection e237)
                 replace p237 := eq_true p237
                 replace q237 := eq_true q237
                 have p238 : 0 ≤ ((ji15) : Int) := of_decide_eq_true (by first | (with_reducible assumption) | assumption)
                 have q238 : (ji15) < (l0.length : Int) := of_decide_eq_true (by first | (with_reducible assumption) | assumption)
                 obtain ⟨ad238, e238, hx238_0, hx238_1, hx238_2⟩ := at_T49 HR0.out (ji15) p238 q238
                 obtain rfl : ad227 = ad238 := (by injection e238)
                 replace p238 := eq_true p238
                 replace q238 := eq_true q238
                 go_wp2
                 repeat (go_quiet (fail); try go_wp2)
                 go_ret
                 exact ⟨by first | rfl | (simp; done) | (simp only [← hji15] <;> (first | rfl | simp)) | (simp [*]; done), by repeat (first | exact Drawn0.refl _ | apply Drawn0.step)⟩
                ·rw [if_neg c20] at H
                 have c20b0 : decide (((rd_T49 l0 x3_1).f2) ≤ ((rd_T49 l0 (ji15)).f2)) = false := decide_eq_false c20
                 clear c20
                 have H' := Aside0.mk H
                 clear H
                 have p233 : 0 ≤ (x3_1 : Int) := of_decide_eq_true (by first | (with_reducible assumption) | assumption)
                 have q233 : x3_1 < (l0.length : Int) := of_decide_eq_true (by first | (with_reducible assumption) | assumption)
                 obtain ⟨ad233, e233, hx233_0, hx233_1, hx233_2⟩ := at_T49 HR0.out x3_1 p233 q233
                 obtain rfl : ad227 = ad233 := (by injection e233)
                 replace p233 := eq_true p233
                 replace q233 := eq_true q233
                 have p234 : 0 ≤ ((ji15) : Int) := of_decide_eq_true (by first | (with_reducible assumption) | assumption)
                 have q234 : (ji15) < (l0.length : Int) := of_decide_eq_true (by first | (with_reducible assumption) | assumption)
                 obtain ⟨ad234, e234, hx234_0, hx234_1, hx234_2⟩ := at_T49 HR0.out (ji15) p234 q234
                 obtain rfl : ad227 = ad234 := (by injection e234)
                 replace p234 := eq_true p234
                 replace q234 := eq_true q234
                 have p235 : 0 ≤ (x3_1 : Int) := of_decide_eq_true (by first | (with_reducible assumption) | assumption)
                 have q235 : x3_1 < (l0.length : Int) := of_decide_eq_true (by first | (with_reducible assumption) | assumption)
                 obtain ⟨ad235, e235, hx235_0, hx235_1, hx235_2⟩ := at_T49 HR0.out x3_1 p235 q235
                 obtain rfl : ad227 = ad235 := (by injection e235)
                 replace p235 := eq_true p235
                 replace q235 := eq_true q235
                 have p236 : 0 ≤ ((ji15) : Int) := of_decide_eq_true (by first | (with_reducible assumption) | assumption)
                 have q236 : (ji15) < (l0.length : Int) := of_decide_eq_true (by first | (with_reducible assumption) | assumption)
                 obtain ⟨ad236, e236, hx236_0, hx236_1, hx236_2⟩ := at_T49 HR0.out (ji15) p236 q236
                 obtain rfl : ad227 = ad236 := (by injection e236)
                 replace p236 := eq_true p236
                 replace q236 := eq_true q236
                 have p237 : 0 ≤ (x3_1 : Int) := of_decide_eq_true (by first | (with_reducible assumption) | assumption)
                 have q237 : x3_1 < (l0.length : Int) := of_decide_eq_true (by first | (with_reducible assumption) | assumption)
                 obtain ⟨ad237, e237, hx237_0, hx237_1, hx237_2⟩ := at_T49 HR0.out x3_1 p237 q237
                 obtain rfl : ad227 = ad237 := (by injection e237)
                 replace p237 := eq_true p237
                 replace q237 := eq_true q237
                 have p238 : 0 ≤ ((ji15) : Int) := of_decide_eq_true (by first | (with_reducible assumption) | assumption)
                 have q238 : (ji15) < (l0.length : Int) := of_decide_eq_true (by first | (with_reducible assumption) | assumption)
                 obtain ⟨ad238, e238, hx238_0, hx238_1, hx238_2⟩ := at_T49 HR0.out (ji15) p238 q238
                 obtain rfl : ad227 = ad238 := (by injection e238)
                 replace p238 := eq_true p238
                 replace q238 := eq_true q238
                 go_wp2
                 repeat (go_quiet (fail); try go_wp2)
                 go_roundg kj7
                 case measure => have := HK1.out; have := HJ7.out; omega
                 case rel => exact ⟨(wrap64 (x3_1 + 1)), (by first | rfl | (simp; done) | (simp [*]; done)), H', ⟨by have := HK1.out; have := HJ7.out; omega⟩, by repeat (first | exact Drawn0.refl _ | apply Drawn0.step)⟩
               ·rw [if_neg c19] at H
                have c19b0 : (((rd_T49 l0 x3_1).f0) == ((rd_T49 l0 (ji15)).f0)) = false := beq_eq_false_iff_ne.mpr c19
                have c19b1 : (((rd_T49 l0 x3_1).f0) != ((rd_T49 l0 (ji15)).f0)) = true := bne_iff_ne.mpr c19
                have H' := Aside0.mk H
                clear H
                have p233 : 0 ≤ (x3_1 : Int) := of_decide_eq_true (by first | (with_reducible assumption) | assumption)
                have q233 : x3_1 < (l0.length : Int) := of_decide_eq_true (by first | (with_reducible assumption) | assumption)
                obtain ⟨ad233, e233, hx233_0, hx233_1, hx233_2⟩ := at_T49 HR0.out x3_1 p233 q233
                obtain rfl : ad227 = ad233 := (by injection e233)
                replace p233 := eq_true p233
                replace q233 := eq_true q233
                have p234 : 0 ≤ ((ji15) : Int) := of_decide_eq_true (by first | (with_reducible assumption) | assumption)
                have q234 : (ji15) < (l0.length : Int) := of_decide_eq_true (by first | (with_reducible assumption) | assumption)
                obtain ⟨ad234, e234, hx234_0, hx234_1, hx234_2⟩ := at_T49 HR0.out (ji15) p234 q234
                obtain rfl : ad227 = ad234 := (by injection e234)
                replace p234 := eq_true p234
                replace q234 := eq_true q234
                have p235 : 0 ≤ (x3_1 : Int) := of_decide_eq_true (by first | (with_reducible assumption) | assumption)
                have q235 : x3_1 < (l0.length : Int) := of_decide_eq_true (by first | (with_reducible assumption) | assumption)
                obtain ⟨ad235, e235, hx235_0, hx235_1, hx235_2⟩ := at_T49 HR0.out x3_1 p235 q235
                obtain rfl : ad227 = ad235 := (by injection e235)
                replace p235 := eq_true p235
                replace q235 := eq_true q235
                have p236 : 0 ≤ ((ji15) : Int) := of_decide_eq_true (by first | (with_reducible assumption) | assumption)
                have q236 : (ji15) < (l0.length : Int) := of_decide_eq_true (by first | (with_reducible assumption) | assumption)
                obtain ⟨ad236, e236, hx236_0, hx236_1, hx236_2⟩ := at_T49 HR0.out (ji15) p236 q236
                obtain rfl : ad227 = ad236 := (by injection e236)
                replace p236 := eq_true p236
                replace q236 := eq_true q236
                go_wp2
                repeat (go_quiet (fail); try go_wp2)
                go_roundg kj7
                case measure => have := HK1.out; have := HJ7.out; omega
                case rel => exact ⟨(wrap64 (x3_1 + 1)), (by first | rfl | (simp; done) | (simp [*]; done)), H', ⟨by have := HK1.out; have := HJ7.out; omega⟩, by repeat (first | exact Drawn0.refl _ | apply Drawn0.step)⟩
             ·rw [if_neg c17] at H
              exact absurd H (by simp)
            ·rw [if_neg c16] at H
             exact absurd H (by simp)
           ·rw [if_neg c14] at H
            exact absurd H (by simp)
          ·rw [if_neg c13] at H
           exact absurd H (by simp)
         ·rw [if_neg c12] at H
          have c12b0 : decide (0 < x3_1) = false := decide_eq_false c12
          clear c12
          have H' := Aside0.mk H
          clear H
          go_wp2
          repeat (go_quiet (fail); try go_wp2)
          go_roundg kj7
          case measure => have := HK1.out; have := HJ7.out; omega
          case rel => exact ⟨(wrap64 (x3_1 + 1)), (by first | rfl | (simp; done) | (simp [*]; done)), H', ⟨by have := HK1.out; have := HJ7.out; omega⟩, by repeat (first | exact Drawn0.refl _ | apply Drawn0.step)⟩
     ·rw [if_neg c4] at H
      exact absurd H (by simp)
    ·rw [if_neg c3] at H
     have c3b0 : decide (x3_1 < (l0.length : Int)) = false := decide_eq_false c3
     clear c3
     obtain rfl := Option.some.inj H
     go_wp2
     repeat (go_quiet (fail); try go_wp2)
     go_ret
     exact ⟨by first | rfl | (simp; done) | (simp [*]; done), by repeat (first | exact Drawn0.refl _ | apply Drawn0.step)⟩

/-! ### cohousingref20_find: function 28 -/
def cohousingref20_find.l0 : Nat → List (S49) → Int → Int → Int → Int → Option (Int)
 | 0, _, _, _, _, _ => none
 | k + 1, x0, x1, x2, x7, x8 => if x8 < (x0.length : Int) then (if 0 ≤ x8 then (if ((rd_T49 x0 x8).f0) = x1 then (if ((rd_T49 x0 x8).f2) ≤ x2 then (cohousingref20_find.l0 k x0 x1 x2 ((rd_T49 x0 x8).f1) (wrap64 (x8 + 1))) else (cohousingref20_find.l0 k x0 x1 x2 x7 (wrap64 (x8 + 1)))) else (cohousingref20_find.l0 k x0 x1 x2 x7 (wrap64 (x8 + 1)))) else (none)) else (some x7)
def cohousingref20_find.f (k : Nat) (l0 : List (S49)) (a1 : Int) (a2 : Int) : Option (Int) := cohousingref20_find.l0 k l0 a1 a2 0 0
theorem cohousingref20_find.mono_l : ∀ k, (∀ y0 y1 y2 y3 y4, LeO (cohousingref20_find.l0 k y0 y1 y2 y3 y4) (cohousingref20_find.l0 (k + 1) y0 y1 y2 y3 y4))
 | 0 => fun _ _ _ _ _ r h => by simp [cohousingref20_find.l0] at h
 | k + 1 => by
  have ih0 := cohousingref20_find.mono_l k
  ·intro y0 y1 y2 y3 y4
   unfold cohousingref20_find.l0
   repeat' first
   | (with_reducible exact ih0 _ _ _ _ _)
   | (with_reducible exact LeO.refl _)
   | (with_reducible exact LeO.none _)
   | (with_reducible refine LeO.ite ?_ ?_)
   | (with_reducible refine LeO.bind ?_ (fun _ => ?_))
   | exact ih0 _ _ _ _ _
   | exact LeO.none _
   | refine LeO.ite ?_ ?_
   | refine LeO.bind ?_ (fun _ => ?_)
theorem cohousingref20_find.mono : ∀ a0 a1 a2 k, LeO (cohousingref20_find.f k a0 a1 a2) (cohousingref20_find.f (k + 1) a0 a1 a2) := by
 intro a0 a1 a2 k
 have ih0 := cohousingref20_find.mono_l k
 unfold cohousingref20_find.f
 repeat' first
   | (with_reducible exact ih0 _ _ _ _ _)
   | (with_reducible exact LeO.refl _)
   | (with_reducible exact LeO.none _)
   | (with_reducible refine LeO.ite ?_ ?_)
   | (with_reducible refine LeO.bind ?_ (fun _ => ?_))
   | exact ih0 _ _ _ _ _
   | exact LeO.none _
   | refine LeO.ite ?_ ?_
   | refine LeO.bind ?_ (fun _ => ?_)
set_option maxHeartbeats 8000000 in
set_option maxRecDepth 100000 in
theorem cohousingref20_find.calls (k : Nat) (A0 : Option Addr) (c0 : Nat) (l0 : List (S49)) (a1 : Int) (a2 : Int) (r : Int) (w : World) (hr0 : Kd.C k49 w A0 l0.length l0) (hc0 : l0.length ≤ c0) (h : cohousingref20_find.f k l0 a1 a2 = some r) :
  Calls Tryd.prog 28 #[.slice A0 l0.length c0, .int .i64 a1, .int .i64 a2] w fun e w' => e = .returned (.int .i64 r) ∧ Drawn0 w w' := by
 have HR0 := Aside0.mk hr0
 have HC0 := Aside0.mk hc0
 clear hr0 hc0
 have H : (cohousingref20_find.l0 k l0 a1 a2 0 0) = some r := h
 clear h
 have H' := Aside0.mk H
 clear H
 go_enter Tryd.func28, Tryd.ntmps28
 go_wp2
 go_loopg [7, 8] k (fun kq v7 v8 w' => ∃ (x7_1 : Int) (x8_1 : Int), v7 = .int .i64 x7_1 ∧ v8 = .int .i64 x8_1 ∧ Aside0 (cohousingref20_find.l0 kq l0 a1 a2 x7_1 x8_1 = some r) ∧ Aside0 (kq ≤ k) ∧ Drawn0 w w')
 case atStart => exact ⟨(0), (0), (by first | rfl | (simp; done) | (simp [*]; done)), (by first | rfl | (simp; done) | (simp [*]; done)), H', ⟨Nat.le_refl _⟩, by repeat (first | exact Drawn0.refl _ | apply Drawn0.step)⟩
 case round =>
  clear H'
  try clear c2
  try clear p2
  obtain ⟨x7_1, x8_1, rfl, rfl, HA, HK1, ⟨m1, rfl⟩⟩ := hrel
  cases gk with
  | zero => exact absurd HA.out (by simp [cohousingref20_find.l0])
  | succ k1 =>
   have H := HA.out
   clear HA
   simp only [cohousingref20_find.l0] at H
   by_cases c4 : x8_1 < (l0.length : Int)
   ·rw [if_pos c4] at H
    have c4b0 : decide (x8_1 < (l0.length : Int)) = true := decide_eq_true c4
    clear c4
    by_cases c5 : 0 ≤ x8_1
    ·rw [if_pos c5] at H
     have c5b0 : decide (0 ≤ x8_1) = true := decide_eq_true c5
     clear c5
     by_cases c6 : ((rd_T49 l0 x8_1).f0) = a1
     ·rw [if_pos c6] at H
      have c6b0 : (((rd_T49 l0 x8_1).f0) == a1) = true := beq_iff_eq.mpr c6
      have c6b1 : (((rd_T49 l0 x8_1).f0) != a1) = false := bne_eq_false_iff_eq.mpr c6
      clear c6
      by_cases c7 : ((rd_T49 l0 x8_1).f2) ≤ a2
      ·rw [if_pos c7] at H
       have c7b0 : decide (((rd_T49 l0 x8_1).f2) ≤ a2) = true := decide_eq_true c7
       clear c7
       have H' := Aside0.mk H
       clear H
       have p239 : 0 ≤ (x8_1 : Int) := of_decide_eq_true (by first | (with_reducible assumption) | assumption)
       have q239 : x8_1 < (l0.length : Int) := of_decide_eq_true (by first | (with_reducible assumption) | assumption)
       obtain ⟨ad239, e239, hx239_0, hx239_1, hx239_2⟩ := at_T49 HR0.out x8_1 p239 q239
       cases e239
       replace p239 := eq_true p239
       replace q239 := eq_true q239
       have p240 : 0 ≤ (x8_1 : Int) := of_decide_eq_true (by first | (with_reducible assumption) | assumption)
       have q240 : x8_1 < (l0.length : Int) := of_decide_eq_true (by first | (with_reducible assumption) | assumption)
       obtain ⟨ad240, e240, hx240_0, hx240_1, hx240_2⟩ := at_T49 HR0.out x8_1 p240 q240
       obtain rfl : ad239 = ad240 := (by injection e240)
       replace p240 := eq_true p240
       replace q240 := eq_true q240
       have p241 : 0 ≤ (x8_1 : Int) := of_decide_eq_true (by first | (with_reducible assumption) | assumption)
       have q241 : x8_1 < (l0.length : Int) := of_decide_eq_true (by first | (with_reducible assumption) | assumption)
       obtain ⟨ad241, e241, hx241_0, hx241_1, hx241_2⟩ := at_T49 HR0.out x8_1 p241 q241
       obtain rfl : ad239 = ad241 := (by injection e241)
       replace p241 := eq_true p241
       replace q241 := eq_true q241
       go_wp2
       go_roundg k1
       case measure => have := HK1.out; omega
       case rel => exact ⟨((rd_T49 l0 x8_1).f1), (wrap64 (x8_1 + 1)), (by first | rfl | (simp; done) | (simp [*]; done)), (by first | rfl | (simp; done) | (simp [*]; done)), H', ⟨by have := HK1.out; omega⟩, by repeat (first | exact Drawn0.refl _ | apply Drawn0.step)⟩
      ·rw [if_neg c7] at H
       have c7b0 : decide (((rd_T49 l0 x8_1).f2) ≤ a2) = false := decide_eq_false c7
       clear c7
       have H' := Aside0.mk H
       clear H
       have p239 : 0 ≤ (x8_1 : Int) := of_decide_eq_true (by first | (with_reducible assumption) | assumption)
       have q239 : x8_1 < (l0.length : Int) := of_decide_eq_true (by first | (with_reducible assumption) | assumption)
       obtain ⟨ad239, e239, hx239_0, hx239_1, hx239_2⟩ := at_T49 HR0.out x8_1 p239 q239
       cases e239
       replace p239 := eq_true p239
       replace q239 := eq_true q239
       have p240 : 0 ≤ (x8_1 : Int) := of_decide_eq_true (by first | (with_reducible assumption) | assumption)
       have q240 : x8_1 < (l0.length : Int) := of_decide_eq_true (by first | (with_reducible assumption) | assumption)
       obtain ⟨ad240, e240, hx240_0, hx240_1, hx240_2⟩ := at_T49 HR0.out x8_1 p240 q240
       obtain rfl : ad239 = ad240 := (by injection e240)
       replace p240 := eq_true p240
       replace q240 := eq_true q240
       go_wp2
       go_roundg k1
       case measure => have := HK1.out; omega
       case rel => exact ⟨(x7_1), (wrap64 (x8_1 + 1)), (by first | rfl | (simp; done) | (simp [*]; done)), (by first | rfl | (simp; done) | (simp [*]; done)), H', ⟨by have := HK1.out; omega⟩, by repeat (first | exact Drawn0.refl _ | apply Drawn0.step)⟩
     ·rw [if_neg c6] at H
      have c6b0 : (((rd_T49 l0 x8_1).f0) == a1) = false := beq_eq_false_iff_ne.mpr c6
      have c6b1 : (((rd_T49 l0 x8_1).f0) != a1) = true := bne_iff_ne.mpr c6
      have H' := Aside0.mk H
      clear H
      have p239 : 0 ≤ (x8_1 : Int) := of_decide_eq_true (by first | (with_reducible assumption) | assumption)
      have q239 : x8_1 < (l0.length : Int) := of_decide_eq_true (by first | (with_reducible assumption) | assumption)
      obtain ⟨ad239, e239, hx239_0, hx239_1, hx239_2⟩ := at_T49 HR0.out x8_1 p239 q239
      cases e239
      replace p239 := eq_true p239
      replace q239 := eq_true q239
      go_wp2
      go_roundg k1
      case measure => have := HK1.out; omega
      case rel => exact ⟨(x7_1), (wrap64 (x8_1 + 1)), (by first | rfl | (simp; done) | (simp [*]; done)), (by first | rfl | (simp; done) | (simp [*]; done)), H', ⟨by have := HK1.out; omega⟩, by repeat (first | exact Drawn0.refl _ | apply Drawn0.step)⟩
    ·rw [if_neg c5] at H
     exact absurd H (by simp)
   ·rw [if_neg c4] at H
    have c4b0 : decide (x8_1 < (l0.length : Int)) = false := decide_eq_false c4
    clear c4
    obtain rfl := Option.some.inj H
    go_wp2
    go_ret
    exact ⟨by first | rfl | (simp; done) | (simp [*]; done), by repeat (first | exact Drawn0.refl _ | apply Drawn0.step)⟩

end Go.Proofs.YtcnkenknbmmglaaDoor.P
