-- Written by a program of this session out of the translation (wip/pp: the kit's print, turned). Not trusted: Lean checks it.
import Derived.Test.YtjdhnhfglpogmaaPx0
import Derived.Test.YtjdhnhfglpogmaaXC
namespace Go.Proofs.Ytjdhnhfglpogmaa.P
open Go.RowKit Go.Proofs.YtjdhnhfglpogmaaW.PrintWords Go.Proofs.YtjdhnhfglpogmaaW.PrintLast Go.Proofs.YtjdhnhfglpogmaaW.PrintMore
attribute [local go_sem] max2_int min2_int max_two min_two max_three min_three max_four min_four   -- for this text's walks alone
set_option linter.unusedVariables false
set_option linter.unusedSimpArgs false

/-! ### cohousinglaw36_less: function 26 -/
mutual
def cohousinglaw36_less.l0 : Nat → List Bool → List Bool → Int → Option (Bool)
 | 0, _, _, _ => none
 | k + 1, x0, x1, x5 => if x5 < (x0.length : Int) then (cohousinglaw36_less.j1 k x0 x1 x5 (decide (x5 < (x1.length : Int)))) else (cohousinglaw36_less.j1 k x0 x1 x5 false)
def cohousinglaw36_less.j1 : Nat → List Bool → List Bool → Int → Bool → Option (Bool)
 | 0, _, _, _, _ => none
 | k + 1, x0, x1, x5, x15 => if x15 = true then (if 0 ≤ x5 then (if x5 < (x0.length : Int) then (if x5 < (x1.length : Int) then (if ((rdOf false x0 x5) != (rdOf false x1 x5)) = true then (some (rdOf false x1 x5)) else (cohousinglaw36_less.l0 k x0 x1 (wrap64 (x5 + 1)))) else (none)) else (none)) else (none)) else (some false)
end
def cohousinglaw36_less.f (k : Nat) (l0 : List Bool) (l1 : List Bool) : Option (Bool) := cohousinglaw36_less.l0 k l0 l1 0
theorem cohousinglaw36_less.mono_l : ∀ k, (∀ y0 y1 y2, LeO (cohousinglaw36_less.l0 k y0 y1 y2) (cohousinglaw36_less.l0 (k + 1) y0 y1 y2)) ∧ (∀ y0 y1 y2 y3, LeO (cohousinglaw36_less.j1 k y0 y1 y2 y3) (cohousinglaw36_less.j1 (k + 1) y0 y1 y2 y3))
 | 0 => ⟨fun _ _ _ r h => by simp [cohousinglaw36_less.l0] at h, fun _ _ _ _ r h => by simp [cohousinglaw36_less.j1] at h⟩
 | k + 1 => by
  obtain ⟨ih0, ih1⟩ := cohousinglaw36_less.mono_l k
  refine ⟨?_, ?_⟩
  ·intro y0 y1 y2
   unfold cohousinglaw36_less.l0
   repeat' first
   | (with_reducible exact ih0 _ _ _)
   | (with_reducible exact ih1 _ _ _ _)
   | (with_reducible exact LeO.refl _)
   | (with_reducible exact LeO.none _)
   | (with_reducible refine LeO.ite ?_ ?_)
   | (with_reducible refine LeO.bind ?_ (fun _ => ?_))
   | exact ih0 _ _ _
   | exact ih1 _ _ _ _
   | exact LeO.none _
   | refine LeO.ite ?_ ?_
   | refine LeO.bind ?_ (fun _ => ?_)
  ·intro y0 y1 y2 y3
   unfold cohousinglaw36_less.j1
   repeat' first
   | (with_reducible exact ih0 _ _ _)
   | (with_reducible exact ih1 _ _ _ _)
   | (with_reducible exact LeO.refl _)
   | (with_reducible exact LeO.none _)
   | (with_reducible refine LeO.ite ?_ ?_)
   | (with_reducible refine LeO.bind ?_ (fun _ => ?_))
   | exact ih0 _ _ _
   | exact ih1 _ _ _ _
   | exact LeO.none _
   | refine LeO.ite ?_ ?_
   | refine LeO.bind ?_ (fun _ => ?_)
theorem cohousinglaw36_less.mono : ∀ a0 a1 k, LeO (cohousinglaw36_less.f k a0 a1) (cohousinglaw36_less.f (k + 1) a0 a1) := by
 intro a0 a1 k
 obtain ⟨ih0, ih1⟩ := cohousinglaw36_less.mono_l k
 unfold cohousinglaw36_less.f
 repeat' first
   | (with_reducible exact ih0 _ _ _)
   | (with_reducible exact ih1 _ _ _ _)
   | (with_reducible exact LeO.refl _)
   | (with_reducible exact LeO.none _)
   | (with_reducible refine LeO.ite ?_ ?_)
   | (with_reducible refine LeO.bind ?_ (fun _ => ?_))
   | exact ih0 _ _ _
   | exact ih1 _ _ _ _
   | exact LeO.none _
   | refine LeO.ite ?_ ?_
   | refine LeO.bind ?_ (fun _ => ?_)
set_option maxHeartbeats 8000000 in
set_option maxRecDepth 100000 in
theorem cohousinglaw36_less.calls (k : Nat) (A0 : Option Addr) (c0 : Nat) (l0 : List Bool) (A1 : Option Addr) (c1 : Nat) (l1 : List Bool) (r : Bool) (w : World) (hr0 : Kd.C Kd.bool w A0 l0.length l0) (hc0 : l0.length ≤ c0) (hr1 : Kd.C Kd.bool w A1 l1.length l1) (hc1 : l1.length ≤ c1) (h : cohousinglaw36_less.f k l0 l1 = some r) :
  Calls Try.prog 26 #[.slice A0 l0.length c0, .slice A1 l1.length c1] w fun e w' => e = .returned (.bool r) ∧ Drawn0 w w' := by
 have HR0 := Aside0.mk hr0
 have HC0 := Aside0.mk hc0
 clear hr0 hc0
 have HR1 := Aside0.mk hr1
 have HC1 := Aside0.mk hc1
 clear hr1 hc1
 have H : (cohousinglaw36_less.l0 k l0 l1 0) = some r := h
 clear h
 have H' := Aside0.mk H
 clear H
 go_enter Try.func26, Try.ntmps26
 go_wp2
 repeat (go_quiet (fail); try go_wp2)
 go_loopg [5] k (fun kq v5 w' => ∃ (x5_1 : Int), v5 = .int .i64 x5_1 ∧ Aside0 (cohousinglaw36_less.l0 kq l0 l1 x5_1 = some r) ∧ Aside0 (kq ≤ k) ∧ Drawn0 w w')
 case atStart => exact ⟨(0), (by first | rfl | (simp; done) | (simp [*]; done)), H', ⟨Nat.le_refl _⟩, by repeat (first | exact Drawn0.refl _ | apply Drawn0.step)⟩
 case round =>
  clear H'
  try clear c1
  try clear c2
  try clear p2
  obtain ⟨x5_1, rfl, HA, HK1, ⟨m1, rfl⟩⟩ := hrel
  cases gk with
  | zero => exact absurd HA.out (by simp [cohousinglaw36_less.l0])
  | succ k1 =>
   have H := HA.out
   clear HA
   simp only [cohousinglaw36_less.l0] at H
   have HC3 := Aside0.mk H
   clear H
   go_upto_region 2 with (fail)
   repeat (go_quiet (fail); go_upto_region 2 with (fail))
   go_cut [15] (fun v15 wc => ∃ (kq : Nat) (x15_2 : Bool), v15 = .bool x15_2 ∧ Aside0 (cohousinglaw36_less.j1 kq l0 l1 x5_1 x15_2 = some r) ∧ Aside0 (kq ≤ k1) ∧ Drawn0 w wc)
   case first =>
    have H := HC3.out
    clear HC3
    by_cases c4 : x5_1 < (l0.length : Int)
    ·rw [if_pos c4] at H
     have c4b0 : decide (x5_1 < (l0.length : Int)) = true := decide_eq_true c4
     clear c4
     (first | rw [c4b0] | (simp only [i64_w, i32_w]; rw [c4b0]) | skip)
     have H' := Aside0.mk H
     clear H
     go_wp2
     repeat (go_quiet (fail); try go_wp2)
     go_meet
     case rel => exact ⟨_, (decide (x5_1 < (l1.length : Int))), (by first | rfl | (simp; done) | (simp [*]; done)), H', ⟨by have := HK1.out; first | omega | exact Nat.le_refl _⟩, by repeat (first | exact Drawn0.refl _ | apply Drawn0.step)⟩
    ·rw [if_neg c4] at H
     have c4b0 : decide (x5_1 < (l0.length : Int)) = false := decide_eq_false c4
     clear c4
     (first | rw [c4b0] | (simp only [i64_w, i32_w]; rw [c4b0]) | skip)
     have H' := Aside0.mk H
     clear H
     go_wp2
     repeat (go_quiet (fail); try go_wp2)
     go_meet
     case rel => exact ⟨_, (false), (by first | rfl | (simp; done) | (simp [*]; done)), H', ⟨by have := HK1.out; first | omega | exact Nat.le_refl _⟩, by repeat (first | exact Drawn0.refl _ | apply Drawn0.step)⟩
   case rest =>
    clear HC3
    try clear c1
    try clear c2
    try clear p2
    try clear c4
    try clear c4b0
    try clear p2
    obtain ⟨kq, x15_2, rfl, HA, HJ2, ⟨mc2, rfl⟩⟩ := hcut
    cases kq with
    | zero => exact absurd HA.out (by simp [cohousinglaw36_less.j1])
    | succ kj2 =>
     have H := HA.out
     clear HA
     simp only [cohousinglaw36_less.j1] at H
     by_cases c5 : x15_2 = true
     ·subst c5
      have H1 : (if 0 ≤ x5_1 then (if x5_1 < (l0.length : Int) then (if x5_1 < (l1.length : Int) then (if ((rdOf false l0 x5_1) != (rdOf false l1 x5_1)) = true then (some (rdOf false l1 x5_1)) else (cohousinglaw36_less.l0 kj2 l0 l1 (wrap64 (x5_1 + 1)))) else (none)) else (none)) else (none)) = some r := by rw [if_pos rfl] at H; exact H
      clear H
      have H := H1
      clear H1
      by_cases c6 : 0 ≤ x5_1
      ·rw [if_pos c6] at H
       have c6b0 : decide (0 ≤ x5_1) = true := decide_eq_true c6
       clear c6
       by_cases c7 : x5_1 < (l0.length : Int)
       ·rw [if_pos c7] at H
        have c7b0 : decide (x5_1 < (l0.length : Int)) = true := decide_eq_true c7
        clear c7
        by_cases c8 : x5_1 < (l1.length : Int)
        ·rw [if_pos c8] at H
         have c8b0 : decide (x5_1 < (l1.length : Int)) = true := decide_eq_true c8
         clear c8
         by_cases c9 : ((rdOf false l0 x5_1) != (rdOf false l1 x5_1)) = true
         ·rw [if_pos c9] at H
          have c9b0 : ((rdOf false l0 x5_1) != (rdOf false l1 x5_1)) = true := c9
          (try (have c9b1 : decide ((rdOf false l0 x5_1) = (rdOf false l1 x5_1)) = false := by simpa using c9))
          (try (have c9b2 : ((rdOf false l0 x5_1) == (rdOf false l1 x5_1)) = false := by simpa using c9))
          (try (have c9b3 : ¬ ((rdOf false l0 x5_1) = (rdOf false l1 x5_1)) := by simpa using c9))
          clear c9
          obtain rfl := Option.some.inj H
          have p286 : 0 ≤ (x5_1 : Int) := of_decide_eq_true (by first | (with_reducible assumption) | assumption)
          have q286 : x5_1 < (l0.length : Int) := of_decide_eq_true (by first | (with_reducible assumption) | assumption)
          obtain ⟨ad286, e286, hx286_0⟩ := Kd.at_bool HR0.out x5_1 p286 q286
          cases e286
          replace p286 := eq_true p286
          replace q286 := eq_true q286
          have p287 : 0 ≤ (x5_1 : Int) := of_decide_eq_true (by first | (with_reducible assumption) | assumption)
          have q287 : x5_1 < (l1.length : Int) := of_decide_eq_true (by first | (with_reducible assumption) | assumption)
          obtain ⟨ad287, e287, hx287_0⟩ := Kd.at_bool HR1.out x5_1 p287 q287
          cases e287
          replace p287 := eq_true p287
          replace q287 := eq_true q287
          have p288 : 0 ≤ (x5_1 : Int) := of_decide_eq_true (by first | (with_reducible assumption) | assumption)
          have q288 : x5_1 < (l1.length : Int) := of_decide_eq_true (by first | (with_reducible assumption) | assumption)
          obtain ⟨ad288, e288, hx288_0⟩ := Kd.at_bool HR1.out x5_1 p288 q288
          obtain rfl : ad287 = ad288 := (by injection e288)
          replace p288 := eq_true p288
          replace q288 := eq_true q288
          go_wp2
          repeat (go_quiet (fail); try go_wp2)
          go_ret
          exact ⟨by first | rfl | (simp; done) | (simp [*]; done), by repeat (first | exact Drawn0.refl _ | apply Drawn0.step)⟩
         ·rw [if_neg c9] at H
          have c9b0 : ((rdOf false l0 x5_1) != (rdOf false l1 x5_1)) = false := by simpa using c9
          (try (have c9b1 : decide ((rdOf false l0 x5_1) = (rdOf false l1 x5_1)) = true := by simpa using c9))
          (try (have c9b2 : ((rdOf false l0 x5_1) == (rdOf false l1 x5_1)) = true := by simpa using c9))
          clear c9
          have H' := Aside0.mk H
          clear H
          have p286 : 0 ≤ (x5_1 : Int) := of_decide_eq_true (by first | (with_reducible assumption) | assumption)
          have q286 : x5_1 < (l0.length : Int) := of_decide_eq_true (by first | (with_reducible assumption) | assumption)
          obtain ⟨ad286, e286, hx286_0⟩ := Kd.at_bool HR0.out x5_1 p286 q286
          cases e286
          replace p286 := eq_true p286
          replace q286 := eq_true q286
          have p287 : 0 ≤ (x5_1 : Int) := of_decide_eq_true (by first | (with_reducible assumption) | assumption)
          have q287 : x5_1 < (l1.length : Int) := of_decide_eq_true (by first | (with_reducible assumption) | assumption)
          obtain ⟨ad287, e287, hx287_0⟩ := Kd.at_bool HR1.out x5_1 p287 q287
          cases e287
          replace p287 := eq_true p287
          replace q287 := eq_true q287
          go_wp2
          repeat (go_quiet (fail); try go_wp2)
          go_roundg kj2
          case measure => have := HK1.out; have := HJ2.out; omega
          case rel => exact ⟨(wrap64 (x5_1 + 1)), (by first | rfl | (simp; done) | (simp [*]; done)), H', ⟨by have := HK1.out; have := HJ2.out; omega⟩, by repeat (first | exact Drawn0.refl _ | apply Drawn0.step)⟩
        ·rw [if_neg c8] at H
         exact absurd H (by simp)
       ·rw [if_neg c7] at H
        exact absurd H (by simp)
      ·rw [if_neg c6] at H
       exact absurd H (by simp)
     ·replace c5 := Bool.eq_false_iff.mpr c5
      subst c5
      have H1 : (some false) = some r := by rw [if_neg (show ¬ (false = true) by decide)] at H; exact H
      clear H
      have H := H1
      clear H1
      obtain rfl := Option.some.inj H
      go_wp2
      repeat (go_quiet (fail); try go_wp2)
      go_ret
      exact ⟨by first | rfl | (simp; done) | (simp [*]; done), by repeat (first | exact Drawn0.refl _ | apply Drawn0.step)⟩

/-! ### cohousinglaw36_holds: function 27 -/
mutual
def cohousinglaw36_holds.j0 : Nat → List (S48) → Int → List Bool → Bool → Option (Bool)
 | 0, _, _, _, _ => none
 | k + 1, x2, x3, x9, x27 => if x27 = true then (some false) else (cohousinglaw36_holds.l0 k x3 x9 x2 (x2.length : Int) 0)
def cohousinglaw36_holds.l0 : Nat → Int → List Bool → List (S48) → Int → Int → Option (Bool)
 | 0, _, _, _, _, _ => none
 | k + 1, x3, x9, x28, x29, x30 => if x30 < x29 then (if 0 ≤ x30 then (if x30 < (x28.length : Int) then (if ((rd_T48 x28 x30).f2) ≤ x3 then (if 0 ≤ ((rd_T48 x28 x30).f0) then (if ((rd_T48 x28 x30).f0) < (x9.length : Int) then (if ((rdOf false x9 ((rd_T48 x28 x30).f0)) != ((rd_T48 x28 x30).f1)) = true then (some false) else (cohousinglaw36_holds.l0 k x3 x9 x28 x29 (wrap64 (x30 + 1)))) else (none)) else (none)) else (cohousinglaw36_holds.l0 k x3 x9 x28 x29 (wrap64 (x30 + 1)))) else (none)) else (none)) else (some true)
end
def cohousinglaw36_holds.f (k : Nat) (l0 : List (S44)) (l1 : List Bool) (l2 : List (S48)) (a3 : Int) : Option (Bool) := (cause_Run.f l0 l1).bind fun bt289 => (if bt289.2 = 0 then (cohousinglaw36_holds.j0 k l2 a3 bt289.1 ((bt289.1.length : Int) != (l0.length : Int))) else (cohousinglaw36_holds.j0 k l2 a3 bt289.1 true))
theorem cohousinglaw36_holds.mono_l : ∀ k, (∀ y0 y1 y2 y3, LeO (cohousinglaw36_holds.j0 k y0 y1 y2 y3) (cohousinglaw36_holds.j0 (k + 1) y0 y1 y2 y3)) ∧ (∀ y0 y1 y2 y3 y4, LeO (cohousinglaw36_holds.l0 k y0 y1 y2 y3 y4) (cohousinglaw36_holds.l0 (k + 1) y0 y1 y2 y3 y4))
 | 0 => ⟨fun _ _ _ _ r h => by simp [cohousinglaw36_holds.j0] at h, fun _ _ _ _ _ r h => by simp [cohousinglaw36_holds.l0] at h⟩
 | k + 1 => by
  obtain ⟨ih0, ih1⟩ := cohousinglaw36_holds.mono_l k
  refine ⟨?_, ?_⟩
  ·intro y0 y1 y2 y3
   unfold cohousinglaw36_holds.j0
   repeat' first
   | (with_reducible exact ih0 _ _ _ _)
   | (with_reducible exact ih1 _ _ _ _ _)
   | (with_reducible exact LeO.refl _)
   | (with_reducible exact LeO.none _)
   | (with_reducible refine LeO.ite ?_ ?_)
   | (with_reducible refine LeO.bind ?_ (fun _ => ?_))
   | exact ih0 _ _ _ _
   | exact ih1 _ _ _ _ _
   | exact LeO.none _
   | refine LeO.ite ?_ ?_
   | refine LeO.bind ?_ (fun _ => ?_)
  ·intro y0 y1 y2 y3 y4
   unfold cohousinglaw36_holds.l0
   repeat' first
   | (with_reducible exact ih0 _ _ _ _)
   | (with_reducible exact ih1 _ _ _ _ _)
   | (with_reducible exact LeO.refl _)
   | (with_reducible exact LeO.none _)
   | (with_reducible refine LeO.ite ?_ ?_)
   | (with_reducible refine LeO.bind ?_ (fun _ => ?_))
   | exact ih0 _ _ _ _
   | exact ih1 _ _ _ _ _
   | exact LeO.none _
   | refine LeO.ite ?_ ?_
   | refine LeO.bind ?_ (fun _ => ?_)
theorem cohousinglaw36_holds.mono : ∀ a0 a1 a2 a3 k, LeO (cohousinglaw36_holds.f k a0 a1 a2 a3) (cohousinglaw36_holds.f (k + 1) a0 a1 a2 a3) := by
 intro a0 a1 a2 a3 k
 obtain ⟨ih0, ih1⟩ := cohousinglaw36_holds.mono_l k
 unfold cohousinglaw36_holds.f
 repeat' first
   | (with_reducible exact ih0 _ _ _ _)
   | (with_reducible exact ih1 _ _ _ _ _)
   | (with_reducible exact LeO.refl _)
   | (with_reducible exact LeO.none _)
   | (with_reducible refine LeO.ite ?_ ?_)
   | (with_reducible refine LeO.bind ?_ (fun _ => ?_))
   | exact ih0 _ _ _ _
   | exact ih1 _ _ _ _ _
   | exact LeO.none _
   | refine LeO.ite ?_ ?_
   | refine LeO.bind ?_ (fun _ => ?_)
set_option maxHeartbeats 8000000 in
set_option maxRecDepth 100000 in
theorem cohousinglaw36_holds.calls (k : Nat) (A0 : Option Addr) (c0 : Nat) (l0 : List (S44)) (A1 : Option Addr) (c1 : Nat) (l1 : List Bool) (A2 : Option Addr) (c2 : Nat) (l2 : List (S48)) (a3 : Int) (r : Bool) (w : World) (hr0 : Kd.C k44 w A0 l0.length l0) (hc0 : l0.length ≤ c0) (hr1 : Kd.C Kd.bool w A1 l1.length l1) (hc1 : l1.length ≤ c1) (hr2 : Kd.C k48 w A2 l2.length l2) (hc2 : l2.length ≤ c2) (h : cohousinglaw36_holds.f k l0 l1 l2 a3 = some r) :
  Calls Try.prog 27 #[.slice A0 l0.length c0, .slice A1 l1.length c1, .slice A2 l2.length c2, .int .i64 a3] w fun e w' => e = .returned (.bool r) ∧ Below w.heap.size w w' := by
 have hu48 := Try.underlying48
 have HR0 := Aside0.mk hr0
 have HC0 := Aside0.mk hc0
 clear hr0 hc0
 have HR1 := Aside0.mk hr1
 have HC1 := Aside0.mk hc1
 clear hr1 hc1
 have HR2 := Aside0.mk hr2
 have HC2 := Aside0.mk hc2
 clear hr2 hc2
 have HB := Aside0.mk (Below.refl w.heap.size w)
 have H : ((cause_Run.f l0 l1).bind fun bt289 => (if bt289.2 = 0 then (cohousinglaw36_holds.j0 k l2 a3 bt289.1 ((bt289.1.length : Int) != (l0.length : Int))) else (cohousinglaw36_holds.j0 k l2 a3 bt289.1 true))) = some r := h
 clear h
 replace H := Option.bind_eq_some_iff.mp H
 obtain ⟨⟨t289, t290⟩, A50, H⟩ := H
 replace H : (if t290 = 0 then (cohousinglaw36_holds.j0 k l2 a3 t289 ((t289.length : Int) != (l0.length : Int))) else (cohousinglaw36_holds.j0 k l2 a3 t289 true)) = some r := H
 have A5 := Aside0.mk A50
 clear A50
 have HC6 := Aside0.mk H
 clear H
 go_enter Try.func27, Try.ntmps27
 go_upto_region 2 with (first | (go_at_call 13; (with_reducible refine (cause_Run.calls _ _ l0 _ _ l1 t289 t290 _ ?side1 ?side2 ?side3 ?side4 A5.out).mono ?_); (case side1 => repeat (first | exact HR0.out | (with_reducible refine Kd.C_alloc ?_ _) | (with_reducible refine Kd.C_drewN ?_ _) | (with_reducible refine Kd.C_drew ?_))); (case side2 => exact HC0.out); (case side3 => repeat (first | exact HR1.out | (with_reducible refine Kd.C_alloc ?_ _) | (with_reducible refine Kd.C_drewN ?_ _) | (with_reducible refine Kd.C_drew ?_))); (case side4 => exact HC1.out); rintro e w7 ⟨v291, rfl, ho0, hb⟩; have n0_ := Aside0.mk (Kd.R_lower ho0 (below_size (by repeat (first | (with_reducible first | exact HB.out | apply below_alloc | apply pw_below_drewN | apply below_drew1) | exact HB.out)))); have n1_ := Aside0.mk (below_step (by repeat (first | (with_reducible first | exact HB.out | apply below_alloc | apply pw_below_drewN | apply below_drew1) | exact HB.out)) hb); clear HB; have HO292 := n0_; have HB := n1_; clear n0_ n1_; (try clear hb); (try clear hb2); (try clear hk); (try clear hi); (try clear ho0)))
 repeat (go_quiet (first | (go_at_call 13; (with_reducible refine (cause_Run.calls _ _ l0 _ _ l1 t289 t290 _ ?side1 ?side2 ?side3 ?side4 A5.out).mono ?_); (case side1 => repeat (first | exact HR0.out | (with_reducible refine Kd.C_alloc ?_ _) | (with_reducible refine Kd.C_drewN ?_ _) | (with_reducible refine Kd.C_drew ?_))); (case side2 => exact HC0.out); (case side3 => repeat (first | exact HR1.out | (with_reducible refine Kd.C_alloc ?_ _) | (with_reducible refine Kd.C_drewN ?_ _) | (with_reducible refine Kd.C_drew ?_))); (case side4 => exact HC1.out); rintro e w7 ⟨v291, rfl, ho0, hb⟩; have n0_ := Aside0.mk (Kd.R_lower ho0 (below_size (by repeat (first | (with_reducible first | exact HB.out | apply below_alloc | apply pw_below_drewN | apply below_drew1) | exact HB.out)))); have n1_ := Aside0.mk (below_step (by repeat (first | (with_reducible first | exact HB.out | apply below_alloc | apply pw_below_drewN | apply below_drew1) | exact HB.out)) hb); clear HB; have HO292 := n0_; have HB := n1_; clear n0_ n1_; (try clear hb); (try clear hb2); (try clear hk); (try clear hi); (try clear ho0))); go_upto_region 2 with (first | (go_at_call 13; (with_reducible refine (cause_Run.calls _ _ l0 _ _ l1 t289 t290 _ ?side1 ?side2 ?side3 ?side4 A5.out).mono ?_); (case side1 => repeat (first | exact HR0.out | (with_reducible refine Kd.C_alloc ?_ _) | (with_reducible refine Kd.C_drewN ?_ _) | (with_reducible refine Kd.C_drew ?_))); (case side2 => exact HC0.out); (case side3 => repeat (first | exact HR1.out | (with_reducible refine Kd.C_alloc ?_ _) | (with_reducible refine Kd.C_drewN ?_ _) | (with_reducible refine Kd.C_drew ?_))); (case side4 => exact HC1.out); rintro e w7 ⟨v291, rfl, ho0, hb⟩; have n0_ := Aside0.mk (Kd.R_lower ho0 (below_size (by repeat (first | (with_reducible first | exact HB.out | apply below_alloc | apply pw_below_drewN | apply below_drew1) | exact HB.out)))); have n1_ := Aside0.mk (below_step (by repeat (first | (with_reducible first | exact HB.out | apply below_alloc | apply pw_below_drewN | apply below_drew1) | exact HB.out)) hb); clear HB; have HO292 := n0_; have HB := n1_; clear n0_ n1_; (try clear hb); (try clear hb2); (try clear hk); (try clear hi); (try clear ho0))))
 (try simp only [Act.put, List.setIfInBounds_toArray, List.set_cons_zero, List.set_cons_succ])
 go_cut [27] (fun v27 wc => ∃ (kq : Nat) (x27_5 : Bool), v27 = .bool x27_5 ∧ Aside0 (cohousinglaw36_holds.j0 kq l2 a3 t289 x27_5 = some r) ∧ Aside0 (kq ≤ k) ∧ Aside0 (Kd.R Kd.bool 4 wc w.heap.size (fun _ => True) v291 t289) ∧ Aside0 (Below w.heap.size w wc))
 case first =>
  have H := HC6.out
  clear HC6
  by_cases c8 : t290 = 0
  ·rw [if_pos c8] at H
   have c8b0 : (t290 == 0) = true := beq_iff_eq.mpr c8
   have c8b1 : (t290 != 0) = false := bne_eq_false_iff_eq.mpr c8
   clear c8
   (first | rw [c8b0] | (simp only [i64_w, i32_w]; rw [c8b0]) | skip)
   have H' := Aside0.mk H
   clear H
   obtain ⟨Ao9, co9, eo9⟩ := Kd.R_slice HO292.out
   subst eo9
   go_wp2
   repeat (go_quiet (fail); try go_wp2)
   go_meet
   case rel => exact ⟨_, (((t289.length : Int) != (l0.length : Int))), (by first | rfl | (simp; done) | (simp [*]; done)), H', ⟨by first | omega | exact Nat.le_refl _⟩, ⟨by (with_reducible repeat (first | apply Kd.R_alloc | apply Kd.R_drewN | apply Kd.R_drew)); exact HO292.out⟩, ⟨by repeat (first | (with_reducible first | exact HB.out | apply below_alloc | apply pw_below_drewN | apply below_drew1) | exact HB.out)⟩⟩
  ·rw [if_neg c8] at H
   have c8b0 : (t290 == 0) = false := beq_eq_false_iff_ne.mpr c8
   have c8b1 : (t290 != 0) = true := bne_iff_ne.mpr c8
   (first | rw [c8b0] | (simp only [i64_w, i32_w]; rw [c8b0]) | skip)
   have H' := Aside0.mk H
   clear H
   go_wp2
   repeat (go_quiet (fail); try go_wp2)
   go_meet
   case rel => exact ⟨_, (true), (by first | rfl | (simp; done) | (simp [*]; done)), H', ⟨by first | omega | exact Nat.le_refl _⟩, ⟨by (with_reducible repeat (first | apply Kd.R_alloc | apply Kd.R_drewN | apply Kd.R_drew)); exact HO292.out⟩, ⟨by repeat (first | (with_reducible first | exact HB.out | apply below_alloc | apply pw_below_drewN | apply below_drew1) | exact HB.out)⟩⟩
 case rest =>
  clear HC6
  try clear c1
  try clear c2
  try clear p2
  try clear c8
  try clear c8b0
  try clear c8b1
  obtain ⟨kq, x27_5, rfl, HA, HJ5, HO_9, HB⟩ := hcut
  cases kq with
  | zero => exact absurd HA.out (by simp [cohousinglaw36_holds.j0])
  | succ kj5 =>
   have H := HA.out
   clear HA
   simp only [cohousinglaw36_holds.j0] at H
   by_cases c10 : x27_5 = true
   ·subst c10
    have H1 : (some false) = some r := by rw [if_pos rfl] at H; exact H
    clear H
    have H := H1
    clear H1
    obtain rfl := Option.some.inj H
    go_wp2
    repeat (go_quiet (fail); try go_wp2)
    go_ret
    exact ⟨by first | rfl | (simp [errW_none, errW_some] <;> rfl) | (simp [*, errW_none, errW_some] <;> rfl), by repeat (first | (with_reducible first | exact HB.out | apply below_alloc | apply pw_below_drewN | apply below_drew1) | exact HB.out)⟩
   ·replace c10 := Bool.eq_false_iff.mpr c10
    subst c10
    have H1 : (cohousinglaw36_holds.l0 kj5 a3 t289 l2 (l2.length : Int) 0) = some r := by rw [if_neg (show ¬ (false = true) by decide)] at H; exact H
    clear H
    have H := H1
    clear H1
    have H' := Aside0.mk H
    clear H
    go_wp2
    repeat (go_quiet (fail); try go_wp2)
    go_loopg [30] kj5 (fun kq v30 w' => ∃ (x30_2 : Int), v30 = .int .i64 x30_2 ∧ Aside0 (cohousinglaw36_holds.l0 kq a3 t289 l2 (l2.length : Int) x30_2 = some r) ∧ Aside0 (kq ≤ kj5) ∧ Aside0 (Kd.R Kd.bool 4 w' w.heap.size (fun _ => True) v291 t289) ∧ Aside0 (Below w.heap.size w w'))
    case atStart => exact ⟨(0), (by first | rfl | (simp; done) | (simp [*]; done)), H', ⟨Nat.le_refl _⟩, ⟨by (with_reducible repeat (first | apply Kd.R_alloc | apply Kd.R_drewN | apply Kd.R_drew)); exact HO_9.out⟩, ⟨by repeat (first | (with_reducible first | exact HB.out | apply below_alloc | apply pw_below_drewN | apply below_drew1) | exact HB.out)⟩⟩
    case round =>
     clear H'
     try clear c1
     try clear c2
     try clear p2
     try clear c8
     try clear c8b0
     try clear c8b1
     try clear c10
     try clear p2
     obtain ⟨x30_2, rfl, HA, HK2, HO_9, HB⟩ := hrel
     cases gk with
     | zero => exact absurd HA.out (by simp [cohousinglaw36_holds.l0])
     | succ k2 =>
      have H := HA.out
      clear HA
      simp only [cohousinglaw36_holds.l0] at H
      by_cases c11 : x30_2 < (l2.length : Int)
      ·rw [if_pos c11] at H
       have c11b0 : decide (x30_2 < (l2.length : Int)) = true := decide_eq_true c11
       clear c11
       by_cases c12 : 0 ≤ x30_2
       ·rw [if_pos c12] at H
        have c12b0 : decide (0 ≤ x30_2) = true := decide_eq_true c12
        clear c12
        by_cases c13 : x30_2 < (l2.length : Int)
        ·rw [if_pos c13] at H
         have c13b0 : decide (x30_2 < (l2.length : Int)) = true := decide_eq_true c13
         clear c13
         by_cases c14 : ((rd_T48 l2 x30_2).f2) ≤ a3
         ·rw [if_pos c14] at H
          have c14b0 : decide (((rd_T48 l2 x30_2).f2) ≤ a3) = true := decide_eq_true c14
          clear c14
          by_cases c15 : 0 ≤ ((rd_T48 l2 x30_2).f0)
          ·rw [if_pos c15] at H
           have c15b0 : decide (0 ≤ ((rd_T48 l2 x30_2).f0)) = true := decide_eq_true c15
           clear c15
           by_cases c16 : ((rd_T48 l2 x30_2).f0) < (t289.length : Int)
           ·rw [if_pos c16] at H
            have c16b0 : decide (((rd_T48 l2 x30_2).f0) < (t289.length : Int)) = true := decide_eq_true c16
            clear c16
            by_cases c17 : ((rdOf false t289 ((rd_T48 l2 x30_2).f0)) != ((rd_T48 l2 x30_2).f1)) = true
            ·rw [if_pos c17] at H
             have c17b0 : ((rdOf false t289 ((rd_T48 l2 x30_2).f0)) != ((rd_T48 l2 x30_2).f1)) = true := c17
             (try (have c17b1 : decide ((rdOf false t289 ((rd_T48 l2 x30_2).f0)) = ((rd_T48 l2 x30_2).f1)) = false := by simpa using c17))
             (try (have c17b2 : ((rdOf false t289 ((rd_T48 l2 x30_2).f0)) == ((rd_T48 l2 x30_2).f1)) = false := by simpa using c17))
             (try (have c17b3 : ¬ ((rdOf false t289 ((rd_T48 l2 x30_2).f0)) = ((rd_T48 l2 x30_2).f1)) := by simpa using c17))
             clear c17
             obtain rfl := Option.some.inj H
             have p293 : 0 ≤ (x30_2 : Int) := of_decide_eq_true (by first | (with_reducible assumption) | assumption)
             have q293 : x30_2 < (l2.length : Int) := of_decide_eq_true (by first | (with_reducible assumption) | assumption)
             obtain ⟨ad293, e293, hx293_0, hx293_1, hx293_2⟩ := at_T48 HR2.out x30_2 p293 q293
             cases e293
             replace hx293_0 := (HB.out.cell (World.block_lt_of_cell? w _ hx293_0)).trans hx293_0
             replace hx293_1 := (HB.out.cell (World.block_lt_of_cell? w _ hx293_1)).trans hx293_1
             replace hx293_2 := (HB.out.cell (World.block_lt_of_cell? w _ hx293_2)).trans hx293_2
             replace p293 := eq_true p293
             replace q293 := eq_true q293
             go_wp2_with (first | ((with_reducible refine gate_dst (N := 12) rfl ?_); (try (refine gate_guard (by rfl) ?_; dsimp only)); refine box_event ?hg (N := 12) ?hd (cs := #[.int .i64 0, .bool false, .int .i64 0]) (t := 48) ?hr ?_; (case hd => rfl); (case hg => rfl); (case hr => first | (go_simp; done) | (go_simp; rfl)); intro gb294 hg w18 hbox hb; have n0_ := Aside0.mk (Kd.R_below (by (with_reducible repeat (first | apply Kd.R_alloc | apply Kd.R_drewN | apply Kd.R_drew)); exact HO_9.out) hb); have n1_ := Aside0.mk (below_step (by repeat (first | (with_reducible first | exact HB.out | apply below_alloc | apply pw_below_drewN | apply below_drew1) | exact HB.out)) hb); have n2_ := Aside0.mk (hbox); have n3_ := Aside0.mk ((by rw [hg]; exact (below_size (by repeat (first | (with_reducible first | exact HB.out | apply below_alloc | apply pw_below_drewN | apply below_drew1) | exact HB.out))) : w.heap.size ≤ gb294)); have n4_ := Aside0.mk ((by rw [hg]; exact (below_size (by repeat (first | (with_reducible first | exact HB.out | apply below_alloc | apply pw_below_drewN | apply below_drew1) | exact HB.out))) : w.heap.size ≤ gb294)); clear HO_9; clear HB; have HO_9 := n0_; have HB := n1_; have BK294 := n2_; have GW294 := n3_; have GE294 := n4_; clear n0_ n1_ n2_ n3_ n4_; clear hb hbox hg; have hcz19_0 : w18.cell? ⟨gb294, 0, none⟩ = some (.int .i64 0) := (blk_cell BK294.out 0).trans rfl; have hcz19_1 : w18.cell? ⟨gb294, 1, none⟩ = some (.bool false) := (blk_cell BK294.out 1).trans rfl; have hcz19_2 : w18.cell? ⟨gb294, 2, none⟩ = some (.int .i64 0) := (blk_cell BK294.out 2).trans rfl; have hfz19_0 := blk_frozen BK294.out 0; have hfz19_1 := blk_frozen BK294.out 1; have hfz19_2 := blk_frozen BK294.out 2; obtain ⟨Ao20, co20, eo20⟩ := Kd.R_slice HO_9.out; subst eo20; have p295 : 0 ≤ (((rd_T48 l2 x30_2).f0) : Int) := of_decide_eq_true (by first | (with_reducible assumption) | assumption); have q295 : ((rd_T48 l2 x30_2).f0) < (t289.length : Int) := of_decide_eq_true (by first | (with_reducible assumption) | assumption); obtain ⟨ad295, e295, hx295_0⟩ := Kd.at_bool (Kd.R_reads' HO_9.out).2.2 ((rd_T48 l2 x30_2).f0) p295 q295; cases e295; have hn295_0 : ad295.block ≠ gb294 := Kd.own_blk (Kd.R_ne HO_9.out BK294.out (by decide)); have hn295_1 : ad295.block ≠ gb294 := Kd.own_blk (Kd.R_ne HO_9.out BK294.out (by decide)); have hn295_2 : ad295.block ≠ gb294 := Kd.own_blk (Kd.R_ne HO_9.out BK294.out (by decide)); replace hx295_0 := (cell_far (p := ⟨gb294, 0, none⟩) (by first | (rw [add_block]; exact hn295_0) | (show (Addr.add _ _).block ≠ _; rw [add_block]; exact hn295_0) | exact hn295_0) (.int .i64 ((rd_T48 l2 x30_2).f0))).trans hx295_0; replace hx295_0 := (cell_far (p := ⟨gb294, 1, none⟩) (by first | (rw [add_block]; exact hn295_1) | (show (Addr.add _ _).block ≠ _; rw [add_block]; exact hn295_1) | exact hn295_1) (.bool ((rd_T48 l2 x30_2).f1))).trans hx295_0; replace hx295_0 := (cell_far (p := ⟨gb294, 2, none⟩) (by first | (rw [add_block]; exact hn295_2) | (show (Addr.add _ _).block ≠ _; rw [add_block]; exact hn295_2) | exact hn295_2) (.int .i64 ((rd_T48 l2 x30_2).f2))).trans hx295_0; (try have hy295_0 := fun (n_ : Nat) => (show (((((w18.drewN n_).setCell ⟨gb294, 0, none⟩ (.int .i64 ((rd_T48 l2 x30_2).f0))).setCell ⟨gb294, 1, none⟩ (.bool ((rd_T48 l2 x30_2).f1))).setCell ⟨gb294, 2, none⟩ (.int .i64 ((rd_T48 l2 x30_2).f2)))).cell? _ = some _ from hx295_0)); clear hn295_0; clear hn295_1; clear hn295_2; replace p295 := eq_true p295; replace q295 := eq_true q295))
             repeat (go_quiet (first | ((with_reducible refine gate_dst (N := 12) rfl ?_); (try (refine gate_guard (by rfl) ?_; dsimp only)); refine box_event ?hg (N := 12) ?hd (cs := #[.int .i64 0, .bool false, .int .i64 0]) (t := 48) ?hr ?_; (case hd => rfl); (case hg => rfl); (case hr => first | (go_simp; done) | (go_simp; rfl)); intro gb294 hg w18 hbox hb; have n0_ := Aside0.mk (Kd.R_below (by (with_reducible repeat (first | apply Kd.R_alloc | apply Kd.R_drewN | apply Kd.R_drew)); exact HO_9.out) hb); have n1_ := Aside0.mk (below_step (by repeat (first | (with_reducible first | exact HB.out | apply below_alloc | apply pw_below_drewN | apply below_drew1) | exact HB.out)) hb); have n2_ := Aside0.mk (hbox); have n3_ := Aside0.mk ((by rw [hg]; exact (below_size (by repeat (first | (with_reducible first | exact HB.out | apply below_alloc | apply pw_below_drewN | apply below_drew1) | exact HB.out))) : w.heap.size ≤ gb294)); have n4_ := Aside0.mk ((by rw [hg]; exact (below_size (by repeat (first | (with_reducible first | exact HB.out | apply below_alloc | apply pw_below_drewN | apply below_drew1) | exact HB.out))) : w.heap.size ≤ gb294)); clear HO_9; clear HB; have HO_9 := n0_; have HB := n1_; have BK294 := n2_; have GW294 := n3_; have GE294 := n4_; clear n0_ n1_ n2_ n3_ n4_; clear hb hbox hg; have hcz19_0 : w18.cell? ⟨gb294, 0, none⟩ = some (.int .i64 0) := (blk_cell BK294.out 0).trans rfl; have hcz19_1 : w18.cell? ⟨gb294, 1, none⟩ = some (.bool false) := (blk_cell BK294.out 1).trans rfl; have hcz19_2 : w18.cell? ⟨gb294, 2, none⟩ = some (.int .i64 0) := (blk_cell BK294.out 2).trans rfl; have hfz19_0 := blk_frozen BK294.out 0; have hfz19_1 := blk_frozen BK294.out 1; have hfz19_2 := blk_frozen BK294.out 2; obtain ⟨Ao20, co20, eo20⟩ := Kd.R_slice HO_9.out; subst eo20; have p295 : 0 ≤ (((rd_T48 l2 x30_2).f0) : Int) := of_decide_eq_true (by first | (with_reducible assumption) | assumption); have q295 : ((rd_T48 l2 x30_2).f0) < (t289.length : Int) := of_decide_eq_true (by first | (with_reducible assumption) | assumption); obtain ⟨ad295, e295, hx295_0⟩ := Kd.at_bool (Kd.R_reads' HO_9.out).2.2 ((rd_T48 l2 x30_2).f0) p295 q295; cases e295; have hn295_0 : ad295.block ≠ gb294 := Kd.own_blk (Kd.R_ne HO_9.out BK294.out (by decide)); have hn295_1 : ad295.block ≠ gb294 := Kd.own_blk (Kd.R_ne HO_9.out BK294.out (by decide)); have hn295_2 : ad295.block ≠ gb294 := Kd.own_blk (Kd.R_ne HO_9.out BK294.out (by decide)); replace hx295_0 := (cell_far (p := ⟨gb294, 0, none⟩) (by first | (rw [add_block]; exact hn295_0) | (show (Addr.add _ _).block ≠ _; rw [add_block]; exact hn295_0) | exact hn295_0) (.int .i64 ((rd_T48 l2 x30_2).f0))).trans hx295_0; replace hx295_0 := (cell_far (p := ⟨gb294, 1, none⟩) (by first | (rw [add_block]; exact hn295_1) | (show (Addr.add _ _).block ≠ _; rw [add_block]; exact hn295_1) | exact hn295_1) (.bool ((rd_T48 l2 x30_2).f1))).trans hx295_0; replace hx295_0 := (cell_far (p := ⟨gb294, 2, none⟩) (by first | (rw [add_block]; exact hn295_2) | (show (Addr.add _ _).block ≠ _; rw [add_block]; exact hn295_2) | exact hn295_2) (.int .i64 ((rd_T48 l2 x30_2).f2))).trans hx295_0; (try have hy295_0 := fun (n_ : Nat) => (show (((((w18.drewN n_).setCell ⟨gb294, 0, none⟩ (.int .i64 ((rd_T48 l2 x30_2).f0))).setCell ⟨gb294, 1, none⟩ (.bool ((rd_T48 l2 x30_2).f1))).setCell ⟨gb294, 2, none⟩ (.int .i64 ((rd_T48 l2 x30_2).f2)))).cell? _ = some _ from hx295_0)); clear hn295_0; clear hn295_1; clear hn295_2; replace p295 := eq_true p295; replace q295 := eq_true q295)); try go_wp2_with (first | ((with_reducible refine gate_dst (N := 12) rfl ?_); (try (refine gate_guard (by rfl) ?_; dsimp only)); refine box_event ?hg (N := 12) ?hd (cs := #[.int .i64 0, .bool false, .int .i64 0]) (t := 48) ?hr ?_; (case hd => rfl); (case hg => rfl); (case hr => first | (go_simp; done) | (go_simp; rfl)); intro gb294 hg w18 hbox hb; have n0_ := Aside0.mk (Kd.R_below (by (with_reducible repeat (first | apply Kd.R_alloc | apply Kd.R_drewN | apply Kd.R_drew)); exact HO_9.out) hb); have n1_ := Aside0.mk (below_step (by repeat (first | (with_reducible first | exact HB.out | apply below_alloc | apply pw_below_drewN | apply below_drew1) | exact HB.out)) hb); have n2_ := Aside0.mk (hbox); have n3_ := Aside0.mk ((by rw [hg]; exact (below_size (by repeat (first | (with_reducible first | exact HB.out | apply below_alloc | apply pw_below_drewN | apply below_drew1) | exact HB.out))) : w.heap.size ≤ gb294)); have n4_ := Aside0.mk ((by rw [hg]; exact (below_size (by repeat (first | (with_reducible first | exact HB.out | apply below_alloc | apply pw_below_drewN | apply below_drew1) | exact HB.out))) : w.heap.size ≤ gb294)); clear HO_9; clear HB; have HO_9 := n0_; have HB := n1_; have BK294 := n2_; have GW294 := n3_; have GE294 := n4_; clear n0_ n1_ n2_ n3_ n4_; clear hb hbox hg; have hcz19_0 : w18.cell? ⟨gb294, 0, none⟩ = some (.int .i64 0) := (blk_cell BK294.out 0).trans rfl; have hcz19_1 : w18.cell? ⟨gb294, 1, none⟩ = some (.bool false) := (blk_cell BK294.out 1).trans rfl; have hcz19_2 : w18.cell? ⟨gb294, 2, none⟩ = some (.int .i64 0) := (blk_cell BK294.out 2).trans rfl; have hfz19_0 := blk_frozen BK294.out 0; have hfz19_1 := blk_frozen BK294.out 1; have hfz19_2 := blk_frozen BK294.out 2; obtain ⟨Ao20, co20, eo20⟩ := Kd.R_slice HO_9.out; subst eo20; have p295 : 0 ≤ (((rd_T48 l2 x30_2).f0) : Int) := of_decide_eq_true (by first | (with_reducible assumption) | assumption); have q295 : ((rd_T48 l2 x30_2).f0) < (t289.length : Int) := of_decide_eq_true (by first | (with_reducible assumption) | assumption); obtain ⟨ad295, e295, hx295_0⟩ := Kd.at_bool (Kd.R_reads' HO_9.out).2.2 ((rd_T48 l2 x30_2).f0) p295 q295; cases e295; have hn295_0 : ad295.block ≠ gb294 := Kd.own_blk (Kd.R_ne HO_9.out BK294.out (by decide)); have hn295_1 : ad295.block ≠ gb294 := Kd.own_blk (Kd.R_ne HO_9.out BK294.out (by decide)); have hn295_2 : ad295.block ≠ gb294 := Kd.own_blk (Kd.R_ne HO_9.out BK294.out (by decide)); replace hx295_0 := (cell_far (p := ⟨gb294, 0, none⟩) (by first | (rw [add_block]; exact hn295_0) | (show (Addr.add _ _).block ≠ _; rw [add_block]; exact hn295_0) | exact hn295_0) (.int .i64 ((rd_T48 l2 x30_2).f0))).trans hx295_0; replace hx295_0 := (cell_far (p := ⟨gb294, 1, none⟩) (by first | (rw [add_block]; exact hn295_1) | (show (Addr.add _ _).block ≠ _; rw [add_block]; exact hn295_1) | exact hn295_1) (.bool ((rd_T48 l2 x30_2).f1))).trans hx295_0; replace hx295_0 := (cell_far (p := ⟨gb294, 2, none⟩) (by first | (rw [add_block]; exact hn295_2) | (show (Addr.add _ _).block ≠ _; rw [add_block]; exact hn295_2) | exact hn295_2) (.int .i64 ((rd_T48 l2 x30_2).f2))).trans hx295_0; (try have hy295_0 := fun (n_ : Nat) => (show (((((w18.drewN n_).setCell ⟨gb294, 0, none⟩ (.int .i64 ((rd_T48 l2 x30_2).f0))).setCell ⟨gb294, 1, none⟩ (.bool ((rd_T48 l2 x30_2).f1))).setCell ⟨gb294, 2, none⟩ (.int .i64 ((rd_T48 l2 x30_2).f2)))).cell? _ = some _ from hx295_0)); clear hn295_0; clear hn295_1; clear hn295_2; replace p295 := eq_true p295; replace q295 := eq_true q295)))
             go_ret
             exact ⟨by first | rfl | (simp [errW_none, errW_some] <;> rfl) | (simp [*, errW_none, errW_some] <;> rfl), by repeat (first | (with_reducible first | exact HB.out | apply below_alloc | apply pw_below_drewN | apply below_drew1 | refine below_set ?_ GE294.out) | exact HB.out)⟩
            ·rw [if_neg c17] at H
             have c17b0 : ((rdOf false t289 ((rd_T48 l2 x30_2).f0)) != ((rd_T48 l2 x30_2).f1)) = false := by simpa using c17
             (try (have c17b1 : decide ((rdOf false t289 ((rd_T48 l2 x30_2).f0)) = ((rd_T48 l2 x30_2).f1)) = true := by simpa using c17))
             (try (have c17b2 : ((rdOf false t289 ((rd_T48 l2 x30_2).f0)) == ((rd_T48 l2 x30_2).f1)) = true := by simpa using c17))
             clear c17
             have H' := Aside0.mk H
             clear H
             have p293 : 0 ≤ (x30_2 : Int) := of_decide_eq_true (by first | (with_reducible assumption) | assumption)
             have q293 : x30_2 < (l2.length : Int) := of_decide_eq_true (by first | (with_reducible assumption) | assumption)
             obtain ⟨ad293, e293, hx293_0, hx293_1, hx293_2⟩ := at_T48 HR2.out x30_2 p293 q293
             cases e293
             replace hx293_0 := (HB.out.cell (World.block_lt_of_cell? w _ hx293_0)).trans hx293_0
             replace hx293_1 := (HB.out.cell (World.block_lt_of_cell? w _ hx293_1)).trans hx293_1
             replace hx293_2 := (HB.out.cell (World.block_lt_of_cell? w _ hx293_2)).trans hx293_2
             replace p293 := eq_true p293
             replace q293 := eq_true q293
             go_wp2_with (first | ((with_reducible refine gate_dst (N := 12) rfl ?_); (try (refine gate_guard (by rfl) ?_; dsimp only)); refine box_event ?hg (N := 12) ?hd (cs := #[.int .i64 0, .bool false, .int .i64 0]) (t := 48) ?hr ?_; (case hd => rfl); (case hg => rfl); (case hr => first | (go_simp; done) | (go_simp; rfl)); intro gb294 hg w21 hbox hb; have n0_ := Aside0.mk (Kd.R_below (by (with_reducible repeat (first | apply Kd.R_alloc | apply Kd.R_drewN | apply Kd.R_drew)); exact HO_9.out) hb); have n1_ := Aside0.mk (below_step (by repeat (first | (with_reducible first | exact HB.out | apply below_alloc | apply pw_below_drewN | apply below_drew1) | exact HB.out)) hb); have n2_ := Aside0.mk (hbox); have n3_ := Aside0.mk ((by rw [hg]; exact (below_size (by repeat (first | (with_reducible first | exact HB.out | apply below_alloc | apply pw_below_drewN | apply below_drew1) | exact HB.out))) : w.heap.size ≤ gb294)); have n4_ := Aside0.mk ((by rw [hg]; exact (below_size (by repeat (first | (with_reducible first | exact HB.out | apply below_alloc | apply pw_below_drewN | apply below_drew1) | exact HB.out))) : w.heap.size ≤ gb294)); clear HO_9; clear HB; have HO_9 := n0_; have HB := n1_; have BK294 := n2_; have GW294 := n3_; have GE294 := n4_; clear n0_ n1_ n2_ n3_ n4_; clear hb hbox hg; have hcz22_0 : w21.cell? ⟨gb294, 0, none⟩ = some (.int .i64 0) := (blk_cell BK294.out 0).trans rfl; have hcz22_1 : w21.cell? ⟨gb294, 1, none⟩ = some (.bool false) := (blk_cell BK294.out 1).trans rfl; have hcz22_2 : w21.cell? ⟨gb294, 2, none⟩ = some (.int .i64 0) := (blk_cell BK294.out 2).trans rfl; have hfz22_0 := blk_frozen BK294.out 0; have hfz22_1 := blk_frozen BK294.out 1; have hfz22_2 := blk_frozen BK294.out 2; obtain ⟨Ao23, co23, eo23⟩ := Kd.R_slice HO_9.out; subst eo23; have p295 : 0 ≤ (((rd_T48 l2 x30_2).f0) : Int) := of_decide_eq_true (by first | (with_reducible assumption) | assumption); have q295 : ((rd_T48 l2 x30_2).f0) < (t289.length : Int) := of_decide_eq_true (by first | (with_reducible assumption) | assumption); obtain ⟨ad295, e295, hx295_0⟩ := Kd.at_bool (Kd.R_reads' HO_9.out).2.2 ((rd_T48 l2 x30_2).f0) p295 q295; cases e295; have hn295_0 : ad295.block ≠ gb294 := Kd.own_blk (Kd.R_ne HO_9.out BK294.out (by decide)); have hn295_1 : ad295.block ≠ gb294 := Kd.own_blk (Kd.R_ne HO_9.out BK294.out (by decide)); have hn295_2 : ad295.block ≠ gb294 := Kd.own_blk (Kd.R_ne HO_9.out BK294.out (by decide)); replace hx295_0 := (cell_far (p := ⟨gb294, 0, none⟩) (by first | (rw [add_block]; exact hn295_0) | (show (Addr.add _ _).block ≠ _; rw [add_block]; exact hn295_0) | exact hn295_0) (.int .i64 ((rd_T48 l2 x30_2).f0))).trans hx295_0; replace hx295_0 := (cell_far (p := ⟨gb294, 1, none⟩) (by first | (rw [add_block]; exact hn295_1) | (show (Addr.add _ _).block ≠ _; rw [add_block]; exact hn295_1) | exact hn295_1) (.bool ((rd_T48 l2 x30_2).f1))).trans hx295_0; replace hx295_0 := (cell_far (p := ⟨gb294, 2, none⟩) (by first | (rw [add_block]; exact hn295_2) | (show (Addr.add _ _).block ≠ _; rw [add_block]; exact hn295_2) | exact hn295_2) (.int .i64 ((rd_T48 l2 x30_2).f2))).trans hx295_0; (try have hy295_0 := fun (n_ : Nat) => (show (((((w21.drewN n_).setCell ⟨gb294, 0, none⟩ (.int .i64 ((rd_T48 l2 x30_2).f0))).setCell ⟨gb294, 1, none⟩ (.bool ((rd_T48 l2 x30_2).f1))).setCell ⟨gb294, 2, none⟩ (.int .i64 ((rd_T48 l2 x30_2).f2)))).cell? _ = some _ from hx295_0)); clear hn295_0; clear hn295_1; clear hn295_2; replace p295 := eq_true p295; replace q295 := eq_true q295))
             repeat (go_quiet (first | ((with_reducible refine gate_dst (N := 12) rfl ?_); (try (refine gate_guard (by rfl) ?_; dsimp only)); refine box_event ?hg (N := 12) ?hd (cs := #[.int .i64 0, .bool false, .int .i64 0]) (t := 48) ?hr ?_; (case hd => rfl); (case hg => rfl); (case hr => first | (go_simp; done) | (go_simp; rfl)); intro gb294 hg w21 hbox hb; have n0_ := Aside0.mk (Kd.R_below (by (with_reducible repeat (first | apply Kd.R_alloc | apply Kd.R_drewN | apply Kd.R_drew)); exact HO_9.out) hb); have n1_ := Aside0.mk (below_step (by repeat (first | (with_reducible first | exact HB.out | apply below_alloc | apply pw_below_drewN | apply below_drew1) | exact HB.out)) hb); have n2_ := Aside0.mk (hbox); have n3_ := Aside0.mk ((by rw [hg]; exact (below_size (by repeat (first | (with_reducible first | exact HB.out | apply below_alloc | apply pw_below_drewN | apply below_drew1) | exact HB.out))) : w.heap.size ≤ gb294)); have n4_ := Aside0.mk ((by rw [hg]; exact (below_size (by repeat (first | (with_reducible first | exact HB.out | apply below_alloc | apply pw_below_drewN | apply below_drew1) | exact HB.out))) : w.heap.size ≤ gb294)); clear HO_9; clear HB; have HO_9 := n0_; have HB := n1_; have BK294 := n2_; have GW294 := n3_; have GE294 := n4_; clear n0_ n1_ n2_ n3_ n4_; clear hb hbox hg; have hcz22_0 : w21.cell? ⟨gb294, 0, none⟩ = some (.int .i64 0) := (blk_cell BK294.out 0).trans rfl; have hcz22_1 : w21.cell? ⟨gb294, 1, none⟩ = some (.bool false) := (blk_cell BK294.out 1).trans rfl; have hcz22_2 : w21.cell? ⟨gb294, 2, none⟩ = some (.int .i64 0) := (blk_cell BK294.out 2).trans rfl; have hfz22_0 := blk_frozen BK294.out 0; have hfz22_1 := blk_frozen BK294.out 1; have hfz22_2 := blk_frozen BK294.out 2; obtain ⟨Ao23, co23, eo23⟩ := Kd.R_slice HO_9.out; subst eo23; have p295 : 0 ≤ (((rd_T48 l2 x30_2).f0) : Int) := of_decide_eq_true (by first | (with_reducible assumption) | assumption); have q295 : ((rd_T48 l2 x30_2).f0) < (t289.length : Int) := of_decide_eq_true (by first | (with_reducible assumption) | assumption); obtain ⟨ad295, e295, hx295_0⟩ := Kd.at_bool (Kd.R_reads' HO_9.out).2.2 ((rd_T48 l2 x30_2).f0) p295 q295; cases e295; have hn295_0 : ad295.block ≠ gb294 := Kd.own_blk (Kd.R_ne HO_9.out BK294.out (by decide)); have hn295_1 : ad295.block ≠ gb294 := Kd.own_blk (Kd.R_ne HO_9.out BK294.out (by decide)); have hn295_2 : ad295.block ≠ gb294 := Kd.own_blk (Kd.R_ne HO_9.out BK294.out (by decide)); replace hx295_0 := (cell_far (p := ⟨gb294, 0, none⟩) (by first | (rw [add_block]; exact hn295_0) | (show (Addr.add _ _).block ≠ _; rw [add_block]; exact hn295_0) | exact hn295_0) (.int .i64 ((rd_T48 l2 x30_2).f0))).trans hx295_0; replace hx295_0 := (cell_far (p := ⟨gb294, 1, none⟩) (by first | (rw [add_block]; exact hn295_1) | (show (Addr.add _ _).block ≠ _; rw [add_block]; exact hn295_1) | exact hn295_1) (.bool ((rd_T48 l2 x30_2).f1))).trans hx295_0; replace hx295_0 := (cell_far (p := ⟨gb294, 2, none⟩) (by first | (rw [add_block]; exact hn295_2) | (show (Addr.add _ _).block ≠ _; rw [add_block]; exact hn295_2) | exact hn295_2) (.int .i64 ((rd_T48 l2 x30_2).f2))).trans hx295_0; (try have hy295_0 := fun (n_ : Nat) => (show (((((w21.drewN n_).setCell ⟨gb294, 0, none⟩ (.int .i64 ((rd_T48 l2 x30_2).f0))).setCell ⟨gb294, 1, none⟩ (.bool ((rd_T48 l2 x30_2).f1))).setCell ⟨gb294, 2, none⟩ (.int .i64 ((rd_T48 l2 x30_2).f2)))).cell? _ = some _ from hx295_0)); clear hn295_0; clear hn295_1; clear hn295_2; replace p295 := eq_true p295; replace q295 := eq_true q295)); try go_wp2_with (first | ((with_reducible refine gate_dst (N := 12) rfl ?_); (try (refine gate_guard (by rfl) ?_; dsimp only)); refine box_event ?hg (N := 12) ?hd (cs := #[.int .i64 0, .bool false, .int .i64 0]) (t := 48) ?hr ?_; (case hd => rfl); (case hg => rfl); (case hr => first | (go_simp; done) | (go_simp; rfl)); intro gb294 hg w21 hbox hb; have n0_ := Aside0.mk (Kd.R_below (by (with_reducible repeat (first | apply Kd.R_alloc | apply Kd.R_drewN | apply Kd.R_drew)); exact HO_9.out) hb); have n1_ := Aside0.mk (below_step (by repeat (first | (with_reducible first | exact HB.out | apply below_alloc | apply pw_below_drewN | apply below_drew1) | exact HB.out)) hb); have n2_ := Aside0.mk (hbox); have n3_ := Aside0.mk ((by rw [hg]; exact (below_size (by repeat (first | (with_reducible first | exact HB.out | apply below_alloc | apply pw_below_drewN | apply below_drew1) | exact HB.out))) : w.heap.size ≤ gb294)); have n4_ := Aside0.mk ((by rw [hg]; exact (below_size (by repeat (first | (with_reducible first | exact HB.out | apply below_alloc | apply pw_below_drewN | apply below_drew1) | exact HB.out))) : w.heap.size ≤ gb294)); clear HO_9; clear HB; have HO_9 := n0_; have HB := n1_; have BK294 := n2_; have GW294 := n3_; have GE294 := n4_; clear n0_ n1_ n2_ n3_ n4_; clear hb hbox hg; have hcz22_0 : w21.cell? ⟨gb294, 0, none⟩ = some (.int .i64 0) := (blk_cell BK294.out 0).trans rfl; have hcz22_1 : w21.cell? ⟨gb294, 1, none⟩ = some (.bool false) := (blk_cell BK294.out 1).trans rfl; have hcz22_2 : w21.cell? ⟨gb294, 2, none⟩ = some (.int .i64 0) := (blk_cell BK294.out 2).trans rfl; have hfz22_0 := blk_frozen BK294.out 0; have hfz22_1 := blk_frozen BK294.out 1; have hfz22_2 := blk_frozen BK294.out 2; obtain ⟨Ao23, co23, eo23⟩ := Kd.R_slice HO_9.out; subst eo23; have p295 : 0 ≤ (((rd_T48 l2 x30_2).f0) : Int) := of_decide_eq_true (by first | (with_reducible assumption) | assumption); have q295 : ((rd_T48 l2 x30_2).f0) < (t289.length : Int) := of_decide_eq_true (by first | (with_reducible assumption) | assumption); obtain ⟨ad295, e295, hx295_0⟩ := Kd.at_bool (Kd.R_reads' HO_9.out).2.2 ((rd_T48 l2 x30_2).f0) p295 q295; cases e295; have hn295_0 : ad295.block ≠ gb294 := Kd.own_blk (Kd.R_ne HO_9.out BK294.out (by decide)); have hn295_1 : ad295.block ≠ gb294 := Kd.own_blk (Kd.R_ne HO_9.out BK294.out (by decide)); have hn295_2 : ad295.block ≠ gb294 := Kd.own_blk (Kd.R_ne HO_9.out BK294.out (by decide)); replace hx295_0 := (cell_far (p := ⟨gb294, 0, none⟩) (by first | (rw [add_block]; exact hn295_0) | (show (Addr.add _ _).block ≠ _; rw [add_block]; exact hn295_0) | exact hn295_0) (.int .i64 ((rd_T48 l2 x30_2).f0))).trans hx295_0; replace hx295_0 := (cell_far (p := ⟨gb294, 1, none⟩) (by first | (rw [add_block]; exact hn295_1) | (show (Addr.add _ _).block ≠ _; rw [add_block]; exact hn295_1) | exact hn295_1) (.bool ((rd_T48 l2 x30_2).f1))).trans hx295_0; replace hx295_0 := (cell_far (p := ⟨gb294, 2, none⟩) (by first | (rw [add_block]; exact hn295_2) | (show (Addr.add _ _).block ≠ _; rw [add_block]; exact hn295_2) | exact hn295_2) (.int .i64 ((rd_T48 l2 x30_2).f2))).trans hx295_0; (try have hy295_0 := fun (n_ : Nat) => (show (((((w21.drewN n_).setCell ⟨gb294, 0, none⟩ (.int .i64 ((rd_T48 l2 x30_2).f0))).setCell ⟨gb294, 1, none⟩ (.bool ((rd_T48 l2 x30_2).f1))).setCell ⟨gb294, 2, none⟩ (.int .i64 ((rd_T48 l2 x30_2).f2)))).cell? _ = some _ from hx295_0)); clear hn295_0; clear hn295_1; clear hn295_2; replace p295 := eq_true p295; replace q295 := eq_true q295)))
             go_roundg k2
             case measure => have := HJ5.out; have := HK2.out; omega
             case rel => exact ⟨(wrap64 (x30_2 + 1)), (by first | rfl | (simp; done) | (simp [*]; done)), H', ⟨by have := HJ5.out; have := HK2.out; omega⟩, ⟨by (with_reducible repeat (first | apply Kd.R_alloc | apply Kd.R_drewN | apply Kd.R_drew)); exact Kd.R_mono (Kd.R_far (p := ⟨gb294, 2, none⟩) (Kd.R_far (p := ⟨gb294, 1, none⟩) (Kd.R_far (p := ⟨gb294, 0, none⟩) (Kd.R_types HO_9.out BK294.out (by decide)) (fun _ hk => hk.2) (.int .i64 ((rd_T48 l2 x30_2).f0))) (fun _ hk => hk.2) (.bool ((rd_T48 l2 x30_2).f1))) (fun _ hk => hk.2) (.int .i64 ((rd_T48 l2 x30_2).f2))) (fun _ hk => trivial)⟩, ⟨by repeat (first | (with_reducible first | exact HB.out | apply below_alloc | apply pw_below_drewN | apply below_drew1 | refine below_set ?_ GE294.out) | exact HB.out)⟩⟩
           ·rw [if_neg c16] at H
            exact absurd H (by simp)
          ·rw [if_neg c15] at H
           exact absurd H (by simp)
         ·rw [if_neg c14] at H
          have c14b0 : decide (((rd_T48 l2 x30_2).f2) ≤ a3) = false := decide_eq_false c14
          clear c14
          have H' := Aside0.mk H
          clear H
          have p293 : 0 ≤ (x30_2 : Int) := of_decide_eq_true (by first | (with_reducible assumption) | assumption)
          have q293 : x30_2 < (l2.length : Int) := of_decide_eq_true (by first | (with_reducible assumption) | assumption)
          obtain ⟨ad293, e293, hx293_0, hx293_1, hx293_2⟩ := at_T48 HR2.out x30_2 p293 q293
          cases e293
          replace hx293_0 := (HB.out.cell (World.block_lt_of_cell? w _ hx293_0)).trans hx293_0
          replace hx293_1 := (HB.out.cell (World.block_lt_of_cell? w _ hx293_1)).trans hx293_1
          replace hx293_2 := (HB.out.cell (World.block_lt_of_cell? w _ hx293_2)).trans hx293_2
          replace p293 := eq_true p293
          replace q293 := eq_true q293
          go_wp2_with (first | ((with_reducible refine gate_dst (N := 12) rfl ?_); (try (refine gate_guard (by rfl) ?_; dsimp only)); refine box_event ?hg (N := 12) ?hd (cs := #[.int .i64 0, .bool false, .int .i64 0]) (t := 48) ?hr ?_; (case hd => rfl); (case hg => rfl); (case hr => first | (go_simp; done) | (go_simp; rfl)); intro gb294 hg w24 hbox hb; have n0_ := Aside0.mk (Kd.R_below (by (with_reducible repeat (first | apply Kd.R_alloc | apply Kd.R_drewN | apply Kd.R_drew)); exact HO_9.out) hb); have n1_ := Aside0.mk (below_step (by repeat (first | (with_reducible first | exact HB.out | apply below_alloc | apply pw_below_drewN | apply below_drew1) | exact HB.out)) hb); have n2_ := Aside0.mk (hbox); have n3_ := Aside0.mk ((by rw [hg]; exact (below_size (by repeat (first | (with_reducible first | exact HB.out | apply below_alloc | apply pw_below_drewN | apply below_drew1) | exact HB.out))) : w.heap.size ≤ gb294)); have n4_ := Aside0.mk ((by rw [hg]; exact (below_size (by repeat (first | (with_reducible first | exact HB.out | apply below_alloc | apply pw_below_drewN | apply below_drew1) | exact HB.out))) : w.heap.size ≤ gb294)); clear HO_9; clear HB; have HO_9 := n0_; have HB := n1_; have BK294 := n2_; have GW294 := n3_; have GE294 := n4_; clear n0_ n1_ n2_ n3_ n4_; clear hb hbox hg; have hcz25_0 : w24.cell? ⟨gb294, 0, none⟩ = some (.int .i64 0) := (blk_cell BK294.out 0).trans rfl; have hcz25_1 : w24.cell? ⟨gb294, 1, none⟩ = some (.bool false) := (blk_cell BK294.out 1).trans rfl; have hcz25_2 : w24.cell? ⟨gb294, 2, none⟩ = some (.int .i64 0) := (blk_cell BK294.out 2).trans rfl; have hfz25_0 := blk_frozen BK294.out 0; have hfz25_1 := blk_frozen BK294.out 1; have hfz25_2 := blk_frozen BK294.out 2))
          repeat (go_quiet (first | ((with_reducible refine gate_dst (N := 12) rfl ?_); (try (refine gate_guard (by rfl) ?_; dsimp only)); refine box_event ?hg (N := 12) ?hd (cs := #[.int .i64 0, .bool false, .int .i64 0]) (t := 48) ?hr ?_; (case hd => rfl); (case hg => rfl); (case hr => first | (go_simp; done) | (go_simp; rfl)); intro gb294 hg w24 hbox hb; have n0_ := Aside0.mk (Kd.R_below (by (with_reducible repeat (first | apply Kd.R_alloc | apply Kd.R_drewN | apply Kd.R_drew)); exact HO_9.out) hb); have n1_ := Aside0.mk (below_step (by repeat (first | (with_reducible first | exact HB.out | apply below_alloc | apply pw_below_drewN | apply below_drew1) | exact HB.out)) hb); have n2_ := Aside0.mk (hbox); have n3_ := Aside0.mk ((by rw [hg]; exact (below_size (by repeat (first | (with_reducible first | exact HB.out | apply below_alloc | apply pw_below_drewN | apply below_drew1) | exact HB.out))) : w.heap.size ≤ gb294)); have n4_ := Aside0.mk ((by rw [hg]; exact (below_size (by repeat (first | (with_reducible first | exact HB.out | apply below_alloc | apply pw_below_drewN | apply below_drew1) | exact HB.out))) : w.heap.size ≤ gb294)); clear HO_9; clear HB; have HO_9 := n0_; have HB := n1_; have BK294 := n2_; have GW294 := n3_; have GE294 := n4_; clear n0_ n1_ n2_ n3_ n4_; clear hb hbox hg; have hcz25_0 : w24.cell? ⟨gb294, 0, none⟩ = some (.int .i64 0) := (blk_cell BK294.out 0).trans rfl; have hcz25_1 : w24.cell? ⟨gb294, 1, none⟩ = some (.bool false) := (blk_cell BK294.out 1).trans rfl; have hcz25_2 : w24.cell? ⟨gb294, 2, none⟩ = some (.int .i64 0) := (blk_cell BK294.out 2).trans rfl; have hfz25_0 := blk_frozen BK294.out 0; have hfz25_1 := blk_frozen BK294.out 1; have hfz25_2 := blk_frozen BK294.out 2)); try go_wp2_with (first | ((with_reducible refine gate_dst (N := 12) rfl ?_); (try (refine gate_guard (by rfl) ?_; dsimp only)); refine box_event ?hg (N := 12) ?hd (cs := #[.int .i64 0, .bool false, .int .i64 0]) (t := 48) ?hr ?_; (case hd => rfl); (case hg => rfl); (case hr => first | (go_simp; done) | (go_simp; rfl)); intro gb294 hg w24 hbox hb; have n0_ := Aside0.mk (Kd.R_below (by (with_reducible repeat (first | apply Kd.R_alloc | apply Kd.R_drewN | apply Kd.R_drew)); exact HO_9.out) hb); have n1_ := Aside0.mk (below_step (by repeat (first | (with_reducible first | exact HB.out | apply below_alloc | apply pw_below_drewN | apply below_drew1) | exact HB.out)) hb); have n2_ := Aside0.mk (hbox); have n3_ := Aside0.mk ((by rw [hg]; exact (below_size (by repeat (first | (with_reducible first | exact HB.out | apply below_alloc | apply pw_below_drewN | apply below_drew1) | exact HB.out))) : w.heap.size ≤ gb294)); have n4_ := Aside0.mk ((by rw [hg]; exact (below_size (by repeat (first | (with_reducible first | exact HB.out | apply below_alloc | apply pw_below_drewN | apply below_drew1) | exact HB.out))) : w.heap.size ≤ gb294)); clear HO_9; clear HB; have HO_9 := n0_; have HB := n1_; have BK294 := n2_; have GW294 := n3_; have GE294 := n4_; clear n0_ n1_ n2_ n3_ n4_; clear hb hbox hg; have hcz25_0 : w24.cell? ⟨gb294, 0, none⟩ = some (.int .i64 0) := (blk_cell BK294.out 0).trans rfl; have hcz25_1 : w24.cell? ⟨gb294, 1, none⟩ = some (.bool false) := (blk_cell BK294.out 1).trans rfl; have hcz25_2 : w24.cell? ⟨gb294, 2, none⟩ = some (.int .i64 0) := (blk_cell BK294.out 2).trans rfl; have hfz25_0 := blk_frozen BK294.out 0; have hfz25_1 := blk_frozen BK294.out 1; have hfz25_2 := blk_frozen BK294.out 2)))
          go_roundg k2
          case measure => have := HJ5.out; have := HK2.out; omega
          case rel => exact ⟨(wrap64 (x30_2 + 1)), (by first | rfl | (simp; done) | (simp [*]; done)), H', ⟨by have := HJ5.out; have := HK2.out; omega⟩, ⟨by (with_reducible repeat (first | apply Kd.R_alloc | apply Kd.R_drewN | apply Kd.R_drew)); exact Kd.R_mono (Kd.R_far (p := ⟨gb294, 2, none⟩) (Kd.R_far (p := ⟨gb294, 1, none⟩) (Kd.R_far (p := ⟨gb294, 0, none⟩) (Kd.R_types HO_9.out BK294.out (by decide)) (fun _ hk => hk.2) (.int .i64 ((rd_T48 l2 x30_2).f0))) (fun _ hk => hk.2) (.bool ((rd_T48 l2 x30_2).f1))) (fun _ hk => hk.2) (.int .i64 ((rd_T48 l2 x30_2).f2))) (fun _ hk => trivial)⟩, ⟨by repeat (first | (with_reducible first | exact HB.out | apply below_alloc | apply pw_below_drewN | apply below_drew1 | refine below_set ?_ GE294.out) | exact HB.out)⟩⟩
        ·rw [if_neg c13] at H
         exact absurd H (by simp)
       ·rw [if_neg c12] at H
        exact absurd H (by simp)
      ·rw [if_neg c11] at H
       have c11b0 : decide (x30_2 < (l2.length : Int)) = false := decide_eq_false c11
       clear c11
       obtain rfl := Option.some.inj H
       go_wp2
       repeat (go_quiet (fail); try go_wp2)
       go_ret
       exact ⟨by first | rfl | (simp [errW_none, errW_some] <;> rfl) | (simp [*, errW_none, errW_some] <;> rfl), by repeat (first | (with_reducible first | exact HB.out | apply below_alloc | apply pw_below_drewN | apply below_drew1) | exact HB.out)⟩

end Go.Proofs.Ytjdhnhfglpogmaa.P
