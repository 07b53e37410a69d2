-- Written by a program of this session out of the translation (wip/pp: the kit's print, turned). Not trusted: Lean checks it.
import Derived.Test.YtolgpnbjjehdiaaDoorPx0
import Derived.Test.YtolgpnbjjehdiaaDoorPx5
namespace Go.Proofs.YtolgpnbjjehdiaaDoor.P
open Go.RowKit Go.Proofs.YtolgpnbjjehdiaaDoorW.PrintWords Go.Proofs.YtolgpnbjjehdiaaDoorW.PrintLast Go.Proofs.YtolgpnbjjehdiaaDoorW.PrintMore
attribute [local go_sem] max2_int min2_int max_two min_two max_three min_three max_four min_four   -- for this text's walks alone
set_option linter.unusedVariables false
set_option linter.unusedSimpArgs false

/-! ### cohousingref06_Check: function 21 -/
mutual
def cohousingref06_Check.j0 : Nat → Int → Int → Int → Int → List Int → Bool → Option (Bool)
 | 0, _, _, _, _, _, _ => none
 | k + 1, x0, x1, x2, x3, x4, x28 => if x28 = true then (some false) else ((cohousingref06_Leaf.f k x1).bind fun t251 => (cohousingref06_Check.l0 k x0 x2 x3 x4 t251 0))
def cohousingref06_Check.l0 : Nat → Int → Int → Int → List Int → Int → Int → Option (Bool)
 | 0, _, _, _, _, _, _ => none
 | k + 1, x0, x2, x3, x4, x11, x12 => if x3 > 1 then (if (Int.tmod x2 2) = 1 then (cohousingref06_Check.j2 k x0 x2 x3 x4 x11 x12 true) else (cohousingref06_Check.j2 k x0 x2 x3 x4 x11 x12 (decide ((wrap64 (x2 + 1)) < x3)))) else (if x12 = (x4.length : Int) then (some (x11 == x0)) else (some false))
def cohousingref06_Check.j2 : Nat → Int → Int → Int → List Int → Int → Int → Bool → Option (Bool)
 | 0, _, _, _, _, _, _, _ => none
 | k + 1, x0, x2, x3, x4, x11, x12, x13 => if x13 = true then (cohousingref06_Check.j3 k x0 x2 x3 x4 x11 x12 x13 (x12 == (x4.length : Int))) else (cohousingref06_Check.j3 k x0 x2 x3 x4 x11 x12 x13 false)
def cohousingref06_Check.j3 : Nat → Int → Int → Int → List Int → Int → Int → Bool → Bool → Option (Bool)
 | 0, _, _, _, _, _, _, _, _ => none
 | k + 1, x0, x2, x3, x4, x11, x12, x13, x48 => if x48 = true then (some false) else (if x13 = true then (cohousingref06_Check.j4 k x0 x2 x3 x4 x11 x12 x13 ((Int.tmod x2 2) == 1)) else (cohousingref06_Check.j4 k x0 x2 x3 x4 x11 x12 x13 false))
def cohousingref06_Check.j4 : Nat → Int → Int → Int → List Int → Int → Int → Bool → Bool → Option (Bool)
 | 0, _, _, _, _, _, _, _, _ => none
 | k + 1, x0, x2, x3, x4, x11, x12, x13, x54 => if x54 = true then (if 0 ≤ x12 then (if x12 < (x4.length : Int) then ((cohousingref06_Pair.f k (rd x4 x12) x11).bind fun t253 => (if x13 = true then (cohousingref06_Check.l0 k x0 (wrap64 (Int.tdiv x2 2)) (wrap64 (Int.tdiv (wrap64 (x3 + 1)) 2)) x4 t253 (wrap64 (x12 + 1))) else (cohousingref06_Check.l0 k x0 (wrap64 (Int.tdiv x2 2)) (wrap64 (Int.tdiv (wrap64 (x3 + 1)) 2)) x4 t253 x12))) else (none)) else (none)) else (if x13 = true then (if 0 ≤ x12 then (if x12 < (x4.length : Int) then ((cohousingref06_Pair.f k x11 (rd x4 x12)).bind fun t255 => (cohousingref06_Check.l0 k x0 (wrap64 (Int.tdiv x2 2)) (wrap64 (Int.tdiv (wrap64 (x3 + 1)) 2)) x4 t255 (wrap64 (x12 + 1)))) else (none)) else (none)) else (cohousingref06_Check.l0 k x0 (wrap64 (Int.tdiv x2 2)) (wrap64 (Int.tdiv (wrap64 (x3 + 1)) 2)) x4 x11 x12))
end
def cohousingref06_Check.f (k : Nat) (a0 : Int) (a1 : Int) (a2 : Int) (a3 : Int) (l4 : List Int) : Option (Bool) := if a3 < 1 then (cohousingref06_Check.j0 k a0 a1 a2 a3 l4 true) else (if a3 > 1024 then (cohousingref06_Check.j0 k a0 a1 a2 a3 l4 true) else (if a2 < 0 then (cohousingref06_Check.j0 k a0 a1 a2 a3 l4 true) else (cohousingref06_Check.j0 k a0 a1 a2 a3 l4 (decide (a2 ≥ a3)))))
theorem cohousingref06_Check.mono_l : ∀ k, (∀ y0 y1 y2 y3 y4 y5, LeO (cohousingref06_Check.j0 k y0 y1 y2 y3 y4 y5) (cohousingref06_Check.j0 (k + 1) y0 y1 y2 y3 y4 y5)) ∧ (∀ y0 y1 y2 y3 y4 y5, LeO (cohousingref06_Check.l0 k y0 y1 y2 y3 y4 y5) (cohousingref06_Check.l0 (k + 1) y0 y1 y2 y3 y4 y5)) ∧ (∀ y0 y1 y2 y3 y4 y5 y6, LeO (cohousingref06_Check.j2 k y0 y1 y2 y3 y4 y5 y6) (cohousingref06_Check.j2 (k + 1) y0 y1 y2 y3 y4 y5 y6)) ∧ (∀ y0 y1 y2 y3 y4 y5 y6 y7, LeO (cohousingref06_Check.j3 k y0 y1 y2 y3 y4 y5 y6 y7) (cohousingref06_Check.j3 (k + 1) y0 y1 y2 y3 y4 y5 y6 y7)) ∧ (∀ y0 y1 y2 y3 y4 y5 y6 y7, LeO (cohousingref06_Check.j4 k y0 y1 y2 y3 y4 y5 y6 y7) (cohousingref06_Check.j4 (k + 1) y0 y1 y2 y3 y4 y5 y6 y7))
 | 0 => ⟨fun _ _ _ _ _ _ r h => by simp [cohousingref06_Check.j0] at h, fun _ _ _ _ _ _ r h => by simp [cohousingref06_Check.l0] at h, fun _ _ _ _ _ _ _ r h => by simp [cohousingref06_Check.j2] at h, fun _ _ _ _ _ _ _ _ r h => by simp [cohousingref06_Check.j3] at h, fun _ _ _ _ _ _ _ _ r h => by simp [cohousingref06_Check.j4] at h⟩
 | k + 1 => by
  obtain ⟨ih0, ih1, ih2, ih3, ih4⟩ := cohousingref06_Check.mono_l k
  refine ⟨?_, ?_, ?_, ?_, ?_⟩
  ·intro y0 y1 y2 y3 y4 y5
   unfold cohousingref06_Check.j0
   repeat' first
   | (with_reducible exact ih0 _ _ _ _ _ _)
   | (with_reducible exact ih1 _ _ _ _ _ _)
   | (with_reducible exact ih2 _ _ _ _ _ _ _)
   | (with_reducible exact ih3 _ _ _ _ _ _ _ _)
   | (with_reducible exact ih4 _ _ _ _ _ _ _ _)
   | (with_reducible exact cohousingref06_Leaf.mono _ _)
   | (with_reducible exact cohousingref06_Pair.mono _ _ _)
   | (with_reducible exact LeO.refl _)
   | (with_reducible exact LeO.none _)
   | (with_reducible refine LeO.ite ?_ ?_)
   | (with_reducible refine LeO.bind ?_ (fun _ => ?_))
   | exact ih0 _ _ _ _ _ _
   | exact ih1 _ _ _ _ _ _
   | exact ih2 _ _ _ _ _ _ _
   | exact ih3 _ _ _ _ _ _ _ _
   | exact ih4 _ _ _ _ _ _ _ _
   | exact cohousingref06_Leaf.mono _ _
   | exact cohousingref06_Pair.mono _ _ _
   | exact LeO.none _
   | refine LeO.ite ?_ ?_
   | refine LeO.bind ?_ (fun _ => ?_)
  ·intro y0 y1 y2 y3 y4 y5
   unfold cohousingref06_Check.l0
   repeat' first
   | (with_reducible exact ih0 _ _ _ _ _ _)
   | (with_reducible exact ih1 _ _ _ _ _ _)
   | (with_reducible exact ih2 _ _ _ _ _ _ _)
   | (with_reducible exact ih3 _ _ _ _ _ _ _ _)
   | (with_reducible exact ih4 _ _ _ _ _ _ _ _)
   | (with_reducible exact cohousingref06_Leaf.mono _ _)
   | (with_reducible exact cohousingref06_Pair.mono _ _ _)
   | (with_reducible exact LeO.refl _)
   | (with_reducible exact LeO.none _)
   | (with_reducible refine LeO.ite ?_ ?_)
   | (with_reducible refine LeO.bind ?_ (fun _ => ?_))
   | exact ih0 _ _ _ _ _ _
   | exact ih1 _ _ _ _ _ _
   | exact ih2 _ _ _ _ _ _ _
   | exact ih3 _ _ _ _ _ _ _ _
   | exact ih4 _ _ _ _ _ _ _ _
   | exact cohousingref06_Leaf.mono _ _
   | exact cohousingref06_Pair.mono _ _ _
   | exact LeO.none _
   | refine LeO.ite ?_ ?_
   | refine LeO.bind ?_ (fun _ => ?_)
  ·intro y0 y1 y2 y3 y4 y5 y6
   unfold cohousingref06_Check.j2
   repeat' first
   | (with_reducible exact ih0 _ _ _ _ _ _)
   | (with_reducible exact ih1 _ _ _ _ _ _)
   | (with_reducible exact ih2 _ _ _ _ _ _ _)
   | (with_reducible exact ih3 _ _ _ _ _ _ _ _)
   | (with_reducible exact ih4 _ _ _ _ _ _ _ _)
   | (with_reducible exact cohousingref06_Leaf.mono _ _)
   | (with_reducible exact cohousingref06_Pair.mono _ _ _)
   | (with_reducible exact LeO.refl _)
   | (with_reducible exact LeO.none _)
   | (with_reducible refine LeO.ite ?_ ?_)
   | (with_reducible refine LeO.bind ?_ (fun _ => ?_))
   | exact ih0 _ _ _ _ _ _
   | exact ih1 _ _ _ _ _ _
   | exact ih2 _ _ _ _ _ _ _
   | exact ih3 _ _ _ _ _ _ _ _
   | exact ih4 _ _ _ _ _ _ _ _
   | exact cohousingref06_Leaf.mono _ _
   | exact cohousingref06_Pair.mono _ _ _
   | exact LeO.none _
   | refine LeO.ite ?_ ?_
   | refine LeO.bind ?_ (fun _ => ?_)
  ·intro y0 y1 y2 y3 y4 y5 y6 y7
   unfold cohousingref06_Check.j3
   repeat' first
   | (with_reducible exact ih0 _ _ _ _ _ _)
   | (with_reducible exact ih1 _ _ _ _ _ _)
   | (with_reducible exact ih2 _ _ _ _ _ _ _)
   | (with_reducible exact ih3 _ _ _ _ _ _ _ _)
   | (with_reducible exact ih4 _ _ _ _ _ _ _ _)
   | (with_reducible exact cohousingref06_Leaf.mono _ _)
   | (with_reducible exact cohousingref06_Pair.mono _ _ _)
   | (with_reducible exact LeO.refl _)
   | (with_reducible exact LeO.none _)
   | (with_reducible refine LeO.ite ?_ ?_)
   | (with_reducible refine LeO.bind ?_ (fun _ => ?_))
   | exact ih0 _ _ _ _ _ _
   | exact ih1 _ _ _ _ _ _
   | exact ih2 _ _ _ _ _ _ _
   | exact ih3 _ _ _ _ _ _ _ _
   | exact ih4 _ _ _ _ _ _ _ _
   | exact cohousingref06_Leaf.mono _ _
   | exact cohousingref06_Pair.mono _ _ _
   | exact LeO.none _
   | refine LeO.ite ?_ ?_
   | refine LeO.bind ?_ (fun _ => ?_)
  ·intro y0 y1 y2 y3 y4 y5 y6 y7
   unfold cohousingref06_Check.j4
   repeat' first
   | (with_reducible exact ih0 _ _ _ _ _ _)
   | (with_reducible exact ih1 _ _ _ _ _ _)
   | (with_reducible exact ih2 _ _ _ _ _ _ _)
   | (with_reducible exact ih3 _ _ _ _ _ _ _ _)
   | (with_reducible exact ih4 _ _ _ _ _ _ _ _)
   | (with_reducible exact cohousingref06_Leaf.mono _ _)
   | (with_reducible exact cohousingref06_Pair.mono _ _ _)
   | (with_reducible exact LeO.refl _)
   | (with_reducible exact LeO.none _)
   | (with_reducible refine LeO.ite ?_ ?_)
   | (with_reducible refine LeO.bind ?_ (fun _ => ?_))
   | exact ih0 _ _ _ _ _ _
   | exact ih1 _ _ _ _ _ _
   | exact ih2 _ _ _ _ _ _ _
   | exact ih3 _ _ _ _ _ _ _ _
   | exact ih4 _ _ _ _ _ _ _ _
   | exact cohousingref06_Leaf.mono _ _
   | exact cohousingref06_Pair.mono _ _ _
   | exact LeO.none _
   | refine LeO.ite ?_ ?_
   | refine LeO.bind ?_ (fun _ => ?_)
theorem cohousingref06_Check.mono : ∀ a0 a1 a2 a3 a4 k, LeO (cohousingref06_Check.f k a0 a1 a2 a3 a4) (cohousingref06_Check.f (k + 1) a0 a1 a2 a3 a4) := by
 intro a0 a1 a2 a3 a4 k
 obtain ⟨ih0, ih1, ih2, ih3, ih4⟩ := cohousingref06_Check.mono_l k
 unfold cohousingref06_Check.f
 repeat' first
   | (with_reducible exact ih0 _ _ _ _ _ _)
   | (with_reducible exact ih1 _ _ _ _ _ _)
   | (with_reducible exact ih2 _ _ _ _ _ _ _)
   | (with_reducible exact ih3 _ _ _ _ _ _ _ _)
   | (with_reducible exact ih4 _ _ _ _ _ _ _ _)
   | (with_reducible exact cohousingref06_Leaf.mono _ _)
   | (with_reducible exact cohousingref06_Pair.mono _ _ _)
   | (with_reducible exact LeO.refl _)
   | (with_reducible exact LeO.none _)
   | (with_reducible refine LeO.ite ?_ ?_)
   | (with_reducible refine LeO.bind ?_ (fun _ => ?_))
   | exact ih0 _ _ _ _ _ _
   | exact ih1 _ _ _ _ _ _
   | exact ih2 _ _ _ _ _ _ _
   | exact ih3 _ _ _ _ _ _ _ _
   | exact ih4 _ _ _ _ _ _ _ _
   | exact cohousingref06_Leaf.mono _ _
   | exact cohousingref06_Pair.mono _ _ _
   | exact LeO.none _
   | refine LeO.ite ?_ ?_
   | refine LeO.bind ?_ (fun _ => ?_)
set_option maxHeartbeats 8000000 in
set_option maxRecDepth 100000 in
theorem cohousingref06_Check.calls (k : Nat) (a0 : Int) (a1 : Int) (a2 : Int) (a3 : Int) (A4 : Option Addr) (c4 : Nat) (l4 : List Int) (r : Bool) (w : World) (hr4 : Kd.C (Kd.int .u64) w A4 l4.length l4) (hc4 : l4.length ≤ c4) (h : cohousingref06_Check.f k a0 a1 a2 a3 l4 = some r) :
  Calls Tryd.prog 21 #[.int .u64 a0, .int .u64 a1, .int .i64 a2, .int .i64 a3, .slice A4 l4.length c4] w fun e w' => e = .returned (.bool r) ∧ Below w.heap.size w w' := by
 have HR4 := Aside0.mk hr4
 have HC4 := Aside0.mk hc4
 clear hr4 hc4
 have HB := Aside0.mk (Below.refl w.heap.size w)
 have H : (if a3 < 1 then (cohousingref06_Check.j0 k a0 a1 a2 a3 l4 true) else (if a3 > 1024 then (cohousingref06_Check.j0 k a0 a1 a2 a3 l4 true) else (if a2 < 0 then (cohousingref06_Check.j0 k a0 a1 a2 a3 l4 true) else (cohousingref06_Check.j0 k a0 a1 a2 a3 l4 (decide (a2 ≥ a3)))))) = some r := h
 clear h
 have HC6 := Aside0.mk H
 clear H
 go_enter Tryd.func21, Tryd.ntmps21
 go_upto_region 1 with (fail)
 go_cut [28] (fun v28 wc => ∃ (kq : Nat) (x28_5 : Bool), v28 = .bool x28_5 ∧ Aside0 (cohousingref06_Check.j0 kq a0 a1 a2 a3 l4 x28_5 = some r) ∧ Aside0 (kq ≤ k) ∧ Aside0 (Below w.heap.size w wc))
 case first =>
  have H := HC6.out
  clear HC6
  by_cases c7 : a3 < 1
  ·rw [if_pos c7] at H
   have c7b0 : decide (a3 < 1) = true := decide_eq_true c7
   clear c7
   (first | rw [c7b0] | (simp only [i64_w, i32_w]; rw [c7b0]) | skip)
   have H' := Aside0.mk H
   clear H
   go_wp2
   go_meet
   case rel => exact ⟨_, (true), (by first | rfl | (simp; done) | (simp [*]; done)), H', ⟨by first | omega | exact Nat.le_refl _⟩, ⟨by repeat (first | (with_reducible first | exact HB.out | apply below_alloc | apply pw_below_drewN | apply below_drew1) | exact HB.out)⟩⟩
  ·rw [if_neg c7] at H
   have c7b0 : decide (a3 < 1) = false := decide_eq_false c7
   clear c7
   (first | rw [c7b0] | (simp only [i64_w, i32_w]; rw [c7b0]) | skip)
   by_cases c8 : a3 > 1024
   ·rw [if_pos c8] at H
    have c8b0 : decide (1024 < a3) = true := decide_eq_true c8
    clear c8
    have H' := Aside0.mk H
    clear H
    go_wp2
    go_meet
    case rel => exact ⟨_, (true), (by first | rfl | (simp; done) | (simp [*]; done)), H', ⟨by first | omega | exact Nat.le_refl _⟩, ⟨by repeat (first | (with_reducible first | exact HB.out | apply below_alloc | apply pw_below_drewN | apply below_drew1) | exact HB.out)⟩⟩
   ·rw [if_neg c8] at H
    have c8b0 : decide (1024 < a3) = false := decide_eq_false c8
    clear c8
    by_cases c9 : a2 < 0
    ·rw [if_pos c9] at H
     have c9b0 : decide (a2 < 0) = true := decide_eq_true c9
     clear c9
     have H' := Aside0.mk H
     clear H
     go_wp2
     go_meet
     case rel => exact ⟨_, (true), (by first | rfl | (simp; done) | (simp [*]; done)), H', ⟨by first | omega | exact Nat.le_refl _⟩, ⟨by repeat (first | (with_reducible first | exact HB.out | apply below_alloc | apply pw_below_drewN | apply below_drew1) | exact HB.out)⟩⟩
    ·rw [if_neg c9] at H
     have c9b0 : decide (a2 < 0) = false := decide_eq_false c9
     clear c9
     have H' := Aside0.mk H
     clear H
     go_wp2
     go_meet
     case rel => exact ⟨_, (decide (a2 ≥ a3)), (by first | rfl | (simp; done) | (simp [*]; done)), H', ⟨by first | omega | exact Nat.le_refl _⟩, ⟨by repeat (first | (with_reducible first | exact HB.out | apply below_alloc | apply pw_below_drewN | apply below_drew1) | exact HB.out)⟩⟩
 case rest =>
  clear HC6
  try clear c2
  try clear p2
  try clear c4
  try clear c7
  try clear c7b0
  try clear c8
  try clear c8b0
  try clear c9
  try clear c9b0
  obtain ⟨kq, x28_5, rfl, HA, HJ5, HB⟩ := hcut
  cases kq with
  | zero => exact absurd HA.out (by simp [cohousingref06_Check.j0])
  | succ kj5 =>
   have H := HA.out
   clear HA
   simp only [cohousingref06_Check.j0] at H
   by_cases c10 : x28_5 = true
   ·subst c10
    have H1 : (some false) = some r := by rw [if_pos rfl] at H; exact H
    clear H
    have H := H1
    clear H1
    obtain rfl := Option.some.inj H
    go_wp2
    go_ret
    exact ⟨by first | rfl | (simp [errW_none, errW_some] <;> rfl) | (simp [*, errW_none, errW_some] <;> rfl), by repeat (first | (with_reducible first | exact HB.out | apply below_alloc | apply pw_below_drewN | apply below_drew1) | exact HB.out)⟩
   ·replace c10 := Bool.eq_false_iff.mpr c10
    subst c10
    have H1 : ((cohousingref06_Leaf.f kj5 a1).bind fun t251 => (cohousingref06_Check.l0 kj5 a0 a2 a3 l4 t251 0)) = some r := by rw [if_neg (show ¬ (false = true) by decide)] at H; exact H
    clear H
    have H := H1
    clear H1
    replace H := Option.bind_eq_some_iff.mp H
    obtain ⟨t251, A110, H⟩ := H
    replace H : (cohousingref06_Check.l0 kj5 a0 a2 a3 l4 t251 0) = some r := H
    have A11 := Aside0.mk A110
    clear A110
    have H' := Aside0.mk H
    clear H
    go_wp2_with (first | ((with_reducible refine gate_callee (f := 33) rfl ?_); refine goesL_ (some 30) rfl rfl Tryd.func33 (by kernel_rfl) rfl #[.int .u64 a1] rfl (by (try simp only [List.map_toArray, List.map_cons, List.map_nil]); first | done | rfl | (simp only [List.length_drop, List.length_take]; rfl)) ?_; (with_reducible refine (cohousingref06_Leaf.calls kj5 a1 t251 _ A11.out).mono ?_); rintro e w12 ⟨rfl, hb⟩; refine ⟨_, rfl, ?_⟩; have n0_ := Aside0.mk (below_step (by repeat (first | (with_reducible first | exact HB.out | apply below_alloc | apply pw_below_drewN | apply below_drew1) | exact HB.out)) hb); clear HB; have HB := n0_; clear n0_; (try clear hb); (try clear hb2); (try clear hk); (try clear hi)))
    go_loopg [2, 3, 11, 12] kj5 (fun kq v2 v3 v11 v12 w' => ∃ (x2_2 : Int) (x3_2 : Int) (x11_2 : Int) (x12_2 : Int), v2 = .int .i64 x2_2 ∧ v3 = .int .i64 x3_2 ∧ v11 = .int .u64 x11_2 ∧ v12 = .int .i64 x12_2 ∧ Aside0 (cohousingref06_Check.l0 kq a0 x2_2 x3_2 l4 x11_2 x12_2 = some r) ∧ Aside0 (kq ≤ kj5) ∧ Aside0 (Below w.heap.size w w'))
    case atStart => exact ⟨(a2), (a3), (t251), (0), (by first | rfl | (simp; done) | (simp [*]; done)), (by first | rfl | (simp; done) | (simp [*]; done)), (by first | rfl | (simp; done) | (simp [*]; done)), (by first | rfl | (simp; done) | (simp [*]; done)), H', ⟨Nat.le_refl _⟩, ⟨by repeat (first | (with_reducible first | exact HB.out | apply below_alloc | apply pw_below_drewN | apply below_drew1) | exact HB.out)⟩⟩
    case round =>
     clear H'
     try clear c1
     try clear c2
     try clear p2
     try clear c3
     try clear c4
     try clear c7
     try clear c7b0
     try clear c8
     try clear c8b0
     try clear c9
     try clear c9b0
     try clear c10
     try clear p2
     obtain ⟨x2_2, x3_2, x11_2, x12_2, rfl, rfl, rfl, rfl, HA, HK2, HB⟩ := hrel
     cases gk with
     | zero => exact absurd HA.out (by simp [cohousingref06_Check.l0])
     | succ k2 =>
      have H := HA.out
      clear HA
      simp only [cohousingref06_Check.l0] at H
      by_cases c13 : x3_2 > 1
      ·rw [if_pos c13] at H
       have c13b0 : decide (1 < x3_2) = true := decide_eq_true c13
       clear c13
       have HC14 := Aside0.mk H
       clear H
       go_upto_region 6 with (fail)
       go_cut [13] (fun v13 wc => ∃ (kq : Nat) (x13_13 : Bool), v13 = .bool x13_13 ∧ Aside0 (cohousingref06_Check.j2 kq a0 x2_2 x3_2 l4 x11_2 x12_2 x13_13 = some r) ∧ Aside0 (kq ≤ k2) ∧ Aside0 (Below w.heap.size w wc))
       case first =>
        have H := HC14.out
        clear HC14
        by_cases c15 : (Int.tmod x2_2 2) = 1
        ·rw [if_pos c15] at H
         have c15b0 : ((Int.tmod x2_2 2) == 1) = true := beq_iff_eq.mpr c15
         have c15b1 : ((Int.tmod x2_2 2) != 1) = false := bne_eq_false_iff_eq.mpr c15
         clear c15
         (first | rw [c15b0] | (simp only [i64_w, i32_w]; rw [c15b0]) | skip)
         have H' := Aside0.mk H
         clear H
         go_wp2
         go_meet
         case rel => exact ⟨_, (true), (by first | rfl | (simp; done) | (simp [*]; done)), H', ⟨by have := HJ5.out; have := HK2.out; first | omega | exact Nat.le_refl _⟩, ⟨by repeat (first | (with_reducible first | exact HB.out | apply below_alloc | apply pw_below_drewN | apply below_drew1) | exact HB.out)⟩⟩
        ·rw [if_neg c15] at H
         have c15b0 : ((Int.tmod x2_2 2) == 1) = false := beq_eq_false_iff_ne.mpr c15
         have c15b1 : ((Int.tmod x2_2 2) != 1) = true := bne_iff_ne.mpr c15
         (first | rw [c15b0] | (simp only [i64_w, i32_w]; rw [c15b0]) | skip)
         have H' := Aside0.mk H
         clear H
         go_wp2
         go_meet
         case rel => exact ⟨_, (decide ((wrap64 (x2_2 + 1)) < x3_2)), (by first | rfl | (simp; done) | (simp [*]; done)), H', ⟨by have := HJ5.out; have := HK2.out; first | omega | exact Nat.le_refl _⟩, ⟨by repeat (first | (with_reducible first | exact HB.out | apply below_alloc | apply pw_below_drewN | apply below_drew1) | exact HB.out)⟩⟩
       case rest =>
        clear HC14
        try clear c1
        try clear c2
        try clear p2
        try clear c3
        try clear c4
        try clear p6
        try clear c7
        try clear c7b0
        try clear c8
        try clear c8b0
        try clear c9
        try clear c9b0
        try clear c10
        try clear c13
        try clear c13b0
        try clear c15
        try clear c15b0
        try clear c15b1
        try clear p2
        obtain ⟨kq, x13_13, rfl, HA, HJ13, HB⟩ := hcut
        cases kq with
        | zero => exact absurd HA.out (by simp [cohousingref06_Check.j2])
        | succ kj13 =>
         have H := HA.out
         clear HA
         simp only [cohousingref06_Check.j2] at H
         have HC16 := Aside0.mk H
         clear H
         go_upto_region 7 with (fail)
         go_cut [48] (fun v48 wc => ∃ (kq : Nat) (x48_15 : Bool), v48 = .bool x48_15 ∧ Aside0 (cohousingref06_Check.j3 kq a0 x2_2 x3_2 l4 x11_2 x12_2 x13_13 x48_15 = some r) ∧ Aside0 (kq ≤ kj13) ∧ Aside0 (Below w.heap.size w wc))
         case first =>
          have H := HC16.out
          clear HC16
          by_cases c17 : x13_13 = true
          ·subst c17
           have H1 : (cohousingref06_Check.j3 kj13 a0 x2_2 x3_2 l4 x11_2 x12_2 true (x12_2 == (l4.length : Int))) = some r := by rw [if_pos rfl] at H; exact H
           clear H
           have H := H1
           clear H1
           have H' := Aside0.mk H
           clear H
           go_wp2
           go_meet
           case rel => exact ⟨_, ((x12_2 == (l4.length : Int))), (by first | rfl | (simp; done) | (simp [*]; done)), H', ⟨by have := HJ5.out; have := HK2.out; have := HJ13.out; first | omega | exact Nat.le_refl _⟩, ⟨by repeat (first | (with_reducible first | exact HB.out | apply below_alloc | apply pw_below_drewN | apply below_drew1) | exact HB.out)⟩⟩
          ·replace c17 := Bool.eq_false_iff.mpr c17
           subst c17
           have H1 : (cohousingref06_Check.j3 kj13 a0 x2_2 x3_2 l4 x11_2 x12_2 false false) = some r := by rw [if_neg (show ¬ (false = true) by decide)] at H; exact H
           clear H
           have H := H1
           clear H1
           have H' := Aside0.mk H
           clear H
           go_wp2
           go_meet
           case rel => exact ⟨_, (false), (by first | rfl | (simp; done) | (simp [*]; done)), H', ⟨by have := HJ5.out; have := HK2.out; have := HJ13.out; first | omega | exact Nat.le_refl _⟩, ⟨by repeat (first | (with_reducible first | exact HB.out | apply below_alloc | apply pw_below_drewN | apply below_drew1) | exact HB.out)⟩⟩
         case rest =>
          clear HC16
          try clear c1
          try clear c2
          try clear p2
          try clear c3
          try clear c4
          try clear p6
          try clear c7
          try clear c7b0
          try clear c8
          try clear c8b0
          try clear c9
          try clear c9b0
          try clear c10
          try clear c13
          try clear c13b0
          try clear c15
          try clear c15b0
          try clear c15b1
          try clear c17
          try clear p2
          try clear p6
          obtain ⟨kq, x48_15, rfl, HA, HJ15, HB⟩ := hcut
          cases kq with
          | zero => exact absurd HA.out (by simp [cohousingref06_Check.j3])
          | succ kj15 =>
           have H := HA.out
           clear HA
           simp only [cohousingref06_Check.j3] at H
           by_cases c18 : x48_15 = true
           ·subst c18
            have H1 : (some false) = some r := by rw [if_pos rfl] at H; exact H
            clear H
            have H := H1
            clear H1
            obtain rfl := Option.some.inj H
            go_wp2
            go_ret
            exact ⟨by first | rfl | (simp [errW_none, errW_some] <;> rfl) | (simp [*, errW_none, errW_some] <;> rfl), by repeat (first | (with_reducible first | exact HB.out | apply below_alloc | apply pw_below_drewN | apply below_drew1) | exact HB.out)⟩
           ·replace c18 := Bool.eq_false_iff.mpr c18
            subst c18
            have H1 : (if x13_13 = true then (cohousingref06_Check.j4 kj15 a0 x2_2 x3_2 l4 x11_2 x12_2 x13_13 ((Int.tmod x2_2 2) == 1)) else (cohousingref06_Check.j4 kj15 a0 x2_2 x3_2 l4 x11_2 x12_2 x13_13 false)) = some r := by rw [if_neg (show ¬ (false = true) by decide)] at H; exact H
            clear H
            have H := H1
            clear H1
            have HC19 := Aside0.mk H
            clear H
            go_upto_region 9 with (fail)
            go_cut [54] (fun v54 wc => ∃ (kq : Nat) (x54_18 : Bool), v54 = .bool x54_18 ∧ Aside0 (cohousingref06_Check.j4 kq a0 x2_2 x3_2 l4 x11_2 x12_2 x13_13 x54_18 = some r) ∧ Aside0 (kq ≤ kj15) ∧ Aside0 (Below w.heap.size w wc))
            case first =>
             have H := HC19.out
             clear HC19
             by_cases c20 : x13_13 = true
             ·subst c20
              have H1 : (cohousingref06_Check.j4 kj15 a0 x2_2 x3_2 l4 x11_2 x12_2 true ((Int.tmod x2_2 2) == 1)) = some r := by rw [if_pos rfl] at H; exact H
              clear H
              have H := H1
              clear H1
              have H' := Aside0.mk H
              clear H
              go_wp2
              go_meet
              case rel => exact ⟨_, (((Int.tmod x2_2 2) == 1)), (by first | rfl | (simp; done) | (simp [*]; done)), H', ⟨by have := HJ5.out; have := HK2.out; have := HJ13.out; have := HJ15.out; first | omega | exact Nat.le_refl _⟩, ⟨by repeat (first | (with_reducible first | exact HB.out | apply below_alloc | apply pw_below_drewN | apply below_drew1) | exact HB.out)⟩⟩
             ·replace c20 := Bool.eq_false_iff.mpr c20
              subst c20
              have H1 : (cohousingref06_Check.j4 kj15 a0 x2_2 x3_2 l4 x11_2 x12_2 false false) = some r := by rw [if_neg (show ¬ (false = true) by decide)] at H; exact H
              clear H
              have H := H1
              clear H1
              have H' := Aside0.mk H
              clear H
              go_wp2
              go_meet
              case rel => exact ⟨_, (false), (by first | rfl | (simp; done) | (simp [*]; done)), H', ⟨by have := HJ5.out; have := HK2.out; have := HJ13.out; have := HJ15.out; first | omega | exact Nat.le_refl _⟩, ⟨by repeat (first | (with_reducible first | exact HB.out | apply below_alloc | apply pw_below_drewN | apply below_drew1) | exact HB.out)⟩⟩
            case rest =>
             clear HC19
             try clear c1
             try clear c2
             try clear p2
             try clear c3
             try clear c4
             try clear p6
             try clear c7
             try clear c7b0
             try clear c8
             try clear c8b0
             try clear c9
             try clear c9b0
             try clear c10
             try clear c13
             try clear c13b0
             try clear c15
             try clear c15b0
             try clear c15b1
             try clear c17
             try clear c18
             try clear c20
             try clear p2
             try clear p6
             obtain ⟨kq, x54_18, rfl, HA, HJ18, HB⟩ := hcut
             cases kq with
             | zero => exact absurd HA.out (by simp [cohousingref06_Check.j4])
             | succ kj18 =>
              have H := HA.out
              clear HA
              simp only [cohousingref06_Check.j4] at H
              by_cases c21 : x54_18 = true
              ·subst c21
               have H1 : (if 0 ≤ x12_2 then (if x12_2 < (l4.length : Int) then ((cohousingref06_Pair.f kj18 (rd l4 x12_2) x11_2).bind fun t253 => (if x13_13 = true then (cohousingref06_Check.l0 kj18 a0 (wrap64 (Int.tdiv x2_2 2)) (wrap64 (Int.tdiv (wrap64 (x3_2 + 1)) 2)) l4 t253 (wrap64 (x12_2 + 1))) else (cohousingref06_Check.l0 kj18 a0 (wrap64 (Int.tdiv x2_2 2)) (wrap64 (Int.tdiv (wrap64 (x3_2 + 1)) 2)) l4 t253 x12_2))) else (none)) else (none)) = some r := by rw [if_pos rfl] at H; exact H
               clear H
               have H := H1
               clear H1
               by_cases c22 : 0 ≤ x12_2
               ·rw [if_pos c22] at H
                have c22b0 : decide (0 ≤ x12_2) = true := decide_eq_true c22
                clear c22
                by_cases c23 : x12_2 < (l4.length : Int)
                ·rw [if_pos c23] at H
                 have c23b0 : decide (x12_2 < (l4.length : Int)) = true := decide_eq_true c23
                 clear c23
                 replace H := Option.bind_eq_some_iff.mp H
                 obtain ⟨t253, A240, H⟩ := H
                 replace H : (if x13_13 = true then (cohousingref06_Check.l0 kj18 a0 (wrap64 (Int.tdiv x2_2 2)) (wrap64 (Int.tdiv (wrap64 (x3_2 + 1)) 2)) l4 t253 (wrap64 (x12_2 + 1))) else (cohousingref06_Check.l0 kj18 a0 (wrap64 (Int.tdiv x2_2 2)) (wrap64 (Int.tdiv (wrap64 (x3_2 + 1)) 2)) l4 t253 x12_2)) = some r := H
                 have A24 := Aside0.mk A240
                 clear A240
                 by_cases c25 : x13_13 = true
                 ·subst c25
                  have H1 : (cohousingref06_Check.l0 kj18 a0 (wrap64 (Int.tdiv x2_2 2)) (wrap64 (Int.tdiv (wrap64 (x3_2 + 1)) 2)) l4 t253 (wrap64 (x12_2 + 1))) = some r := by rw [if_pos rfl] at H; exact H
                  clear H
                  have H := H1
                  clear H1
                  have H' := Aside0.mk H
                  clear H
                  have p252 : 0 ≤ (x12_2 : Int) := of_decide_eq_true (by first | (with_reducible assumption) | assumption)
                  have q252 : x12_2 < (l4.length : Int) := of_decide_eq_true (by first | (with_reducible assumption) | assumption)
                  obtain ⟨ad252, e252, hx252_0⟩ := Kd.at_int HR4.out x12_2 p252 q252
                  cases e252
                  replace hx252_0 := (HB.out.cell (World.block_lt_of_cell? w _ hx252_0)).trans hx252_0
                  replace p252 := eq_true p252
                  replace q252 := eq_true q252
                  go_wp2_with (first | ((with_reducible refine gate_callee (f := 34) rfl ?_); refine goesL_ (some 60) rfl rfl Tryd.func34 (by kernel_rfl) rfl #[.int .u64 (rd l4 x12_2), .int .u64 x11_2] rfl (by (try simp only [List.map_toArray, List.map_cons, List.map_nil]); first | done | rfl | (simp only [List.length_drop, List.length_take]; rfl)) ?_; (with_reducible refine (cohousingref06_Pair.calls kj18 (rd l4 x12_2) x11_2 t253 _ A24.out).mono ?_); rintro e w26 ⟨rfl, hb⟩; refine ⟨_, rfl, ?_⟩; have n0_ := Aside0.mk (below_step (by repeat (first | (with_reducible first | exact HB.out | apply below_alloc | apply pw_below_drewN | apply below_drew1) | exact HB.out)) hb); clear HB; have HB := n0_; clear n0_; (try clear hb); (try clear hb2); (try clear hk); (try clear hi)))
                  go_roundg kj18
                  case measure => have := HJ5.out; have := HK2.out; have := HJ13.out; have := HJ15.out; have := HJ18.out; omega
                  case rel => exact ⟨(wrap64 (Int.tdiv x2_2 2)), (wrap64 (Int.tdiv (wrap64 (x3_2 + 1)) 2)), (t253), (wrap64 (x12_2 + 1)), (by first | rfl | (simp; done) | (simp [*]; done)), (by first | rfl | (simp; done) | (simp [*]; done)), (by first | rfl | (simp; done) | (simp [*]; done)), (by first | rfl | (simp; done) | (simp [*]; done)), H', ⟨by have := HJ5.out; have := HK2.out; have := HJ13.out; have := HJ15.out; have := HJ18.out; omega⟩, ⟨by repeat (first | (with_reducible first | exact HB.out | apply below_alloc | apply pw_below_drewN | apply below_drew1) | exact HB.out)⟩⟩
                 ·replace c25 := Bool.eq_false_iff.mpr c25
                  subst c25
                  have H1 : (cohousingref06_Check.l0 kj18 a0 (wrap64 (Int.tdiv x2_2 2)) (wrap64 (Int.tdiv (wrap64 (x3_2 + 1)) 2)) l4 t253 x12_2) = some r := by rw [if_neg (show ¬ (false = true) by decide)] at H; exact H
                  clear H
                  have H := H1
                  clear H1
                  have H' := Aside0.mk H
                  clear H
                  have p252 : 0 ≤ (x12_2 : Int) := of_decide_eq_true (by first | (with_reducible assumption) | assumption)
                  have q252 : x12_2 < (l4.length : Int) := of_decide_eq_true (by first | (with_reducible assumption) | assumption)
                  obtain ⟨ad252, e252, hx252_0⟩ := Kd.at_int HR4.out x12_2 p252 q252
                  cases e252
                  replace hx252_0 := (HB.out.cell (World.block_lt_of_cell? w _ hx252_0)).trans hx252_0
                  replace p252 := eq_true p252
                  replace q252 := eq_true q252
                  go_wp2_with (first | ((with_reducible refine gate_callee (f := 34) rfl ?_); refine goesL_ (some 60) rfl rfl Tryd.func34 (by kernel_rfl) rfl #[.int .u64 (rd l4 x12_2), .int .u64 x11_2] rfl (by (try simp only [List.map_toArray, List.map_cons, List.map_nil]); first | done | rfl | (simp only [List.length_drop, List.length_take]; rfl)) ?_; (with_reducible refine (cohousingref06_Pair.calls kj18 (rd l4 x12_2) x11_2 t253 _ A24.out).mono ?_); rintro e w27 ⟨rfl, hb⟩; refine ⟨_, rfl, ?_⟩; have n0_ := Aside0.mk (below_step (by repeat (first | (with_reducible first | exact HB.out | apply below_alloc | apply pw_below_drewN | apply below_drew1) | exact HB.out)) hb); clear HB; have HB := n0_; clear n0_; (try clear hb); (try clear hb2); (try clear hk); (try clear hi)))
                  go_roundg kj18
                  case measure => have := HJ5.out; have := HK2.out; have := HJ13.out; have := HJ15.out; have := HJ18.out; omega
                  case rel => exact ⟨(wrap64 (Int.tdiv x2_2 2)), (wrap64 (Int.tdiv (wrap64 (x3_2 + 1)) 2)), (t253), (x12_2), (by first | rfl | (simp; done) | (simp [*]; done)), (by first | rfl | (simp; done) | (simp [*]; done)), (by first | rfl | (simp; done) | (simp [*]; done)), (by first | rfl | (simp; done) | (simp [*]; done)), H', ⟨by have := HJ5.out; have := HK2.out; have := HJ13.out; have := HJ15.out; have := HJ18.out; omega⟩, ⟨by repeat (first | (with_reducible first | exact HB.out | apply below_alloc | apply pw_below_drewN | apply below_drew1) | exact HB.out)⟩⟩
                ·rw [if_neg c23] at H
                 exact absurd H (by simp)
               ·rw [if_neg c22] at H
                exact absurd H (by simp)
              ·replace c21 := Bool.eq_false_iff.mpr c21
               subst c21
               have H1 : (if x13_13 = true then (if 0 ≤ x12_2 then (if x12_2 < (l4.length : Int) then ((cohousingref06_Pair.f kj18 x11_2 (rd l4 x12_2)).bind fun t255 => (cohousingref06_Check.l0 kj18 a0 (wrap64 (Int.tdiv x2_2 2)) (wrap64 (Int.tdiv (wrap64 (x3_2 + 1)) 2)) l4 t255 (wrap64 (x12_2 + 1)))) else (none)) else (none)) else (cohousingref06_Check.l0 kj18 a0 (wrap64 (Int.tdiv x2_2 2)) (wrap64 (Int.tdiv (wrap64 (x3_2 + 1)) 2)) l4 x11_2 x12_2)) = some r := by rw [if_neg (show ¬ (false = true) by decide)] at H; exact H
               clear H
               have H := H1
               clear H1
               by_cases c28 : x13_13 = true
               ·subst c28
                have H1 : (if 0 ≤ x12_2 then (if x12_2 < (l4.length : Int) then ((cohousingref06_Pair.f kj18 x11_2 (rd l4 x12_2)).bind fun t255 => (cohousingref06_Check.l0 kj18 a0 (wrap64 (Int.tdiv x2_2 2)) (wrap64 (Int.tdiv (wrap64 (x3_2 + 1)) 2)) l4 t255 (wrap64 (x12_2 + 1)))) else (none)) else (none)) = some r := by rw [if_pos rfl] at H; exact H
                clear H
                have H := H1
                clear H1
                by_cases c29 : 0 ≤ x12_2
                ·rw [if_pos c29] at H
                 have c29b0 : decide (0 ≤ x12_2) = true := decide_eq_true c29
                 clear c29
                 by_cases c30 : x12_2 < (l4.length : Int)
                 ·rw [if_pos c30] at H
                  have c30b0 : decide (x12_2 < (l4.length : Int)) = true := decide_eq_true c30
                  clear c30
                  replace H := Option.bind_eq_some_iff.mp H
                  obtain ⟨t255, A310, H⟩ := H
                  replace H : (cohousingref06_Check.l0 kj18 a0 (wrap64 (Int.tdiv x2_2 2)) (wrap64 (Int.tdiv (wrap64 (x3_2 + 1)) 2)) l4 t255 (wrap64 (x12_2 + 1))) = some r := H
                  have A31 := Aside0.mk A310
                  clear A310
                  have H' := Aside0.mk H
                  clear H
                  have p254 : 0 ≤ (x12_2 : Int) := of_decide_eq_true (by first | (with_reducible assumption) | assumption)
                  have q254 : x12_2 < (l4.length : Int) := of_decide_eq_true (by first | (with_reducible assumption) | assumption)
                  obtain ⟨ad254, e254, hx254_0⟩ := Kd.at_int HR4.out x12_2 p254 q254
                  cases e254
                  replace hx254_0 := (HB.out.cell (World.block_lt_of_cell? w _ hx254_0)).trans hx254_0
                  replace p254 := eq_true p254
                  replace q254 := eq_true q254
                  go_wp2_with (first | ((with_reducible refine gate_callee (f := 34) rfl ?_); refine goesL_ (some 67) rfl rfl Tryd.func34 (by kernel_rfl) rfl #[.int .u64 x11_2, .int .u64 (rd l4 x12_2)] rfl (by (try simp only [List.map_toArray, List.map_cons, List.map_nil]); first | done | rfl | (simp only [List.length_drop, List.length_take]; rfl)) ?_; (with_reducible refine (cohousingref06_Pair.calls kj18 x11_2 (rd l4 x12_2) t255 _ A31.out).mono ?_); rintro e w32 ⟨rfl, hb⟩; refine ⟨_, rfl, ?_⟩; have n0_ := Aside0.mk (below_step (by repeat (first | (with_reducible first | exact HB.out | apply below_alloc | apply pw_below_drewN | apply below_drew1) | exact HB.out)) hb); clear HB; have HB := n0_; clear n0_; (try clear hb); (try clear hb2); (try clear hk); (try clear hi)))
                  go_roundg kj18
                  case measure => have := HJ5.out; have := HK2.out; have := HJ13.out; have := HJ15.out; have := HJ18.out; omega
                  case rel => exact ⟨(wrap64 (Int.tdiv x2_2 2)), (wrap64 (Int.tdiv (wrap64 (x3_2 + 1)) 2)), (t255), (wrap64 (x12_2 + 1)), (by first | rfl | (simp; done) | (simp [*]; done)), (by first | rfl | (simp; done) | (simp [*]; done)), (by first | rfl | (simp; done) | (simp [*]; done)), (by first | rfl | (simp; done) | (simp [*]; done)), H', ⟨by have := HJ5.out; have := HK2.out; have := HJ13.out; have := HJ15.out; have := HJ18.out; omega⟩, ⟨by repeat (first | (with_reducible first | exact HB.out | apply below_alloc | apply pw_below_drewN | apply below_drew1) | exact HB.out)⟩⟩
                 ·rw [if_neg c30] at H
                  exact absurd H (by simp)
                ·rw [if_neg c29] at H
                 exact absurd H (by simp)
               ·replace c28 := Bool.eq_false_iff.mpr c28
                subst c28
                have H1 : (cohousingref06_Check.l0 kj18 a0 (wrap64 (Int.tdiv x2_2 2)) (wrap64 (Int.tdiv (wrap64 (x3_2 + 1)) 2)) l4 x11_2 x12_2) = some r := by rw [if_neg (show ¬ (false = true) by decide)] at H; exact H
                clear H
                have H := H1
                clear H1
                have H' := Aside0.mk H
                clear H
                go_wp2
                go_roundg kj18
                case measure => have := HJ5.out; have := HK2.out; have := HJ13.out; have := HJ15.out; have := HJ18.out; omega
                case rel => exact ⟨(wrap64 (Int.tdiv x2_2 2)), (wrap64 (Int.tdiv (wrap64 (x3_2 + 1)) 2)), (x11_2), (x12_2), (by first | rfl | (simp; done) | (simp [*]; done)), (by first | rfl | (simp; done) | (simp [*]; done)), (by first | rfl | (simp; done) | (simp [*]; done)), (by first | rfl | (simp; done) | (simp [*]; done)), H', ⟨by have := HJ5.out; have := HK2.out; have := HJ13.out; have := HJ15.out; have := HJ18.out; omega⟩, ⟨by repeat (first | (with_reducible first | exact HB.out | apply below_alloc | apply pw_below_drewN | apply below_drew1) | exact HB.out)⟩⟩
      ·rw [if_neg c13] at H
       have c13b0 : decide (1 < x3_2) = false := decide_eq_false c13
       clear c13
       by_cases c33 : x12_2 = (l4.length : Int)
       ·rw [if_pos c33] at H
        have c33b0 : (x12_2 == (l4.length : Int)) = true := beq_iff_eq.mpr c33
        have c33b1 : (x12_2 != (l4.length : Int)) = false := bne_eq_false_iff_eq.mpr c33
        clear c33
        obtain rfl := Option.some.inj H
        go_wp2
        go_ret
        exact ⟨by first | rfl | (simp [errW_none, errW_some] <;> rfl) | (simp [*, errW_none, errW_some] <;> rfl), by repeat (first | (with_reducible first | exact HB.out | apply below_alloc | apply pw_below_drewN | apply below_drew1) | exact HB.out)⟩
       ·rw [if_neg c33] at H
        have c33b0 : (x12_2 == (l4.length : Int)) = false := beq_eq_false_iff_ne.mpr c33
        have c33b1 : (x12_2 != (l4.length : Int)) = true := bne_iff_ne.mpr c33
        obtain rfl := Option.some.inj H
        go_wp2
        go_ret
        exact ⟨by first | rfl | (simp [errW_none, errW_some] <;> rfl) | (simp [*, errW_none, errW_some] <;> rfl), by repeat (first | (with_reducible first | exact HB.out | apply below_alloc | apply pw_below_drewN | apply below_drew1) | exact HB.out)⟩

end Go.Proofs.YtolgpnbjjehdiaaDoor.P
