-- Written by a program of this session out of the translation (wip/pp: the kit's print, turned). Not trusted: Lean checks it.
import Derived.Test.YtkdckjafhaadiaaDoorPz0
import Derived.Test.YtkdckjafhaadiaaDoorXleaf
namespace Go.Proofs.YtkdckjafhaadiaaDoor.Z
open Go.Proofs.YtkdckjafhaadiaaDoor.P
open Go.RowKit Go.Proofs.YtkdckjafhaadiaaDoorW.PrintWords Go.Proofs.YtkdckjafhaadiaaDoorW.PrintLast Go.Proofs.YtkdckjafhaadiaaDoorW.PrintMore
attribute [local go_sem] max2_int min2_int max_two min_two max_three min_three max_four min_four   -- for this text's walks alone
set_option linter.unusedVariables false
set_option linter.unusedSimpArgs false

-- an extern: function 59 (digest_leaf)

-- an extern: function 60 (digest_join)

/-! ### digest_Check: function 37 -/
mutual
def digest_Check.j0 : Nat → Int → Int → Int → Int → List Int → Bool → Option (Bool)
 | 0, _, _, _, _, _, _ => none
 | k + 1, x0, x1, x2, x3, x4, x26 => if x26 = true then (some false) else ((digest_leaf.f x1).bind fun t101 => (digest_Check.l0 k x0 x2 x3 x4 t101))
def digest_Check.l0 : Nat → Int → Int → Int → List Int → Int → Option (Bool)
 | 0, _, _, _, _, _ => none
 | k + 1, x0, x2, x3, x4, x11 => if x3 > 1 then (if (Go.bits .xor .i64 x2 1) ≥ x3 then (digest_Check.l0 k x0 (wrap64 (Int.tdiv x2 2)) (wrap64 (Int.tdiv (wrap64 (x3 + 1)) 2)) x4 x11) else (if (x4.length : Int) = 0 then (some false) else (if (Int.tmod x2 2) = 1 then (if 0 < (x4.length : Int) then ((digest_join.f (rd x4 0) x11).bind fun t103 => (if 1 ≤ (x4.length : Int) then (digest_Check.l0 k x0 (wrap64 (Int.tdiv x2 2)) (wrap64 (Int.tdiv (wrap64 (x3 + 1)) 2)) (x4.drop 1) t103) else (none))) else (none)) else (if 0 < (x4.length : Int) then ((digest_join.f x11 (rd x4 0)).bind fun t110 => (if 1 ≤ (x4.length : Int) then (digest_Check.l0 k x0 (wrap64 (Int.tdiv x2 2)) (wrap64 (Int.tdiv (wrap64 (x3 + 1)) 2)) (x4.drop 1) t110) else (none))) else (none))))) else (if (x4.length : Int) = 0 then (some (x11 == x0)) else (some false))
end
def digest_Check.f (k : Nat) (a0 : Int) (a1 : Int) (a2 : Int) (a3 : Int) (l4 : List Int) : Option (Bool) := if a3 < 1 then (digest_Check.j0 k a0 a1 a2 a3 l4 true) else (if a3 > 1024 then (digest_Check.j0 k a0 a1 a2 a3 l4 true) else (if a2 < 0 then (digest_Check.j0 k a0 a1 a2 a3 l4 true) else (digest_Check.j0 k a0 a1 a2 a3 l4 (decide (a2 ≥ a3)))))
theorem digest_Check.mono_l : ∀ k, (∀ y0 y1 y2 y3 y4 y5, LeO (digest_Check.j0 k y0 y1 y2 y3 y4 y5) (digest_Check.j0 (k + 1) y0 y1 y2 y3 y4 y5)) ∧ (∀ y0 y1 y2 y3 y4, LeO (digest_Check.l0 k y0 y1 y2 y3 y4) (digest_Check.l0 (k + 1) y0 y1 y2 y3 y4))
 | 0 => ⟨fun _ _ _ _ _ _ r h => by simp [digest_Check.j0] at h, fun _ _ _ _ _ r h => by simp [digest_Check.l0] at h⟩
 | k + 1 => by
  obtain ⟨ih0, ih1⟩ := digest_Check.mono_l k
  refine ⟨?_, ?_⟩
  ·intro y0 y1 y2 y3 y4 y5
   unfold digest_Check.j0
   repeat' first
   | (with_reducible exact ih0 _ _ _ _ _ _)
   | (with_reducible exact ih1 _ _ _ _ _)
   | (with_reducible exact LeO.refl _)
   | (with_reducible exact LeO.none _)
   | (with_reducible refine LeO.ite ?_ ?_)
   | (with_reducible refine LeO.bind ?_ (fun _ => ?_))
   | exact ih0 _ _ _ _ _ _
   | exact ih1 _ _ _ _ _
   | exact LeO.none _
   | refine LeO.ite ?_ ?_
   | refine LeO.bind ?_ (fun _ => ?_)
  ·intro y0 y1 y2 y3 y4
   unfold digest_Check.l0
   repeat' first
   | (with_reducible exact ih0 _ _ _ _ _ _)
   | (with_reducible exact ih1 _ _ _ _ _)
   | (with_reducible exact LeO.refl _)
   | (with_reducible exact LeO.none _)
   | (with_reducible refine LeO.ite ?_ ?_)
   | (with_reducible refine LeO.bind ?_ (fun _ => ?_))
   | exact ih0 _ _ _ _ _ _
   | exact ih1 _ _ _ _ _
   | exact LeO.none _
   | refine LeO.ite ?_ ?_
   | refine LeO.bind ?_ (fun _ => ?_)
theorem digest_Check.mono : ∀ a0 a1 a2 a3 a4 k, LeO (digest_Check.f k a0 a1 a2 a3 a4) (digest_Check.f (k + 1) a0 a1 a2 a3 a4) := by
 intro a0 a1 a2 a3 a4 k
 obtain ⟨ih0, ih1⟩ := digest_Check.mono_l k
 unfold digest_Check.f
 repeat' first
   | (with_reducible exact ih0 _ _ _ _ _ _)
   | (with_reducible exact ih1 _ _ _ _ _)
   | (with_reducible exact LeO.refl _)
   | (with_reducible exact LeO.none _)
   | (with_reducible refine LeO.ite ?_ ?_)
   | (with_reducible refine LeO.bind ?_ (fun _ => ?_))
   | exact ih0 _ _ _ _ _ _
   | exact ih1 _ _ _ _ _
   | exact LeO.none _
   | refine LeO.ite ?_ ?_
   | refine LeO.bind ?_ (fun _ => ?_)
set_option maxHeartbeats 8000000 in
set_option maxRecDepth 100000 in
theorem digest_Check.calls (k : Nat) (a0 : Int) (a1 : Int) (a2 : Int) (a3 : Int) (P4_ : Nat → Prop) (A4 : Option Addr) (c4 : Nat) (l4 : List Int) (r : Bool) (w : World) (hs4 : Kd.V (Kd.int .u64) 23 w w.heap.size (fun k_ => P4_ k_) (.slice A4 l4.length c4) l4) (h : digest_Check.f k a0 a1 a2 a3 l4 = some r) :
  Calls Tryd.prog 37 #[.int .u64 a0, .int .u64 a1, .int .i64 a2, .int .i64 a3, .slice A4 l4.length c4] w fun e w' => e = .returned (.bool r) ∧ Below w.heap.size w w' := by
 have HO4 := Aside0.mk (show Kd.V (Kd.int .u64) 23 w w.heap.size (fun k_ => (P4_ k_ ∨ w.heap.size ≤ k_)) (.slice A4 l4.length c4) l4 from Kd.V_mono hs4 (fun k_ hk => .inl hk))
 have HB := Aside0.mk (Below.refl w.heap.size w)
 have H : (if a3 < 1 then (digest_Check.j0 k a0 a1 a2 a3 l4 true) else (if a3 > 1024 then (digest_Check.j0 k a0 a1 a2 a3 l4 true) else (if a2 < 0 then (digest_Check.j0 k a0 a1 a2 a3 l4 true) else (digest_Check.j0 k a0 a1 a2 a3 l4 (decide (a2 ≥ a3)))))) = some r := h
 clear h
 have HC6 := Aside0.mk H
 clear H
 go_enter Tryd.func37, Tryd.ntmps37
 go_upto_region 1 with (fail)
 go_cut [26] (fun v26 wc => ∃ (kq : Nat) (x26_5 : Bool), v26 = .bool x26_5 ∧ Aside0 (digest_Check.j0 kq a0 a1 a2 a3 l4 x26_5 = some r) ∧ Aside0 (kq ≤ k) ∧ Aside0 (Kd.V (Kd.int .u64) 23 wc w.heap.size (fun k_ => (P4_ k_ ∨ w.heap.size ≤ k_)) (.slice A4 l4.length c4) l4) ∧ Aside0 (Below w.heap.size w wc))
 case first =>
  have H := HC6.out
  clear HC6
  by_cases c7 : a3 < 1
  ·rw [if_pos c7] at H
   have c7b0 : decide (a3 < 1) = true := decide_eq_true c7
   clear c7
   (first | rw [c7b0] | (simp only [i64_w, i32_w]; rw [c7b0]) | skip)
   have H' := Aside0.mk H
   clear H
   go_wp2
   go_meet
   case rel => exact ⟨_, (true), (by first | rfl | (simp; done) | (simp [*]; done)), H', ⟨by first | omega | exact Nat.le_refl _⟩, ⟨by (with_reducible repeat (first | apply Kd.V_alloc | apply Kd.V_drewN | apply Kd.V_drew)); exact HO4.out⟩, ⟨by repeat (first | (with_reducible first | exact HB.out | apply below_alloc | apply pw_below_drewN | apply below_drew1) | exact HB.out)⟩⟩
  ·rw [if_neg c7] at H
   have c7b0 : decide (a3 < 1) = false := decide_eq_false c7
   clear c7
   (first | rw [c7b0] | (simp only [i64_w, i32_w]; rw [c7b0]) | skip)
   by_cases c8 : a3 > 1024
   ·rw [if_pos c8] at H
    have c8b0 : decide (1024 < a3) = true := decide_eq_true c8
    clear c8
    have H' := Aside0.mk H
    clear H
    go_wp2
    go_meet
    case rel => exact ⟨_, (true), (by first | rfl | (simp; done) | (simp [*]; done)), H', ⟨by first | omega | exact Nat.le_refl _⟩, ⟨by (with_reducible repeat (first | apply Kd.V_alloc | apply Kd.V_drewN | apply Kd.V_drew)); exact HO4.out⟩, ⟨by repeat (first | (with_reducible first | exact HB.out | apply below_alloc | apply pw_below_drewN | apply below_drew1) | exact HB.out)⟩⟩
   ·rw [if_neg c8] at H
    have c8b0 : decide (1024 < a3) = false := decide_eq_false c8
    clear c8
    by_cases c9 : a2 < 0
    ·rw [if_pos c9] at H
     have c9b0 : decide (a2 < 0) = true := decide_eq_true c9
     clear c9
     have H' := Aside0.mk H
     clear H
     go_wp2
     go_meet
     case rel => exact ⟨_, (true), (by first | rfl | (simp; done) | (simp [*]; done)), H', ⟨by first | omega | exact Nat.le_refl _⟩, ⟨by (with_reducible repeat (first | apply Kd.V_alloc | apply Kd.V_drewN | apply Kd.V_drew)); exact HO4.out⟩, ⟨by repeat (first | (with_reducible first | exact HB.out | apply below_alloc | apply pw_below_drewN | apply below_drew1) | exact HB.out)⟩⟩
    ·rw [if_neg c9] at H
     have c9b0 : decide (a2 < 0) = false := decide_eq_false c9
     clear c9
     have H' := Aside0.mk H
     clear H
     go_wp2
     go_meet
     case rel => exact ⟨_, (decide (a2 ≥ a3)), (by first | rfl | (simp; done) | (simp [*]; done)), H', ⟨by first | omega | exact Nat.le_refl _⟩, ⟨by (with_reducible repeat (first | apply Kd.V_alloc | apply Kd.V_drewN | apply Kd.V_drew)); exact HO4.out⟩, ⟨by repeat (first | (with_reducible first | exact HB.out | apply below_alloc | apply pw_below_drewN | apply below_drew1) | exact HB.out)⟩⟩
 case rest =>
  clear HC6
  try clear p2
  try clear c3
  try clear c4
  try clear c7
  try clear c7b0
  try clear c8
  try clear c8b0
  try clear c9
  try clear c9b0
  obtain ⟨kq, x26_5, rfl, HA, HJ5, HO_4, HB⟩ := hcut
  cases kq with
  | zero => exact absurd HA.out (by simp [digest_Check.j0])
  | succ kj5 =>
   have H := HA.out
   clear HA
   simp only [digest_Check.j0] at H
   by_cases c10 : x26_5 = true
   ·subst c10
    have H1 : (some false) = some r := by rw [if_pos rfl] at H; exact H
    clear H
    have H := H1
    clear H1
    obtain rfl := Option.some.inj H
    go_wp2
    go_ret
    exact ⟨by first | rfl | (simp [errW_none, errW_some] <;> rfl) | (simp [*, errW_none, errW_some] <;> rfl), by repeat (first | (with_reducible first | exact HB.out | apply below_alloc | apply pw_below_drewN | apply below_drew1) | exact HB.out)⟩
   ·replace c10 := Bool.eq_false_iff.mpr c10
    subst c10
    have H1 : ((digest_leaf.f a1).bind fun t101 => (digest_Check.l0 kj5 a0 a2 a3 l4 t101)) = some r := by rw [if_neg (show ¬ (false = true) by decide)] at H; exact H
    clear H
    have H := H1
    clear H1
    replace H := Option.bind_eq_some_iff.mp H
    obtain ⟨t101, A110, H⟩ := H
    replace H : (digest_Check.l0 kj5 a0 a2 a3 l4 t101) = some r := H
    have A11 := Aside0.mk A110
    clear A110
    have H' := Aside0.mk H
    clear H
    go_wp2_with (first | ((with_reducible refine gate_callee (f := 59) rfl ?_); refine goesL_ (some 28) rfl rfl Tryd.func59 (by kernel_rfl) rfl #[.int .u64 a1] rfl (by (try simp only [List.map_toArray, List.map_cons, List.map_nil]); first | done | rfl | (simp only [List.length_drop, List.length_take]; rfl)) ?_; (with_reducible refine (digest_leaf.calls a1 t101 _ A11.out).mono ?_); rintro e w12 ⟨rfl, hb⟩; refine ⟨_, rfl, ?_⟩; have n0_ := Aside0.mk (Kd.V_below (by (with_reducible repeat (first | apply Kd.V_alloc | apply Kd.V_drewN | apply Kd.V_drew)); exact HO_4.out) hb); have n1_ := Aside0.mk (below_step (by repeat (first | (with_reducible first | exact HB.out | apply below_alloc | apply pw_below_drewN | apply below_drew1) | exact HB.out)) hb); clear HO_4; clear HB; have HO_4 := n0_; have HB := n1_; clear n0_ n1_; (try clear hb); (try clear hb2); (try clear hk); (try clear hi)))
    go_loopg [2, 3, 4, 11] kj5 (fun kq v2 v3 v4 v11 w' => ∃ (x2_2 : Int) (x3_2 : Int) (x4_2 : List Int) (x11_2 : Int), v2 = .int .i64 x2_2 ∧ v3 = .int .i64 x3_2 ∧ v11 = .int .u64 x11_2 ∧ Aside0 (digest_Check.l0 kq a0 x2_2 x3_2 x4_2 x11_2 = some r) ∧ Aside0 (kq ≤ kj5) ∧ Aside0 (Kd.V (Kd.int .u64) 23 w' w.heap.size (fun k_ => (P4_ k_ ∨ w.heap.size ≤ k_)) v4 x4_2) ∧ Aside0 (Below w.heap.size w w'))
    case atStart => exact ⟨(a2), (a3), (l4), (t101), (by first | rfl | (simp; done) | (simp [*]; done)), (by first | rfl | (simp; done) | (simp [*]; done)), (by first | rfl | (simp; done) | (simp [*]; done)), H', ⟨Nat.le_refl _⟩, ⟨by (with_reducible repeat (first | apply Kd.V_alloc | apply Kd.V_drewN | apply Kd.V_drew)); exact HO_4.out⟩, ⟨by repeat (first | (with_reducible first | exact HB.out | apply below_alloc | apply pw_below_drewN | apply below_drew1) | exact HB.out)⟩⟩
    case round =>
     clear H'
     try clear c1
     try clear p2
     try clear c3
     try clear c4
     try clear c5
     try clear c7
     try clear c7b0
     try clear c8
     try clear c8b0
     try clear c9
     try clear c9b0
     try clear c10
     try clear p2
     obtain ⟨x2_2, x3_2, x4_2, x11_2, rfl, rfl, rfl, HA, HK2, HO_4, HB⟩ := hrel
     cases gk with
     | zero => exact absurd HA.out (by simp [digest_Check.l0])
     | succ k2 =>
      have H := HA.out
      clear HA
      simp only [digest_Check.l0] at H
      by_cases c13 : x3_2 > 1
      ·rw [if_pos c13] at H
       have c13b0 : decide (1 < x3_2) = true := decide_eq_true c13
       clear c13
       by_cases c14 : (Go.bits .xor .i64 x2_2 1) ≥ x3_2
       ·rw [if_pos c14] at H
        have c14b0 : decide (x3_2 ≤ (Go.bits .xor .i64 x2_2 1)) = true := decide_eq_true c14
        clear c14
        have H' := Aside0.mk H
        clear H
        go_wp2
        go_roundg k2
        case measure => have := HJ5.out; have := HK2.out; omega
        case rel => exact ⟨(wrap64 (Int.tdiv x2_2 2)), (wrap64 (Int.tdiv (wrap64 (x3_2 + 1)) 2)), (x4_2), (x11_2), (by first | rfl | (simp; done) | (simp [*]; done)), (by first | rfl | (simp; done) | (simp [*]; done)), (by first | rfl | (simp; done) | (simp [*]; done)), H', ⟨by have := HJ5.out; have := HK2.out; omega⟩, ⟨by (with_reducible repeat (first | apply Kd.V_alloc | apply Kd.V_drewN | apply Kd.V_drew)); exact HO_4.out⟩, ⟨by repeat (first | (with_reducible first | exact HB.out | apply below_alloc | apply pw_below_drewN | apply below_drew1) | exact HB.out)⟩⟩
       ·rw [if_neg c14] at H
        have c14b0 : decide (x3_2 ≤ (Go.bits .xor .i64 x2_2 1)) = false := decide_eq_false c14
        clear c14
        by_cases c15 : (x4_2.length : Int) = 0
        ·rw [if_pos c15] at H
         have c15b0 : ((x4_2.length : Int) == 0) = true := beq_iff_eq.mpr c15
         have c15b1 : ((x4_2.length : Int) != 0) = false := bne_eq_false_iff_eq.mpr c15
         clear c15
         obtain rfl := Option.some.inj H
         obtain ⟨Ao16, co16, eo16⟩ := Kd.V_slice HO_4.out
         subst eo16
         go_wp2
         go_ret
         exact ⟨by first | rfl | (simp [errW_none, errW_some] <;> rfl) | (simp [*, errW_none, errW_some] <;> rfl), by repeat (first | (with_reducible first | exact HB.out | apply below_alloc | apply pw_below_drewN | apply below_drew1) | exact HB.out)⟩
        ·rw [if_neg c15] at H
         have c15b0 : ((x4_2.length : Int) == 0) = false := beq_eq_false_iff_ne.mpr c15
         have c15b1 : ((x4_2.length : Int) != 0) = true := bne_iff_ne.mpr c15
         have c15b2 : ¬ (x4_2 = []) := fun h_ => c15 (by rw [h_]; rfl)
         by_cases c17 : (Int.tmod x2_2 2) = 1
         ·rw [if_pos c17] at H
          have c17b0 : ((Int.tmod x2_2 2) == 1) = true := beq_iff_eq.mpr c17
          have c17b1 : ((Int.tmod x2_2 2) != 1) = false := bne_eq_false_iff_eq.mpr c17
          clear c17
          by_cases c18 : 0 < (x4_2.length : Int)
          ·rw [if_pos c18] at H
           have c18b0 : decide (0 < (x4_2.length : Int)) = true := decide_eq_true c18
           have c18b1 : decide (0 < x4_2.length) = true := decide_eq_true (by omega)
           clear c18
           replace H := Option.bind_eq_some_iff.mp H
           obtain ⟨t103, A190, H⟩ := H
           replace H : (if 1 ≤ (x4_2.length : Int) then (digest_Check.l0 k2 a0 (wrap64 (Int.tdiv x2_2 2)) (wrap64 (Int.tdiv (wrap64 (x3_2 + 1)) 2)) (x4_2.drop 1) t103) else (none)) = some r := H
           have A19 := Aside0.mk A190
           clear A190
           by_cases c20 : 1 ≤ (x4_2.length : Int)
           ·rw [if_pos c20] at H
            have c20b0 := eq_true c20
            have c20b1 : decide (1 ≤ (x4_2.length : Int)) = true := decide_eq_true c20
            clear c20
            obtain ⟨y104, hy104⟩ : ∃ y_ : List Int, y_ = (x4_2.drop 1) := ⟨_, rfl⟩
            replace H : (digest_Check.l0 k2 a0 (wrap64 (Int.tdiv x2_2 2)) (wrap64 (Int.tdiv (wrap64 (x3_2 + 1)) 2)) y104 t103) = some r := by first | (rw [hy104]; with_reducible exact H) | (have H2_ := (Option.bind_some _ _).symm.trans H; rw [hy104]; with_reducible exact H2_) | (have H2_ := (Option.bind_some _ _).symm.trans H; with_reducible exact H2_) | with_reducible exact H | (rw [hy104]; exact H) | exact H
            have Ny104 := Aside0.mk hy104
            clear hy104
            have H' := Aside0.mk H
            clear H
            obtain ⟨Ao21, co21, eo21⟩ := Kd.V_slice HO_4.out
            subst eo21
            have p102 : 0 ≤ (0 : Int) := (by omega)
            have q102 : 0 < (x4_2.length : Int) := of_decide_eq_true (by first | (with_reducible assumption) | assumption)
            obtain ⟨ad102, e102, hx102_0⟩ := Kd.at_int (Kd.V_reads' HO_4.out).2.2 0 p102 q102
            cases e102
            have qi102 : (0 < x4_2.length) = True := eq_true (by omega)
            (try rw [show ((0 : Int)).toNat = 0 from rfl] at hx102_0)
            (try rw [Addr.add_zero'] at hx102_0)
            replace p102 := eq_true p102
            replace q102 := eq_true q102
            go_wp2_with (first | ((with_reducible refine gate_callee (f := 60) rfl ?_); refine goesL_ (some 50) rfl rfl Tryd.func60 (by kernel_rfl) rfl #[.int .u64 (rd x4_2 0), .int .u64 x11_2] rfl (by (try simp only [List.map_toArray, List.map_cons, List.map_nil]); first | done | rfl | (simp only [List.length_drop, List.length_take]; rfl)) ?_; (with_reducible refine (digest_join.calls (rd x4_2 0) x11_2 t103 _ A19.out).mono ?_); rintro e w22 ⟨rfl, hb⟩; refine ⟨_, rfl, ?_⟩; have n0_ := Aside0.mk (Kd.V_below (by (with_reducible repeat (first | apply Kd.V_alloc | apply Kd.V_drewN | apply Kd.V_drew)); exact HO_4.out) hb); have n1_ := Aside0.mk (below_step (by repeat (first | (with_reducible first | exact HB.out | apply below_alloc | apply pw_below_drewN | apply below_drew1) | exact HB.out)) hb); clear HO_4; clear HB; have HO_4 := n0_; have HB := n1_; clear n0_ n1_; (try clear hb); (try clear hb2); (try clear hk); (try clear hi); have q23 : (1 : Int) ≤ ((x4_2.length : Int) : Int) := of_decide_eq_true (by first | (with_reducible assumption) | assumption); obtain ⟨i023, hi023, _, hsz23, _⟩ := info_parts info23; have hroom23 : x4_2.length ≤ co21 := (Kd.V_reads' HO_4.out).2.1; have hC23 : Kd.F (Kd.int .u64) _ _ (some ad102) x4_2.length x4_2 := (Kd.V_at (base := w.heap.size) HO_4.out).2.2; have hcut23 := cut_from (P := Tryd.prog) 33 23 .i64 Tryd.underlying33 hi023 1 hsz23 (some ad102) x4_2.length co21 1 (by omega) q23; have hr23 := Kd.F_cut (m := (1 : Int).toNat) (c := co21) hC23 (by omega) hroom23; obtain ⟨A23, hA23⟩ : ∃ A1, A1 = (if co21 = (1 : Int).toNat then (some ad102) else ((some ad102) : Option Addr).map (·.add ((1 : Int).toNat * 1))) := ⟨_, rfl⟩; obtain ⟨c23, hc23⟩ : ∃ c1, c1 = co21 - (1 : Int).toNat := ⟨_, rfl⟩; have hy23 : y104.length = x4_2.length - (1 : Int).toNat := (by rw [Ny104.out, List.length_drop] <;> omega); rw [show (x4_2).drop (1 : Int).toNat = y104 from Ny104.out.symm] at hr23; replace hr23 : Kd.F (Kd.int .u64) _ _ A23 y104.length y104 := (by rw [hA23]; exact hr23); rw [← hy23, ← hA23, ← hc23] at hcut23; have HO108 := Aside0.mk (show Kd.V (Kd.int .u64) 23 _ w.heap.size _ (.slice A23 y104.length c23) y104 from Kd.V_mk (by rw [hy23, hc23]; exact Nat.sub_le_sub_right hroom23 _) hr23); have HC108 := Aside0.mk (show y104.length ≤ c23 from by rw [hy23, hc23]; exact Nat.sub_le_sub_right hroom23 _); clear hr23 hC23 hroom23 hi023 hsz23 hc23; have KY23 := Aside0.mk hy23; have KA23 := Aside0.mk hA23; clear hy23 hA23; replace q23 := eq_true q23))
            go_roundg k2
            case measure => have := HJ5.out; have := HK2.out; omega
            case rel => exact ⟨(wrap64 (Int.tdiv x2_2 2)), (wrap64 (Int.tdiv (wrap64 (x3_2 + 1)) 2)), (y104), (t103), (by first | rfl | (simp; done) | (simp [*]; done)), (by first | rfl | (simp; done) | (simp [*]; done)), (by first | rfl | (simp; done) | (simp [*]; done)), H', ⟨by have := HJ5.out; have := HK2.out; omega⟩, ⟨by (with_reducible repeat (first | apply Kd.V_alloc | apply Kd.V_drewN | apply Kd.V_drew)); exact HO108.out⟩, ⟨by repeat (first | (with_reducible first | exact HB.out | apply below_alloc | apply pw_below_drewN | apply below_drew1) | exact HB.out)⟩⟩
           ·rw [if_neg c20] at H
            exact absurd H (by simp)
          ·rw [if_neg c18] at H
           exact absurd H (by simp)
         ·rw [if_neg c17] at H
          have c17b0 : ((Int.tmod x2_2 2) == 1) = false := beq_eq_false_iff_ne.mpr c17
          have c17b1 : ((Int.tmod x2_2 2) != 1) = true := bne_iff_ne.mpr c17
          by_cases c24 : 0 < (x4_2.length : Int)
          ·rw [if_pos c24] at H
           have c24b0 : decide (0 < (x4_2.length : Int)) = true := decide_eq_true c24
           have c24b1 : decide (0 < x4_2.length) = true := decide_eq_true (by omega)
           clear c24
           replace H := Option.bind_eq_some_iff.mp H
           obtain ⟨t110, A250, H⟩ := H
           replace H : (if 1 ≤ (x4_2.length : Int) then (digest_Check.l0 k2 a0 (wrap64 (Int.tdiv x2_2 2)) (wrap64 (Int.tdiv (wrap64 (x3_2 + 1)) 2)) (x4_2.drop 1) t110) else (none)) = some r := H
           have A25 := Aside0.mk A250
           clear A250
           by_cases c26 : 1 ≤ (x4_2.length : Int)
           ·rw [if_pos c26] at H
            have c26b0 := eq_true c26
            have c26b1 : decide (1 ≤ (x4_2.length : Int)) = true := decide_eq_true c26
            clear c26
            obtain ⟨y111, hy111⟩ : ∃ y_ : List Int, y_ = (x4_2.drop 1) := ⟨_, rfl⟩
            replace H : (digest_Check.l0 k2 a0 (wrap64 (Int.tdiv x2_2 2)) (wrap64 (Int.tdiv (wrap64 (x3_2 + 1)) 2)) y111 t110) = some r := by first | (rw [hy111]; with_reducible exact H) | (have H2_ := (Option.bind_some _ _).symm.trans H; rw [hy111]; with_reducible exact H2_) | (have H2_ := (Option.bind_some _ _).symm.trans H; with_reducible exact H2_) | with_reducible exact H | (rw [hy111]; exact H) | exact H
            have Ny111 := Aside0.mk hy111
            clear hy111
            have H' := Aside0.mk H
            clear H
            obtain ⟨Ao27, co27, eo27⟩ := Kd.V_slice HO_4.out
            subst eo27
            have p109 : 0 ≤ (0 : Int) := (by omega)
            have q109 : 0 < (x4_2.length : Int) := of_decide_eq_true (by first | (with_reducible assumption) | assumption)
            obtain ⟨ad109, e109, hx109_0⟩ := Kd.at_int (Kd.V_reads' HO_4.out).2.2 0 p109 q109
            cases e109
            have qi109 : (0 < x4_2.length) = True := eq_true (by omega)
            (try rw [show ((0 : Int)).toNat = 0 from rfl] at hx109_0)
            (try rw [Addr.add_zero'] at hx109_0)
            replace p109 := eq_true p109
            replace q109 := eq_true q109
            go_wp2_with (first | ((with_reducible refine gate_callee (f := 60) rfl ?_); refine goesL_ (some 55) rfl rfl Tryd.func60 (by kernel_rfl) rfl #[.int .u64 x11_2, .int .u64 (rd x4_2 0)] rfl (by (try simp only [List.map_toArray, List.map_cons, List.map_nil]); first | done | rfl | (simp only [List.length_drop, List.length_take]; rfl)) ?_; (with_reducible refine (digest_join.calls x11_2 (rd x4_2 0) t110 _ A25.out).mono ?_); rintro e w28 ⟨rfl, hb⟩; refine ⟨_, rfl, ?_⟩; have n0_ := Aside0.mk (Kd.V_below (by (with_reducible repeat (first | apply Kd.V_alloc | apply Kd.V_drewN | apply Kd.V_drew)); exact HO_4.out) hb); have n1_ := Aside0.mk (below_step (by repeat (first | (with_reducible first | exact HB.out | apply below_alloc | apply pw_below_drewN | apply below_drew1) | exact HB.out)) hb); clear HO_4; clear HB; have HO_4 := n0_; have HB := n1_; clear n0_ n1_; (try clear hb); (try clear hb2); (try clear hk); (try clear hi); have q29 : (1 : Int) ≤ ((x4_2.length : Int) : Int) := of_decide_eq_true (by first | (with_reducible assumption) | assumption); obtain ⟨i029, hi029, _, hsz29, _⟩ := info_parts info23; have hroom29 : x4_2.length ≤ co27 := (Kd.V_reads' HO_4.out).2.1; have hC29 : Kd.F (Kd.int .u64) _ _ (some ad109) x4_2.length x4_2 := (Kd.V_at (base := w.heap.size) HO_4.out).2.2; have hcut29 := cut_from (P := Tryd.prog) 33 23 .i64 Tryd.underlying33 hi029 1 hsz29 (some ad109) x4_2.length co27 1 (by omega) q29; have hr29 := Kd.F_cut (m := (1 : Int).toNat) (c := co27) hC29 (by omega) hroom29; obtain ⟨A29, hA29⟩ : ∃ A1, A1 = (if co27 = (1 : Int).toNat then (some ad109) else ((some ad109) : Option Addr).map (·.add ((1 : Int).toNat * 1))) := ⟨_, rfl⟩; obtain ⟨c29, hc29⟩ : ∃ c1, c1 = co27 - (1 : Int).toNat := ⟨_, rfl⟩; have hy29 : y111.length = x4_2.length - (1 : Int).toNat := (by rw [Ny111.out, List.length_drop] <;> omega); rw [show (x4_2).drop (1 : Int).toNat = y111 from Ny111.out.symm] at hr29; replace hr29 : Kd.F (Kd.int .u64) _ _ A29 y111.length y111 := (by rw [hA29]; exact hr29); rw [← hy29, ← hA29, ← hc29] at hcut29; have HO115 := Aside0.mk (show Kd.V (Kd.int .u64) 23 _ w.heap.size _ (.slice A29 y111.length c29) y111 from Kd.V_mk (by rw [hy29, hc29]; exact Nat.sub_le_sub_right hroom29 _) hr29); have HC115 := Aside0.mk (show y111.length ≤ c29 from by rw [hy29, hc29]; exact Nat.sub_le_sub_right hroom29 _); clear hr29 hC29 hroom29 hi029 hsz29 hc29; have KY29 := Aside0.mk hy29; have KA29 := Aside0.mk hA29; clear hy29 hA29; replace q29 := eq_true q29))
            go_roundg k2
            case measure => have := HJ5.out; have := HK2.out; omega
            case rel => exact ⟨(wrap64 (Int.tdiv x2_2 2)), (wrap64 (Int.tdiv (wrap64 (x3_2 + 1)) 2)), (y111), (t110), (by first | rfl | (simp; done) | (simp [*]; done)), (by first | rfl | (simp; done) | (simp [*]; done)), (by first | rfl | (simp; done) | (simp [*]; done)), H', ⟨by have := HJ5.out; have := HK2.out; omega⟩, ⟨by (with_reducible repeat (first | apply Kd.V_alloc | apply Kd.V_drewN | apply Kd.V_drew)); exact HO115.out⟩, ⟨by repeat (first | (with_reducible first | exact HB.out | apply below_alloc | apply pw_below_drewN | apply below_drew1) | exact HB.out)⟩⟩
           ·rw [if_neg c26] at H
            exact absurd H (by simp)
          ·rw [if_neg c24] at H
           exact absurd H (by simp)
      ·rw [if_neg c13] at H
       have c13b0 : decide (1 < x3_2) = false := decide_eq_false c13
       clear c13
       by_cases c30 : (x4_2.length : Int) = 0
       ·rw [if_pos c30] at H
        have c30b0 : ((x4_2.length : Int) == 0) = true := beq_iff_eq.mpr c30
        have c30b1 : ((x4_2.length : Int) != 0) = false := bne_eq_false_iff_eq.mpr c30
        clear c30
        obtain rfl := Option.some.inj H
        obtain ⟨Ao31, co31, eo31⟩ := Kd.V_slice HO_4.out
        subst eo31
        go_wp2
        go_ret
        exact ⟨by first | rfl | (simp [errW_none, errW_some] <;> rfl) | (simp [*, errW_none, errW_some] <;> rfl), by repeat (first | (with_reducible first | exact HB.out | apply below_alloc | apply pw_below_drewN | apply below_drew1) | exact HB.out)⟩
       ·rw [if_neg c30] at H
        have c30b0 : ((x4_2.length : Int) == 0) = false := beq_eq_false_iff_ne.mpr c30
        have c30b1 : ((x4_2.length : Int) != 0) = true := bne_iff_ne.mpr c30
        have c30b2 : ¬ (x4_2 = []) := fun h_ => c30 (by rw [h_]; rfl)
        obtain rfl := Option.some.inj H
        obtain ⟨Ao32, co32, eo32⟩ := Kd.V_slice HO_4.out
        subst eo32
        go_wp2
        go_ret
        exact ⟨by first | rfl | (simp [errW_none, errW_some] <;> rfl) | (simp [*, errW_none, errW_some] <;> rfl), by repeat (first | (with_reducible first | exact HB.out | apply below_alloc | apply pw_below_drewN | apply below_drew1) | exact HB.out)⟩

end Go.Proofs.YtkdckjafhaadiaaDoor.Z
