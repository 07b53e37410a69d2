-- Written by a program of this session out of the translation (wip/pp: the kit's print, turned). Not trusted: Lean checks it.
import Derived.Test.YtimcknjodeikmaaDoorPx0
import Derived.Test.YtimcknjodeikmaaDoorPx2
import Derived.Test.YtimcknjodeikmaaDoorPx5
namespace Go.Proofs.YtimcknjodeikmaaDoor.P
open Go.RowKit Go.Proofs.YtimcknjodeikmaaDoorW.PrintWords Go.Proofs.YtimcknjodeikmaaDoorW.PrintLast Go.Proofs.YtimcknjodeikmaaDoorW.PrintMore
attribute [local go_sem] max2_int min2_int max_two min_two max_three min_three max_four min_four   -- for this text's walks alone
set_option linter.unusedVariables false
set_option linter.unusedSimpArgs false

/-! ### cohousingref08_Element: function 28 -/
def cohousingref08_Element.f (k : Nat) (a0 : Int) : Option (Int) := (cohousingref08_Power.f k 4 (wrap64 (Int.tmod a0 1073741789)) 2147483579).bind fun t352 => (some t352)
theorem cohousingref08_Element.mono : ∀ a0 k, LeO (cohousingref08_Element.f k a0) (cohousingref08_Element.f (k + 1) a0) := by
 intro a0 k
 unfold cohousingref08_Element.f
 repeat' first
   | (with_reducible exact cohousingref08_Power.mono _ _ _ _)
   | (with_reducible exact LeO.refl _)
   | (with_reducible exact LeO.none _)
   | (with_reducible refine LeO.ite ?_ ?_)
   | (with_reducible refine LeO.bind ?_ (fun _ => ?_))
   | exact cohousingref08_Power.mono _ _ _ _
   | exact LeO.none _
   | refine LeO.ite ?_ ?_
   | refine LeO.bind ?_ (fun _ => ?_)
set_option maxHeartbeats 8000000 in
set_option maxRecDepth 100000 in
theorem cohousingref08_Element.calls (k : Nat) (a0 : Int) (r : Int) (w : World) (h : cohousingref08_Element.f k a0 = some r) :
  Calls Tryd.prog 28 #[.int .u64 a0] w fun e w' => e = .returned (.int .i64 r) ∧ Drawn0 w w' := by
 have H : ((cohousingref08_Power.f k 4 (wrap64 (Int.tmod a0 1073741789)) 2147483579).bind fun t352 => (some t352)) = some r := h
 clear h
 replace H := Option.bind_eq_some_iff.mp H
 obtain ⟨t352, A20, H⟩ := H
 replace H : (some t352) = some r := H
 have A2 := Aside0.mk A20
 clear A20
 obtain rfl := Option.some.inj H
 go_enter Tryd.func28, Tryd.ntmps28
 go_wp2_with (first | ((with_reducible refine gate_callee (f := 29) rfl ?_); refine goesL_ (some 6) rfl rfl Tryd.func29 (by kernel_rfl) rfl #[.int .i64 4, .int .i64 (wrap64 (Int.tmod a0 1073741789)), .int .i64 2147483579] rfl (by (try simp only [List.map_toArray, List.map_cons, List.map_nil]); first | done | rfl | (simp only [List.length_drop, List.length_take]; rfl)) ?_; (with_reducible refine (cohousingref08_Power.calls k 4 (wrap64 (Int.tmod a0 1073741789)) 2147483579 t352 _ A2.out).mono ?_); rintro e w' ⟨rfl, ⟨nd, rfl⟩⟩; refine ⟨_, rfl, ?_⟩))
 go_ret
 exact ⟨by first | rfl | (simp; done) | (simp [*]; done), by repeat (first | exact Drawn0.refl _ | apply Drawn0.step)⟩

/-! ### cohousinglaw08_GroupProducts: function 4 -/
mutual
def cohousinglaw08_GroupProducts.j0 : Nat → Bool → Int → Int → Int → Bool → Option (Bool)
 | 0, _, _, _, _, _ => none
 | k + 1, x9, x10, x12, x13, x68 => if x68 = true then (some false) else ((group_Exp.f x10 x12).bind fun bt361 => ((group_Exp.f x10 x13).bind fun bt363 => ((group_Exp.f x10 (Int.tmod (wrap64 (x12 + x13)) 1073741789)).bind fun bt365 => (if bt361.2 = 0 then (if bt363.2 = 0 then (if bt365.2 = 0 then ((group_Member.f bt361.1).bind fun t367 => (if t367 = true then ((group_Member.f bt363.1).bind fun t368 => (cohousinglaw08_GroupProducts.j1 k x9 x10 x12 x13 bt361.1 bt363.1 bt365.1 (!t368))) else (cohousinglaw08_GroupProducts.j1 k x9 x10 x12 x13 bt361.1 bt363.1 bt365.1 true))) else (cohousinglaw08_GroupProducts.j1 k x9 x10 x12 x13 bt361.1 bt363.1 bt365.1 true)) else (cohousinglaw08_GroupProducts.j1 k x9 x10 x12 x13 bt361.1 bt363.1 bt365.1 true)) else (cohousinglaw08_GroupProducts.j1 k x9 x10 x12 x13 bt361.1 bt363.1 bt365.1 true)))))
def cohousinglaw08_GroupProducts.j1 : Nat → Bool → Int → Int → Int → Int → Int → Int → Bool → Option (Bool)
 | 0, _, _, _, _, _, _, _, _ => none
 | k + 1, x9, x10, x12, x13, x18, x20, x22, x109 => if x109 = true then (some false) else ((group_Mul.f x18 x20).bind fun bt369 => ((group_Exp.f x18 x13).bind fun bt371 => ((group_Exp.f x10 (Int.tmod (wrap64 (x12 * x13)) 1073741789)).bind fun bt373 => (if x9 = true then (if bt369.2 = 0 then (if bt371.2 = 0 then (if bt373.2 = 0 then (if bt369.1 = x22 then (some (bt371.1 == bt373.1)) else (some false)) else (some false)) else (some false)) else (some false)) else (some false)))))
end
def cohousinglaw08_GroupProducts.f (k : Nat) (a0 : Int) (a1 : Int) (a2 : Int) (a3 : Int) : Option (Bool) := (cohousinglaw08_head.f k).bind fun t353 => ((cohousingref08_Element.f k a0).bind fun t354 => ((cohousingref08_Element.f k a1).bind fun t355 => ((group_Mul.f t354 t355).bind fun bt356 => ((group_Mul.f t355 t354).bind fun bt358 => (if bt356.2 = 0 then (if bt358.2 = 0 then (if bt356.1 = bt358.1 then ((group_Member.f bt356.1).bind fun t360 => (cohousinglaw08_GroupProducts.j0 k t353 t354 (wrap64 (Int.tmod a2 1073741789)) (wrap64 (Int.tmod a3 1073741789)) (!t360))) else (cohousinglaw08_GroupProducts.j0 k t353 t354 (wrap64 (Int.tmod a2 1073741789)) (wrap64 (Int.tmod a3 1073741789)) true)) else (cohousinglaw08_GroupProducts.j0 k t353 t354 (wrap64 (Int.tmod a2 1073741789)) (wrap64 (Int.tmod a3 1073741789)) true)) else (cohousinglaw08_GroupProducts.j0 k t353 t354 (wrap64 (Int.tmod a2 1073741789)) (wrap64 (Int.tmod a3 1073741789)) true))))))
theorem cohousinglaw08_GroupProducts.mono_l : ∀ k, (∀ y0 y1 y2 y3 y4, LeO (cohousinglaw08_GroupProducts.j0 k y0 y1 y2 y3 y4) (cohousinglaw08_GroupProducts.j0 (k + 1) y0 y1 y2 y3 y4)) ∧ (∀ y0 y1 y2 y3 y4 y5 y6 y7, LeO (cohousinglaw08_GroupProducts.j1 k y0 y1 y2 y3 y4 y5 y6 y7) (cohousinglaw08_GroupProducts.j1 (k + 1) y0 y1 y2 y3 y4 y5 y6 y7))
 | 0 => ⟨fun _ _ _ _ _ r h => by simp [cohousinglaw08_GroupProducts.j0] at h, fun _ _ _ _ _ _ _ _ r h => by simp [cohousinglaw08_GroupProducts.j1] at h⟩
 | k + 1 => by
  obtain ⟨ih0, ih1⟩ := cohousinglaw08_GroupProducts.mono_l k
  refine ⟨?_, ?_⟩
  ·intro y0 y1 y2 y3 y4
   unfold cohousinglaw08_GroupProducts.j0
   repeat' first
   | (with_reducible exact ih0 _ _ _ _ _)
   | (with_reducible exact ih1 _ _ _ _ _ _ _ _)
   | (with_reducible exact cohousinglaw08_head.mono _)
   | (with_reducible exact cohousingref08_Element.mono _ _)
   | (with_reducible exact LeO.refl _)
   | (with_reducible exact LeO.none _)
   | (with_reducible refine LeO.ite ?_ ?_)
   | (with_reducible refine LeO.bind ?_ (fun _ => ?_))
   | exact ih0 _ _ _ _ _
   | exact ih1 _ _ _ _ _ _ _ _
   | exact cohousinglaw08_head.mono _
   | exact cohousingref08_Element.mono _ _
   | exact LeO.none _
   | refine LeO.ite ?_ ?_
   | refine LeO.bind ?_ (fun _ => ?_)
  ·intro y0 y1 y2 y3 y4 y5 y6 y7
   unfold cohousinglaw08_GroupProducts.j1
   repeat' first
   | (with_reducible exact ih0 _ _ _ _ _)
   | (with_reducible exact ih1 _ _ _ _ _ _ _ _)
   | (with_reducible exact cohousinglaw08_head.mono _)
   | (with_reducible exact cohousingref08_Element.mono _ _)
   | (with_reducible exact LeO.refl _)
   | (with_reducible exact LeO.none _)
   | (with_reducible refine LeO.ite ?_ ?_)
   | (with_reducible refine LeO.bind ?_ (fun _ => ?_))
   | exact ih0 _ _ _ _ _
   | exact ih1 _ _ _ _ _ _ _ _
   | exact cohousinglaw08_head.mono _
   | exact cohousingref08_Element.mono _ _
   | exact LeO.none _
   | refine LeO.ite ?_ ?_
   | refine LeO.bind ?_ (fun _ => ?_)
theorem cohousinglaw08_GroupProducts.mono : ∀ a0 a1 a2 a3 k, LeO (cohousinglaw08_GroupProducts.f k a0 a1 a2 a3) (cohousinglaw08_GroupProducts.f (k + 1) a0 a1 a2 a3) := by
 intro a0 a1 a2 a3 k
 obtain ⟨ih0, ih1⟩ := cohousinglaw08_GroupProducts.mono_l k
 unfold cohousinglaw08_GroupProducts.f
 repeat' first
   | (with_reducible exact ih0 _ _ _ _ _)
   | (with_reducible exact ih1 _ _ _ _ _ _ _ _)
   | (with_reducible exact cohousinglaw08_head.mono _)
   | (with_reducible exact cohousingref08_Element.mono _ _)
   | (with_reducible exact LeO.refl _)
   | (with_reducible exact LeO.none _)
   | (with_reducible refine LeO.ite ?_ ?_)
   | (with_reducible refine LeO.bind ?_ (fun _ => ?_))
   | exact ih0 _ _ _ _ _
   | exact ih1 _ _ _ _ _ _ _ _
   | exact cohousinglaw08_head.mono _
   | exact cohousingref08_Element.mono _ _
   | exact LeO.none _
   | refine LeO.ite ?_ ?_
   | refine LeO.bind ?_ (fun _ => ?_)
set_option maxHeartbeats 8000000 in
set_option maxRecDepth 100000 in
theorem cohousinglaw08_GroupProducts.calls (k : Nat) (a0 : Int) (a1 : Int) (a2 : Int) (a3 : Int) (r : Bool) (w : World) (hT : TabOk w) (h : cohousinglaw08_GroupProducts.f k a0 a1 a2 a3 = some r) :
  Calls Tryd.prog 4 #[.int .u64 a0, .int .u64 a1, .int .u64 a2, .int .u64 a3] w fun e w' => e = .returned (.bool r) ∧ Below w.heap.size w w' := by
 have HT := Aside0.mk hT
 clear hT
 have HB := Aside0.mk (Below.refl w.heap.size w)
 have H : ((cohousinglaw08_head.f k).bind fun t353 => ((cohousingref08_Element.f k a0).bind fun t354 => ((cohousingref08_Element.f k a1).bind fun t355 => ((group_Mul.f t354 t355).bind fun bt356 => ((group_Mul.f t355 t354).bind fun bt358 => (if bt356.2 = 0 then (if bt358.2 = 0 then (if bt356.1 = bt358.1 then ((group_Member.f bt356.1).bind fun t360 => (cohousinglaw08_GroupProducts.j0 k t353 t354 (wrap64 (Int.tmod a2 1073741789)) (wrap64 (Int.tmod a3 1073741789)) (!t360))) else (cohousinglaw08_GroupProducts.j0 k t353 t354 (wrap64 (Int.tmod a2 1073741789)) (wrap64 (Int.tmod a3 1073741789)) true)) else (cohousinglaw08_GroupProducts.j0 k t353 t354 (wrap64 (Int.tmod a2 1073741789)) (wrap64 (Int.tmod a3 1073741789)) true)) else (cohousinglaw08_GroupProducts.j0 k t353 t354 (wrap64 (Int.tmod a2 1073741789)) (wrap64 (Int.tmod a3 1073741789)) true))))))) = some r := h
 clear h
 replace H := Option.bind_eq_some_iff.mp H
 obtain ⟨t353, A50, H⟩ := H
 replace H : ((cohousingref08_Element.f k a0).bind fun t354 => ((cohousingref08_Element.f k a1).bind fun t355 => ((group_Mul.f t354 t355).bind fun bt356 => ((group_Mul.f t355 t354).bind fun bt358 => (if bt356.2 = 0 then (if bt358.2 = 0 then (if bt356.1 = bt358.1 then ((group_Member.f bt356.1).bind fun t360 => (cohousinglaw08_GroupProducts.j0 k t353 t354 (wrap64 (Int.tmod a2 1073741789)) (wrap64 (Int.tmod a3 1073741789)) (!t360))) else (cohousinglaw08_GroupProducts.j0 k t353 t354 (wrap64 (Int.tmod a2 1073741789)) (wrap64 (Int.tmod a3 1073741789)) true)) else (cohousinglaw08_GroupProducts.j0 k t353 t354 (wrap64 (Int.tmod a2 1073741789)) (wrap64 (Int.tmod a3 1073741789)) true)) else (cohousinglaw08_GroupProducts.j0 k t353 t354 (wrap64 (Int.tmod a2 1073741789)) (wrap64 (Int.tmod a3 1073741789)) true)))))) = some r := H
 have A5 := Aside0.mk A50
 clear A50
 replace H := Option.bind_eq_some_iff.mp H
 obtain ⟨t354, A60, H⟩ := H
 replace H : ((cohousingref08_Element.f k a1).bind fun t355 => ((group_Mul.f t354 t355).bind fun bt356 => ((group_Mul.f t355 t354).bind fun bt358 => (if bt356.2 = 0 then (if bt358.2 = 0 then (if bt356.1 = bt358.1 then ((group_Member.f bt356.1).bind fun t360 => (cohousinglaw08_GroupProducts.j0 k t353 t354 (wrap64 (Int.tmod a2 1073741789)) (wrap64 (Int.tmod a3 1073741789)) (!t360))) else (cohousinglaw08_GroupProducts.j0 k t353 t354 (wrap64 (Int.tmod a2 1073741789)) (wrap64 (Int.tmod a3 1073741789)) true)) else (cohousinglaw08_GroupProducts.j0 k t353 t354 (wrap64 (Int.tmod a2 1073741789)) (wrap64 (Int.tmod a3 1073741789)) true)) else (cohousinglaw08_GroupProducts.j0 k t353 t354 (wrap64 (Int.tmod a2 1073741789)) (wrap64 (Int.tmod a3 1073741789)) true))))) = some r := H
 have A6 := Aside0.mk A60
 clear A60
 replace H := Option.bind_eq_some_iff.mp H
 obtain ⟨t355, A70, H⟩ := H
 replace H : ((group_Mul.f t354 t355).bind fun bt356 => ((group_Mul.f t355 t354).bind fun bt358 => (if bt356.2 = 0 then (if bt358.2 = 0 then (if bt356.1 = bt358.1 then ((group_Member.f bt356.1).bind fun t360 => (cohousinglaw08_GroupProducts.j0 k t353 t354 (wrap64 (Int.tmod a2 1073741789)) (wrap64 (Int.tmod a3 1073741789)) (!t360))) else (cohousinglaw08_GroupProducts.j0 k t353 t354 (wrap64 (Int.tmod a2 1073741789)) (wrap64 (Int.tmod a3 1073741789)) true)) else (cohousinglaw08_GroupProducts.j0 k t353 t354 (wrap64 (Int.tmod a2 1073741789)) (wrap64 (Int.tmod a3 1073741789)) true)) else (cohousinglaw08_GroupProducts.j0 k t353 t354 (wrap64 (Int.tmod a2 1073741789)) (wrap64 (Int.tmod a3 1073741789)) true)))) = some r := H
 have A7 := Aside0.mk A70
 clear A70
 replace H := Option.bind_eq_some_iff.mp H
 obtain ⟨⟨t356, t357⟩, A80, H⟩ := H
 replace H : ((group_Mul.f t355 t354).bind fun bt358 => (if t357 = 0 then (if bt358.2 = 0 then (if t356 = bt358.1 then ((group_Member.f t356).bind fun t360 => (cohousinglaw08_GroupProducts.j0 k t353 t354 (wrap64 (Int.tmod a2 1073741789)) (wrap64 (Int.tmod a3 1073741789)) (!t360))) else (cohousinglaw08_GroupProducts.j0 k t353 t354 (wrap64 (Int.tmod a2 1073741789)) (wrap64 (Int.tmod a3 1073741789)) true)) else (cohousinglaw08_GroupProducts.j0 k t353 t354 (wrap64 (Int.tmod a2 1073741789)) (wrap64 (Int.tmod a3 1073741789)) true)) else (cohousinglaw08_GroupProducts.j0 k t353 t354 (wrap64 (Int.tmod a2 1073741789)) (wrap64 (Int.tmod a3 1073741789)) true))) = some r := H
 have A8 := Aside0.mk A80
 clear A80
 replace H := Option.bind_eq_some_iff.mp H
 obtain ⟨⟨t358, t359⟩, A90, H⟩ := H
 replace H : (if t357 = 0 then (if t359 = 0 then (if t356 = t358 then ((group_Member.f t356).bind fun t360 => (cohousinglaw08_GroupProducts.j0 k t353 t354 (wrap64 (Int.tmod a2 1073741789)) (wrap64 (Int.tmod a3 1073741789)) (!t360))) else (cohousinglaw08_GroupProducts.j0 k t353 t354 (wrap64 (Int.tmod a2 1073741789)) (wrap64 (Int.tmod a3 1073741789)) true)) else (cohousinglaw08_GroupProducts.j0 k t353 t354 (wrap64 (Int.tmod a2 1073741789)) (wrap64 (Int.tmod a3 1073741789)) true)) else (cohousinglaw08_GroupProducts.j0 k t353 t354 (wrap64 (Int.tmod a2 1073741789)) (wrap64 (Int.tmod a3 1073741789)) true)) = some r := H
 have A9 := Aside0.mk A90
 clear A90
 have HC10 := Aside0.mk H
 clear H
 go_enter Tryd.func4, Tryd.ntmps4
 go_upto_region 6 with (first | ((with_reducible refine gate_callee (f := 10) rfl ?_); refine goesL_ (some 30) rfl rfl Tryd.func10 (by kernel_rfl) rfl #[] rfl (by (try simp only [List.map_toArray, List.map_cons, List.map_nil]); first | done | rfl | (simp only [List.length_drop, List.length_take]; rfl)) ?_; (with_reducible refine (cohousinglaw08_head.calls k  t353 _ ?side1 A5.out).mono ?_); (case side1 => exact TabOk.below HT.out (by repeat (first | (with_reducible first | exact HB.out | apply below_alloc | apply pw_below_drewN | apply below_drew1) | exact HB.out))); rintro e w11 ⟨rfl, hb⟩; refine ⟨_, rfl, ?_⟩; have n0_ := Aside0.mk (below_step (by repeat (first | (with_reducible first | exact HB.out | apply below_alloc | apply pw_below_drewN | apply below_drew1) | exact HB.out)) hb); clear HB; have HB := n0_; clear n0_; (try clear hb); (try clear hb2); (try clear hk); (try clear hi)) | ((with_reducible refine gate_callee (f := 28) rfl ?_); refine goesL_ (some 32) rfl rfl Tryd.func28 (by kernel_rfl) rfl #[.int .u64 a0] rfl (by (try simp only [List.map_toArray, List.map_cons, List.map_nil]); first | done | rfl | (simp only [List.length_drop, List.length_take]; rfl)) ?_; (with_reducible refine (cohousingref08_Element.calls k a0 t354 _ A6.out).mono ?_); rintro e w' ⟨rfl, ⟨nd, rfl⟩⟩; refine ⟨_, rfl, ?_⟩) | ((with_reducible refine gate_callee (f := 28) rfl ?_); refine goesL_ (some 34) rfl rfl Tryd.func28 (by kernel_rfl) rfl #[.int .u64 a1] rfl (by (try simp only [List.map_toArray, List.map_cons, List.map_nil]); first | done | rfl | (simp only [List.length_drop, List.length_take]; rfl)) ?_; (with_reducible refine (cohousingref08_Element.calls k a1 t355 _ A7.out).mono ?_); rintro e w' ⟨rfl, ⟨nd, rfl⟩⟩; refine ⟨_, rfl, ?_⟩) | ((with_reducible refine gate_callee (f := 12) rfl ?_); refine goesL_ (some 44) rfl rfl Tryd.func12 (by kernel_rfl) rfl #[.int .i64 t354, .int .i64 t355] rfl (by (try simp only [List.map_toArray, List.map_cons, List.map_nil]); first | done | rfl | (simp only [List.length_drop, List.length_take]; rfl)) ?_; (with_reducible refine (group_Mul.calls t354 t355 t356 t357 _ A8.out).mono ?_); rintro e w12 ⟨rfl, hb⟩; refine ⟨_, rfl, ?_⟩; have n0_ := Aside0.mk (below_step (by repeat (first | (with_reducible first | exact HB.out | apply below_alloc | apply pw_below_drewN | apply below_drew1) | exact HB.out)) hb); clear HB; have HB := n0_; clear n0_; (try clear hb); (try clear hb2); (try clear hk); (try clear hi)) | ((with_reducible refine gate_callee (f := 12) rfl ?_); refine goesL_ (some 50) rfl rfl Tryd.func12 (by kernel_rfl) rfl #[.int .i64 t355, .int .i64 t354] rfl (by (try simp only [List.map_toArray, List.map_cons, List.map_nil]); first | done | rfl | (simp only [List.length_drop, List.length_take]; rfl)) ?_; (with_reducible refine (group_Mul.calls t355 t354 t358 t359 _ A9.out).mono ?_); rintro e w13 ⟨rfl, hb⟩; refine ⟨_, rfl, ?_⟩; have n0_ := Aside0.mk (below_step (by repeat (first | (with_reducible first | exact HB.out | apply below_alloc | apply pw_below_drewN | apply below_drew1) | exact HB.out)) hb); clear HB; have HB := n0_; clear n0_; (try clear hb); (try clear hb2); (try clear hk); (try clear hi)))
 (try simp only [Act.put, List.setIfInBounds_toArray, List.set_cons_zero, List.set_cons_succ])
 go_cut [68] (fun v68 wc => ∃ (kq : Nat) (x68_9 : Bool), v68 = .bool x68_9 ∧ Aside0 (cohousinglaw08_GroupProducts.j0 kq t353 t354 (wrap64 (Int.tmod a2 1073741789)) (wrap64 (Int.tmod a3 1073741789)) x68_9 = some r) ∧ Aside0 (kq ≤ k) ∧ Aside0 (Below w.heap.size w wc))
 case first =>
  have H := HC10.out
  clear HC10
  by_cases c14 : t357 = 0
  ·rw [if_pos c14] at H
   have c14b0 : (t357 == 0) = true := beq_iff_eq.mpr c14
   have c14b1 : (t357 != 0) = false := bne_eq_false_iff_eq.mpr c14
   clear c14
   (first | rw [c14b0] | (simp only [i64_w, i32_w]; rw [c14b0]) | skip)
   by_cases c15 : t359 = 0
   ·rw [if_pos c15] at H
    have c15b0 : (t359 == 0) = true := beq_iff_eq.mpr c15
    have c15b1 : (t359 != 0) = false := bne_eq_false_iff_eq.mpr c15
    clear c15
    by_cases c16 : t356 = t358
    ·rw [if_pos c16] at H
     have c16b0 : (t356 == t358) = true := beq_iff_eq.mpr c16
     have c16b1 : (t356 != t358) = false := bne_eq_false_iff_eq.mpr c16
     clear c16
     replace H := Option.bind_eq_some_iff.mp H
     obtain ⟨t360, A170, H⟩ := H
     replace H : (cohousinglaw08_GroupProducts.j0 k t353 t354 (wrap64 (Int.tmod a2 1073741789)) (wrap64 (Int.tmod a3 1073741789)) (!t360)) = some r := H
     have A17 := Aside0.mk A170
     clear A170
     have H' := Aside0.mk H
     clear H
     go_wp2_with (first | (go_at_call 14; (with_reducible refine (group_Member.calls t356 t360 _ A17.out).mono ?_); rintro e w18 ⟨rfl, hb⟩; have n0_ := Aside0.mk (below_step (by repeat (first | (with_reducible first | exact HB.out | apply below_alloc | apply pw_below_drewN | apply below_drew1) | exact HB.out)) hb); clear HB; have HB := n0_; clear n0_; (try clear hb); (try clear hb2); (try clear hk); (try clear hi)))
     go_meet
     case rel => exact ⟨_, (!t360), (by first | rfl | (simp; done) | (simp [*]; done)), H', ⟨by first | omega | exact Nat.le_refl _⟩, ⟨by repeat (first | (with_reducible first | exact HB.out | apply below_alloc | apply pw_below_drewN | apply below_drew1) | exact HB.out)⟩⟩
    ·rw [if_neg c16] at H
     have c16b0 : (t356 == t358) = false := beq_eq_false_iff_ne.mpr c16
     have c16b1 : (t356 != t358) = true := bne_iff_ne.mpr c16
     have H' := Aside0.mk H
     clear H
     go_wp2
     go_meet
     case rel => exact ⟨_, (true), (by first | rfl | (simp; done) | (simp [*]; done)), H', ⟨by first | omega | exact Nat.le_refl _⟩, ⟨by repeat (first | (with_reducible first | exact HB.out | apply below_alloc | apply pw_below_drewN | apply below_drew1) | exact HB.out)⟩⟩
   ·rw [if_neg c15] at H
    have c15b0 : (t359 == 0) = false := beq_eq_false_iff_ne.mpr c15
    have c15b1 : (t359 != 0) = true := bne_iff_ne.mpr c15
    have H' := Aside0.mk H
    clear H
    go_wp2
    go_meet
    case rel => exact ⟨_, (true), (by first | rfl | (simp; done) | (simp [*]; done)), H', ⟨by first | omega | exact Nat.le_refl _⟩, ⟨by repeat (first | (with_reducible first | exact HB.out | apply below_alloc | apply pw_below_drewN | apply below_drew1) | exact HB.out)⟩⟩
  ·rw [if_neg c14] at H
   have c14b0 : (t357 == 0) = false := beq_eq_false_iff_ne.mpr c14
   have c14b1 : (t357 != 0) = true := bne_iff_ne.mpr c14
   (first | rw [c14b0] | (simp only [i64_w, i32_w]; rw [c14b0]) | skip)
   have H' := Aside0.mk H
   clear H
   go_wp2
   go_meet
   case rel => exact ⟨_, (true), (by first | rfl | (simp; done) | (simp [*]; done)), H', ⟨by first | omega | exact Nat.le_refl _⟩, ⟨by repeat (first | (with_reducible first | exact HB.out | apply below_alloc | apply pw_below_drewN | apply below_drew1) | exact HB.out)⟩⟩
 case rest =>
  clear HC10
  try clear c1
  try clear c2
  try clear p2
  try clear c4
  try clear p6
  try clear c10
  try clear c12
  try clear c14
  try clear c14b0
  try clear c14b1
  try clear c15
  try clear c15b0
  try clear c15b1
  try clear c16
  try clear c16b0
  try clear c16b1
  obtain ⟨kq, x68_9, rfl, HA, HJ9, HB⟩ := hcut
  cases kq with
  | zero => exact absurd HA.out (by simp [cohousinglaw08_GroupProducts.j0])
  | succ kj9 =>
   have H := HA.out
   clear HA
   simp only [cohousinglaw08_GroupProducts.j0] at H
   by_cases c19 : x68_9 = true
   ·subst c19
    have H1 : (some false) = some r := by rw [if_pos rfl] at H; exact H
    clear H
    have H := H1
    clear H1
    obtain rfl := Option.some.inj H
    go_wp2
    go_ret
    exact ⟨by first | rfl | (simp [errW_none, errW_some] <;> rfl) | (simp [*, errW_none, errW_some] <;> rfl), by repeat (first | (with_reducible first | exact HB.out | apply below_alloc | apply pw_below_drewN | apply below_drew1) | exact HB.out)⟩
   ·replace c19 := Bool.eq_false_iff.mpr c19
    subst c19
    have H1 : ((group_Exp.f t354 (wrap64 (Int.tmod a2 1073741789))).bind fun bt361 => ((group_Exp.f t354 (wrap64 (Int.tmod a3 1073741789))).bind fun bt363 => ((group_Exp.f t354 (Int.tmod (wrap64 ((wrap64 (Int.tmod a2 1073741789)) + (wrap64 (Int.tmod a3 1073741789)))) 1073741789)).bind fun bt365 => (if bt361.2 = 0 then (if bt363.2 = 0 then (if bt365.2 = 0 then ((group_Member.f bt361.1).bind fun t367 => (if t367 = true then ((group_Member.f bt363.1).bind fun t368 => (cohousinglaw08_GroupProducts.j1 kj9 t353 t354 (wrap64 (Int.tmod a2 1073741789)) (wrap64 (Int.tmod a3 1073741789)) bt361.1 bt363.1 bt365.1 (!t368))) else (cohousinglaw08_GroupProducts.j1 kj9 t353 t354 (wrap64 (Int.tmod a2 1073741789)) (wrap64 (Int.tmod a3 1073741789)) bt361.1 bt363.1 bt365.1 true))) else (cohousinglaw08_GroupProducts.j1 kj9 t353 t354 (wrap64 (Int.tmod a2 1073741789)) (wrap64 (Int.tmod a3 1073741789)) bt361.1 bt363.1 bt365.1 true)) else (cohousinglaw08_GroupProducts.j1 kj9 t353 t354 (wrap64 (Int.tmod a2 1073741789)) (wrap64 (Int.tmod a3 1073741789)) bt361.1 bt363.1 bt365.1 true)) else (cohousinglaw08_GroupProducts.j1 kj9 t353 t354 (wrap64 (Int.tmod a2 1073741789)) (wrap64 (Int.tmod a3 1073741789)) bt361.1 bt363.1 bt365.1 true))))) = some r := by rw [if_neg (show ¬ (false = true) by decide)] at H; exact H
    clear H
    have H := H1
    clear H1
    replace H := Option.bind_eq_some_iff.mp H
    obtain ⟨⟨t361, t362⟩, A200, H⟩ := H
    replace H : ((group_Exp.f t354 (wrap64 (Int.tmod a3 1073741789))).bind fun bt363 => ((group_Exp.f t354 (Int.tmod (wrap64 ((wrap64 (Int.tmod a2 1073741789)) + (wrap64 (Int.tmod a3 1073741789)))) 1073741789)).bind fun bt365 => (if t362 = 0 then (if bt363.2 = 0 then (if bt365.2 = 0 then ((group_Member.f t361).bind fun t367 => (if t367 = true then ((group_Member.f bt363.1).bind fun t368 => (cohousinglaw08_GroupProducts.j1 kj9 t353 t354 (wrap64 (Int.tmod a2 1073741789)) (wrap64 (Int.tmod a3 1073741789)) t361 bt363.1 bt365.1 (!t368))) else (cohousinglaw08_GroupProducts.j1 kj9 t353 t354 (wrap64 (Int.tmod a2 1073741789)) (wrap64 (Int.tmod a3 1073741789)) t361 bt363.1 bt365.1 true))) else (cohousinglaw08_GroupProducts.j1 kj9 t353 t354 (wrap64 (Int.tmod a2 1073741789)) (wrap64 (Int.tmod a3 1073741789)) t361 bt363.1 bt365.1 true)) else (cohousinglaw08_GroupProducts.j1 kj9 t353 t354 (wrap64 (Int.tmod a2 1073741789)) (wrap64 (Int.tmod a3 1073741789)) t361 bt363.1 bt365.1 true)) else (cohousinglaw08_GroupProducts.j1 kj9 t353 t354 (wrap64 (Int.tmod a2 1073741789)) (wrap64 (Int.tmod a3 1073741789)) t361 bt363.1 bt365.1 true)))) = some r := H
    have A20 := Aside0.mk A200
    clear A200
    replace H := Option.bind_eq_some_iff.mp H
    obtain ⟨⟨t363, t364⟩, A210, H⟩ := H
    replace H : ((group_Exp.f t354 (Int.tmod (wrap64 ((wrap64 (Int.tmod a2 1073741789)) + (wrap64 (Int.tmod a3 1073741789)))) 1073741789)).bind fun bt365 => (if t362 = 0 then (if t364 = 0 then (if bt365.2 = 0 then ((group_Member.f t361).bind fun t367 => (if t367 = true then ((group_Member.f t363).bind fun t368 => (cohousinglaw08_GroupProducts.j1 kj9 t353 t354 (wrap64 (Int.tmod a2 1073741789)) (wrap64 (Int.tmod a3 1073741789)) t361 t363 bt365.1 (!t368))) else (cohousinglaw08_GroupProducts.j1 kj9 t353 t354 (wrap64 (Int.tmod a2 1073741789)) (wrap64 (Int.tmod a3 1073741789)) t361 t363 bt365.1 true))) else (cohousinglaw08_GroupProducts.j1 kj9 t353 t354 (wrap64 (Int.tmod a2 1073741789)) (wrap64 (Int.tmod a3 1073741789)) t361 t363 bt365.1 true)) else (cohousinglaw08_GroupProducts.j1 kj9 t353 t354 (wrap64 (Int.tmod a2 1073741789)) (wrap64 (Int.tmod a3 1073741789)) t361 t363 bt365.1 true)) else (cohousinglaw08_GroupProducts.j1 kj9 t353 t354 (wrap64 (Int.tmod a2 1073741789)) (wrap64 (Int.tmod a3 1073741789)) t361 t363 bt365.1 true))) = some r := H
    have A21 := Aside0.mk A210
    clear A210
    replace H := Option.bind_eq_some_iff.mp H
    obtain ⟨⟨t365, t366⟩, A220, H⟩ := H
    replace H : (if t362 = 0 then (if t364 = 0 then (if t366 = 0 then ((group_Member.f t361).bind fun t367 => (if t367 = true then ((group_Member.f t363).bind fun t368 => (cohousinglaw08_GroupProducts.j1 kj9 t353 t354 (wrap64 (Int.tmod a2 1073741789)) (wrap64 (Int.tmod a3 1073741789)) t361 t363 t365 (!t368))) else (cohousinglaw08_GroupProducts.j1 kj9 t353 t354 (wrap64 (Int.tmod a2 1073741789)) (wrap64 (Int.tmod a3 1073741789)) t361 t363 t365 true))) else (cohousinglaw08_GroupProducts.j1 kj9 t353 t354 (wrap64 (Int.tmod a2 1073741789)) (wrap64 (Int.tmod a3 1073741789)) t361 t363 t365 true)) else (cohousinglaw08_GroupProducts.j1 kj9 t353 t354 (wrap64 (Int.tmod a2 1073741789)) (wrap64 (Int.tmod a3 1073741789)) t361 t363 t365 true)) else (cohousinglaw08_GroupProducts.j1 kj9 t353 t354 (wrap64 (Int.tmod a2 1073741789)) (wrap64 (Int.tmod a3 1073741789)) t361 t363 t365 true)) = some r := H
    have A22 := Aside0.mk A220
    clear A220
    have HC23 := Aside0.mk H
    clear H
    go_upto_region 11 with (first | ((with_reducible refine gate_callee (f := 16) rfl ?_); refine goesL_ (some 72) rfl rfl Tryd.func16 (by kernel_rfl) rfl #[.int .i64 t354, .int .i64 (wrap64 (Int.tmod a2 1073741789))] rfl (by (try simp only [List.map_toArray, List.map_cons, List.map_nil]); first | done | rfl | (simp only [List.length_drop, List.length_take]; rfl)) ?_; (with_reducible refine (group_Exp.calls t354 (wrap64 (Int.tmod a2 1073741789)) t361 t362 _ A20.out).mono ?_); rintro e w24 ⟨rfl, hb⟩; refine ⟨_, rfl, ?_⟩; have n0_ := Aside0.mk (below_step (by repeat (first | (with_reducible first | exact HB.out | apply below_alloc | apply pw_below_drewN | apply below_drew1) | exact HB.out)) hb); clear HB; have HB := n0_; clear n0_; (try clear hb); (try clear hb2); (try clear hk); (try clear hi)) | ((with_reducible refine gate_callee (f := 16) rfl ?_); refine goesL_ (some 78) rfl rfl Tryd.func16 (by kernel_rfl) rfl #[.int .i64 t354, .int .i64 (wrap64 (Int.tmod a3 1073741789))] rfl (by (try simp only [List.map_toArray, List.map_cons, List.map_nil]); first | done | rfl | (simp only [List.length_drop, List.length_take]; rfl)) ?_; (with_reducible refine (group_Exp.calls t354 (wrap64 (Int.tmod a3 1073741789)) t363 t364 _ A21.out).mono ?_); rintro e w25 ⟨rfl, hb⟩; refine ⟨_, rfl, ?_⟩; have n0_ := Aside0.mk (below_step (by repeat (first | (with_reducible first | exact HB.out | apply below_alloc | apply pw_below_drewN | apply below_drew1) | exact HB.out)) hb); clear HB; have HB := n0_; clear n0_; (try clear hb); (try clear hb2); (try clear hk); (try clear hi)) | ((with_reducible refine gate_callee (f := 16) rfl ?_); refine goesL_ (some 87) rfl rfl Tryd.func16 (by kernel_rfl) rfl #[.int .i64 t354, .int .i64 (Int.tmod (wrap64 ((wrap64 (Int.tmod a2 1073741789)) + (wrap64 (Int.tmod a3 1073741789)))) 1073741789)] rfl (by (try simp only [List.map_toArray, List.map_cons, List.map_nil]); first | done | rfl | (simp only [List.length_drop, List.length_take]; rfl)) ?_; (with_reducible refine (group_Exp.calls t354 (Int.tmod (wrap64 ((wrap64 (Int.tmod a2 1073741789)) + (wrap64 (Int.tmod a3 1073741789)))) 1073741789) t365 t366 _ A22.out).mono ?_); rintro e w26 ⟨rfl, hb⟩; refine ⟨_, rfl, ?_⟩; have n0_ := Aside0.mk (below_step (by repeat (first | (with_reducible first | exact HB.out | apply below_alloc | apply pw_below_drewN | apply below_drew1) | exact HB.out)) hb); clear HB; have HB := n0_; clear n0_; (try clear hb); (try clear hb2); (try clear hk); (try clear hi)))
    (try simp only [Act.put, List.setIfInBounds_toArray, List.set_cons_zero, List.set_cons_succ])
    go_cut [109] (fun v109 wc => ∃ (kq : Nat) (x109_22 : Bool), v109 = .bool x109_22 ∧ Aside0 (cohousinglaw08_GroupProducts.j1 kq t353 t354 (wrap64 (Int.tmod a2 1073741789)) (wrap64 (Int.tmod a3 1073741789)) t361 t363 t365 x109_22 = some r) ∧ Aside0 (kq ≤ kj9) ∧ Aside0 (Below w.heap.size w wc))
    case first =>
     have H := HC23.out
     clear HC23
     by_cases c27 : t362 = 0
     ·rw [if_pos c27] at H
      have c27b0 : (t362 == 0) = true := beq_iff_eq.mpr c27
      have c27b1 : (t362 != 0) = false := bne_eq_false_iff_eq.mpr c27
      clear c27
      (first | rw [c27b0] | (simp only [i64_w, i32_w]; rw [c27b0]) | skip)
      by_cases c28 : t364 = 0
      ·rw [if_pos c28] at H
       have c28b0 : (t364 == 0) = true := beq_iff_eq.mpr c28
       have c28b1 : (t364 != 0) = false := bne_eq_false_iff_eq.mpr c28
       clear c28
       by_cases c29 : t366 = 0
       ·rw [if_pos c29] at H
        have c29b0 : (t366 == 0) = true := beq_iff_eq.mpr c29
        have c29b1 : (t366 != 0) = false := bne_eq_false_iff_eq.mpr c29
        clear c29
        replace H := Option.bind_eq_some_iff.mp H
        obtain ⟨t367, A300, H⟩ := H
        replace H : (if t367 = true then ((group_Member.f t363).bind fun t368 => (cohousinglaw08_GroupProducts.j1 kj9 t353 t354 (wrap64 (Int.tmod a2 1073741789)) (wrap64 (Int.tmod a3 1073741789)) t361 t363 t365 (!t368))) else (cohousinglaw08_GroupProducts.j1 kj9 t353 t354 (wrap64 (Int.tmod a2 1073741789)) (wrap64 (Int.tmod a3 1073741789)) t361 t363 t365 true)) = some r := H
        have A30 := Aside0.mk A300
        clear A300
        by_cases c31 : t367 = true
        ·subst c31
         have H1 : ((group_Member.f t363).bind fun t368 => (cohousinglaw08_GroupProducts.j1 kj9 t353 t354 (wrap64 (Int.tmod a2 1073741789)) (wrap64 (Int.tmod a3 1073741789)) t361 t363 t365 (!t368))) = some r := by rw [if_pos rfl] at H; exact H
         clear H
         have H := H1
         clear H1
         replace H := Option.bind_eq_some_iff.mp H
         obtain ⟨t368, A320, H⟩ := H
         replace H : (cohousinglaw08_GroupProducts.j1 kj9 t353 t354 (wrap64 (Int.tmod a2 1073741789)) (wrap64 (Int.tmod a3 1073741789)) t361 t363 t365 (!t368)) = some r := H
         have A32 := Aside0.mk A320
         clear A320
         have H' := Aside0.mk H
         clear H
         go_wp2_with (first | (go_at_call 14; (with_reducible refine (group_Member.calls t361 true _ A30.out).mono ?_); rintro e w33 ⟨rfl, hb⟩; have n0_ := Aside0.mk (below_step (by repeat (first | (with_reducible first | exact HB.out | apply below_alloc | apply pw_below_drewN | apply below_drew1) | exact HB.out)) hb); clear HB; have HB := n0_; clear n0_; (try clear hb); (try clear hb2); (try clear hk); (try clear hi)) | (go_at_call 14; (with_reducible refine (group_Member.calls t363 t368 _ A32.out).mono ?_); rintro e w34 ⟨rfl, hb⟩; have n0_ := Aside0.mk (below_step (by repeat (first | (with_reducible first | exact HB.out | apply below_alloc | apply pw_below_drewN | apply below_drew1) | exact HB.out)) hb); clear HB; have HB := n0_; clear n0_; (try clear hb); (try clear hb2); (try clear hk); (try clear hi)))
         go_meet
         case rel => exact ⟨_, (!t368), (by first | rfl | (simp; done) | (simp [*]; done)), H', ⟨by have := HJ9.out; first | omega | exact Nat.le_refl _⟩, ⟨by repeat (first | (with_reducible first | exact HB.out | apply below_alloc | apply pw_below_drewN | apply below_drew1) | exact HB.out)⟩⟩
        ·replace c31 := Bool.eq_false_iff.mpr c31
         subst c31
         have H1 : (cohousinglaw08_GroupProducts.j1 kj9 t353 t354 (wrap64 (Int.tmod a2 1073741789)) (wrap64 (Int.tmod a3 1073741789)) t361 t363 t365 true) = some r := by rw [if_neg (show ¬ (false = true) by decide)] at H; exact H
         clear H
         have H := H1
         clear H1
         have H' := Aside0.mk H
         clear H
         go_wp2_with (first | (go_at_call 14; (with_reducible refine (group_Member.calls t361 false _ A30.out).mono ?_); rintro e w35 ⟨rfl, hb⟩; have n0_ := Aside0.mk (below_step (by repeat (first | (with_reducible first | exact HB.out | apply below_alloc | apply pw_below_drewN | apply below_drew1) | exact HB.out)) hb); clear HB; have HB := n0_; clear n0_; (try clear hb); (try clear hb2); (try clear hk); (try clear hi)))
         go_meet
         case rel => exact ⟨_, (true), (by first | rfl | (simp; done) | (simp [*]; done)), H', ⟨by have := HJ9.out; first | omega | exact Nat.le_refl _⟩, ⟨by repeat (first | (with_reducible first | exact HB.out | apply below_alloc | apply pw_below_drewN | apply below_drew1) | exact HB.out)⟩⟩
       ·rw [if_neg c29] at H
        have c29b0 : (t366 == 0) = false := beq_eq_false_iff_ne.mpr c29
        have c29b1 : (t366 != 0) = true := bne_iff_ne.mpr c29
        have H' := Aside0.mk H
        clear H
        go_wp2
        go_meet
        case rel => exact ⟨_, (true), (by first | rfl | (simp; done) | (simp [*]; done)), H', ⟨by have := HJ9.out; first | omega | exact Nat.le_refl _⟩, ⟨by repeat (first | (with_reducible first | exact HB.out | apply below_alloc | apply pw_below_drewN | apply below_drew1) | exact HB.out)⟩⟩
      ·rw [if_neg c28] at H
       have c28b0 : (t364 == 0) = false := beq_eq_false_iff_ne.mpr c28
       have c28b1 : (t364 != 0) = true := bne_iff_ne.mpr c28
       have H' := Aside0.mk H
       clear H
       go_wp2
       go_meet
       case rel => exact ⟨_, (true), (by first | rfl | (simp; done) | (simp [*]; done)), H', ⟨by have := HJ9.out; first | omega | exact Nat.le_refl _⟩, ⟨by repeat (first | (with_reducible first | exact HB.out | apply below_alloc | apply pw_below_drewN | apply below_drew1) | exact HB.out)⟩⟩
     ·rw [if_neg c27] at H
      have c27b0 : (t362 == 0) = false := beq_eq_false_iff_ne.mpr c27
      have c27b1 : (t362 != 0) = true := bne_iff_ne.mpr c27
      (first | rw [c27b0] | (simp only [i64_w, i32_w]; rw [c27b0]) | skip)
      have H' := Aside0.mk H
      clear H
      go_wp2
      go_meet
      case rel => exact ⟨_, (true), (by first | rfl | (simp; done) | (simp [*]; done)), H', ⟨by have := HJ9.out; first | omega | exact Nat.le_refl _⟩, ⟨by repeat (first | (with_reducible first | exact HB.out | apply below_alloc | apply pw_below_drewN | apply below_drew1) | exact HB.out)⟩⟩
    case rest =>
     clear HC23
     try clear c1
     try clear c2
     try clear p2
     try clear c3
     try clear c4
     try clear p6
     try clear c10
     try clear c12
     try clear c14
     try clear c14b0
     try clear c14b1
     try clear c15
     try clear c15b0
     try clear c15b1
     try clear c16
     try clear c16b0
     try clear c16b1
     try clear c19
     try clear c27
     try clear c27b0
     try clear c27b1
     try clear c28
     try clear c28b0
     try clear c28b1
     try clear c29
     try clear c29b0
     try clear c29b1
     try clear c31
     try clear p2
     try clear p6
     obtain ⟨kq, x109_22, rfl, HA, HJ22, HB⟩ := hcut
     cases kq with
     | zero => exact absurd HA.out (by simp [cohousinglaw08_GroupProducts.j1])
     | succ kj22 =>
      have H := HA.out
      clear HA
      simp only [cohousinglaw08_GroupProducts.j1] at H
      by_cases c36 : x109_22 = true
      ·subst c36
       have H1 : (some false) = some r := by rw [if_pos rfl] at H; exact H
       clear H
       have H := H1
       clear H1
       obtain rfl := Option.some.inj H
       go_wp2
       go_ret
       exact ⟨by first | rfl | (simp [errW_none, errW_some] <;> rfl) | (simp [*, errW_none, errW_some] <;> rfl), by repeat (first | (with_reducible first | exact HB.out | apply below_alloc | apply pw_below_drewN | apply below_drew1) | exact HB.out)⟩
      ·replace c36 := Bool.eq_false_iff.mpr c36
       subst c36
       have H1 : ((group_Mul.f t361 t363).bind fun bt369 => ((group_Exp.f t361 (wrap64 (Int.tmod a3 1073741789))).bind fun bt371 => ((group_Exp.f t354 (Int.tmod (wrap64 ((wrap64 (Int.tmod a2 1073741789)) * (wrap64 (Int.tmod a3 1073741789)))) 1073741789)).bind fun bt373 => (if t353 = true then (if bt369.2 = 0 then (if bt371.2 = 0 then (if bt373.2 = 0 then (if bt369.1 = t365 then (some (bt371.1 == bt373.1)) else (some false)) else (some false)) else (some false)) else (some false)) else (some false))))) = some r := by rw [if_neg (show ¬ (false = true) by decide)] at H; exact H
       clear H
       have H := H1
       clear H1
       replace H := Option.bind_eq_some_iff.mp H
       obtain ⟨⟨t369, t370⟩, A370, H⟩ := H
       replace H : ((group_Exp.f t361 (wrap64 (Int.tmod a3 1073741789))).bind fun bt371 => ((group_Exp.f t354 (Int.tmod (wrap64 ((wrap64 (Int.tmod a2 1073741789)) * (wrap64 (Int.tmod a3 1073741789)))) 1073741789)).bind fun bt373 => (if t353 = true then (if t370 = 0 then (if bt371.2 = 0 then (if bt373.2 = 0 then (if t369 = t365 then (some (bt371.1 == bt373.1)) else (some false)) else (some false)) else (some false)) else (some false)) else (some false)))) = some r := H
       have A37 := Aside0.mk A370
       clear A370
       replace H := Option.bind_eq_some_iff.mp H
       obtain ⟨⟨t371, t372⟩, A380, H⟩ := H
       replace H : ((group_Exp.f t354 (Int.tmod (wrap64 ((wrap64 (Int.tmod a2 1073741789)) * (wrap64 (Int.tmod a3 1073741789)))) 1073741789)).bind fun bt373 => (if t353 = true then (if t370 = 0 then (if t372 = 0 then (if bt373.2 = 0 then (if t369 = t365 then (some (t371 == bt373.1)) else (some false)) else (some false)) else (some false)) else (some false)) else (some false))) = some r := H
       have A38 := Aside0.mk A380
       clear A380
       replace H := Option.bind_eq_some_iff.mp H
       obtain ⟨⟨t373, t374⟩, A390, H⟩ := H
       replace H : (if t353 = true then (if t370 = 0 then (if t372 = 0 then (if t374 = 0 then (if t369 = t365 then (some (t371 == t373)) else (some false)) else (some false)) else (some false)) else (some false)) else (some false)) = some r := H
       have A39 := Aside0.mk A390
       clear A390
       by_cases c40 : t353 = true
       ·subst c40
        have H1 : (if t370 = 0 then (if t372 = 0 then (if t374 = 0 then (if t369 = t365 then (some (t371 == t373)) else (some false)) else (some false)) else (some false)) else (some false)) = some r := by rw [if_pos rfl] at H; exact H
        clear H
        have H := H1
        clear H1
        by_cases c41 : t370 = 0
        ·rw [if_pos c41] at H
         have c41b0 : (t370 == 0) = true := beq_iff_eq.mpr c41
         have c41b1 : (t370 != 0) = false := bne_eq_false_iff_eq.mpr c41
         clear c41
         by_cases c42 : t372 = 0
         ·rw [if_pos c42] at H
          have c42b0 : (t372 == 0) = true := beq_iff_eq.mpr c42
          have c42b1 : (t372 != 0) = false := bne_eq_false_iff_eq.mpr c42
          clear c42
          by_cases c43 : t374 = 0
          ·rw [if_pos c43] at H
           have c43b0 : (t374 == 0) = true := beq_iff_eq.mpr c43
           have c43b1 : (t374 != 0) = false := bne_eq_false_iff_eq.mpr c43
           clear c43
           by_cases c44 : t369 = t365
           ·rw [if_pos c44] at H
            have c44b0 : (t369 == t365) = true := beq_iff_eq.mpr c44
            have c44b1 : (t369 != t365) = false := bne_eq_false_iff_eq.mpr c44
            clear c44
            obtain rfl := Option.some.inj H
            go_wp2_with (first | ((with_reducible refine gate_callee (f := 12) rfl ?_); refine goesL_ (some 113) rfl rfl Tryd.func12 (by kernel_rfl) rfl #[.int .i64 t361, .int .i64 t363] rfl (by (try simp only [List.map_toArray, List.map_cons, List.map_nil]); first | done | rfl | (simp only [List.length_drop, List.length_take]; rfl)) ?_; (with_reducible refine (group_Mul.calls t361 t363 t369 t370 _ A37.out).mono ?_); rintro e w45 ⟨rfl, hb⟩; refine ⟨_, rfl, ?_⟩; have n0_ := Aside0.mk (below_step (by repeat (first | (with_reducible first | exact HB.out | apply below_alloc | apply pw_below_drewN | apply below_drew1) | exact HB.out)) hb); clear HB; have HB := n0_; clear n0_; (try clear hb); (try clear hb2); (try clear hk); (try clear hi)) | ((with_reducible refine gate_callee (f := 16) rfl ?_); refine goesL_ (some 119) rfl rfl Tryd.func16 (by kernel_rfl) rfl #[.int .i64 t361, .int .i64 (wrap64 (Int.tmod a3 1073741789))] rfl (by (try simp only [List.map_toArray, List.map_cons, List.map_nil]); first | done | rfl | (simp only [List.length_drop, List.length_take]; rfl)) ?_; (with_reducible refine (group_Exp.calls t361 (wrap64 (Int.tmod a3 1073741789)) t371 t372 _ A38.out).mono ?_); rintro e w46 ⟨rfl, hb⟩; refine ⟨_, rfl, ?_⟩; have n0_ := Aside0.mk (below_step (by repeat (first | (with_reducible first | exact HB.out | apply below_alloc | apply pw_below_drewN | apply below_drew1) | exact HB.out)) hb); clear HB; have HB := n0_; clear n0_; (try clear hb); (try clear hb2); (try clear hk); (try clear hi)) | ((with_reducible refine gate_callee (f := 16) rfl ?_); refine goesL_ (some 128) rfl rfl Tryd.func16 (by kernel_rfl) rfl #[.int .i64 t354, .int .i64 (Int.tmod (wrap64 ((wrap64 (Int.tmod a2 1073741789)) * (wrap64 (Int.tmod a3 1073741789)))) 1073741789)] rfl (by (try simp only [List.map_toArray, List.map_cons, List.map_nil]); first | done | rfl | (simp only [List.length_drop, List.length_take]; rfl)) ?_; (with_reducible refine (group_Exp.calls t354 (Int.tmod (wrap64 ((wrap64 (Int.tmod a2 1073741789)) * (wrap64 (Int.tmod a3 1073741789)))) 1073741789) t373 t374 _ A39.out).mono ?_); rintro e w47 ⟨rfl, hb⟩; refine ⟨_, rfl, ?_⟩; have n0_ := Aside0.mk (below_step (by repeat (first | (with_reducible first | exact HB.out | apply below_alloc | apply pw_below_drewN | apply below_drew1) | exact HB.out)) hb); clear HB; have HB := n0_; clear n0_; (try clear hb); (try clear hb2); (try clear hk); (try clear hi)))
            go_ret
            exact ⟨by first | rfl | (simp [errW_none, errW_some] <;> rfl) | (simp [*, errW_none, errW_some] <;> rfl), by repeat (first | (with_reducible first | exact HB.out | apply below_alloc | apply pw_below_drewN | apply below_drew1) | exact HB.out)⟩
           ·rw [if_neg c44] at H
            have c44b0 : (t369 == t365) = false := beq_eq_false_iff_ne.mpr c44
            have c44b1 : (t369 != t365) = true := bne_iff_ne.mpr c44
            obtain rfl := Option.some.inj H
            go_wp2_with (first | ((with_reducible refine gate_callee (f := 12) rfl ?_); refine goesL_ (some 113) rfl rfl Tryd.func12 (by kernel_rfl) rfl #[.int .i64 t361, .int .i64 t363] rfl (by (try simp only [List.map_toArray, List.map_cons, List.map_nil]); first | done | rfl | (simp only [List.length_drop, List.length_take]; rfl)) ?_; (with_reducible refine (group_Mul.calls t361 t363 t369 t370 _ A37.out).mono ?_); rintro e w48 ⟨rfl, hb⟩; refine ⟨_, rfl, ?_⟩; have n0_ := Aside0.mk (below_step (by repeat (first | (with_reducible first | exact HB.out | apply below_alloc | apply pw_below_drewN | apply below_drew1) | exact HB.out)) hb); clear HB; have HB := n0_; clear n0_; (try clear hb); (try clear hb2); (try clear hk); (try clear hi)) | ((with_reducible refine gate_callee (f := 16) rfl ?_); refine goesL_ (some 119) rfl rfl Tryd.func16 (by kernel_rfl) rfl #[.int .i64 t361, .int .i64 (wrap64 (Int.tmod a3 1073741789))] rfl (by (try simp only [List.map_toArray, List.map_cons, List.map_nil]); first | done | rfl | (simp only [List.length_drop, List.length_take]; rfl)) ?_; (with_reducible refine (group_Exp.calls t361 (wrap64 (Int.tmod a3 1073741789)) t371 t372 _ A38.out).mono ?_); rintro e w49 ⟨rfl, hb⟩; refine ⟨_, rfl, ?_⟩; have n0_ := Aside0.mk (below_step (by repeat (first | (with_reducible first | exact HB.out | apply below_alloc | apply pw_below_drewN | apply below_drew1) | exact HB.out)) hb); clear HB; have HB := n0_; clear n0_; (try clear hb); (try clear hb2); (try clear hk); (try clear hi)) | ((with_reducible refine gate_callee (f := 16) rfl ?_); refine goesL_ (some 128) rfl rfl Tryd.func16 (by kernel_rfl) rfl #[.int .i64 t354, .int .i64 (Int.tmod (wrap64 ((wrap64 (Int.tmod a2 1073741789)) * (wrap64 (Int.tmod a3 1073741789)))) 1073741789)] rfl (by (try simp only [List.map_toArray, List.map_cons, List.map_nil]); first | done | rfl | (simp only [List.length_drop, List.length_take]; rfl)) ?_; (with_reducible refine (group_Exp.calls t354 (Int.tmod (wrap64 ((wrap64 (Int.tmod a2 1073741789)) * (wrap64 (Int.tmod a3 1073741789)))) 1073741789) t373 t374 _ A39.out).mono ?_); rintro e w50 ⟨rfl, hb⟩; refine ⟨_, rfl, ?_⟩; have n0_ := Aside0.mk (below_step (by repeat (first | (with_reducible first | exact HB.out | apply below_alloc | apply pw_below_drewN | apply below_drew1) | exact HB.out)) hb); clear HB; have HB := n0_; clear n0_; (try clear hb); (try clear hb2); (try clear hk); (try clear hi)))
            go_ret
            exact ⟨by first | rfl | (simp [errW_none, errW_some] <;> rfl) | (simp [*, errW_none, errW_some] <;> rfl), by repeat (first | (with_reducible first | exact HB.out | apply below_alloc | apply pw_below_drewN | apply below_drew1) | exact HB.out)⟩
          ·rw [if_neg c43] at H
           have c43b0 : (t374 == 0) = false := beq_eq_false_iff_ne.mpr c43
           have c43b1 : (t374 != 0) = true := bne_iff_ne.mpr c43
           obtain rfl := Option.some.inj H
           go_wp2_with (first | ((with_reducible refine gate_callee (f := 12) rfl ?_); refine goesL_ (some 113) rfl rfl Tryd.func12 (by kernel_rfl) rfl #[.int .i64 t361, .int .i64 t363] rfl (by (try simp only [List.map_toArray, List.map_cons, List.map_nil]); first | done | rfl | (simp only [List.length_drop, List.length_take]; rfl)) ?_; (with_reducible refine (group_Mul.calls t361 t363 t369 t370 _ A37.out).mono ?_); rintro e w51 ⟨rfl, hb⟩; refine ⟨_, rfl, ?_⟩; have n0_ := Aside0.mk (below_step (by repeat (first | (with_reducible first | exact HB.out | apply below_alloc | apply pw_below_drewN | apply below_drew1) | exact HB.out)) hb); clear HB; have HB := n0_; clear n0_; (try clear hb); (try clear hb2); (try clear hk); (try clear hi)) | ((with_reducible refine gate_callee (f := 16) rfl ?_); refine goesL_ (some 119) rfl rfl Tryd.func16 (by kernel_rfl) rfl #[.int .i64 t361, .int .i64 (wrap64 (Int.tmod a3 1073741789))] rfl (by (try simp only [List.map_toArray, List.map_cons, List.map_nil]); first | done | rfl | (simp only [List.length_drop, List.length_take]; rfl)) ?_; (with_reducible refine (group_Exp.calls t361 (wrap64 (Int.tmod a3 1073741789)) t371 t372 _ A38.out).mono ?_); rintro e w52 ⟨rfl, hb⟩; refine ⟨_, rfl, ?_⟩; have n0_ := Aside0.mk (below_step (by repeat (first | (with_reducible first | exact HB.out | apply below_alloc | apply pw_below_drewN | apply below_drew1) | exact HB.out)) hb); clear HB; have HB := n0_; clear n0_; (try clear hb); (try clear hb2); (try clear hk); (try clear hi)) | ((with_reducible refine gate_callee (f := 16) rfl ?_); refine goesL_ (some 128) rfl rfl Tryd.func16 (by kernel_rfl) rfl #[.int .i64 t354, .int .i64 (Int.tmod (wrap64 ((wrap64 (Int.tmod a2 1073741789)) * (wrap64 (Int.tmod a3 1073741789)))) 1073741789)] rfl (by (try simp only [List.map_toArray, List.map_cons, List.map_nil]); first | done | rfl | (simp only [List.length_drop, List.length_take]; rfl)) ?_; (with_reducible refine (group_Exp.calls t354 (Int.tmod (wrap64 ((wrap64 (Int.tmod a2 1073741789)) * (wrap64 (Int.tmod a3 1073741789)))) 1073741789) t373 t374 _ A39.out).mono ?_); rintro e w53 ⟨rfl, hb⟩; refine ⟨_, rfl, ?_⟩; have n0_ := Aside0.mk (below_step (by repeat (first | (with_reducible first | exact HB.out | apply below_alloc | apply pw_below_drewN | apply below_drew1) | exact HB.out)) hb); clear HB; have HB := n0_; clear n0_; (try clear hb); (try clear hb2); (try clear hk); (try clear hi)))
           go_ret
           exact ⟨by first | rfl | (simp [errW_none, errW_some] <;> rfl) | (simp [*, errW_none, errW_some] <;> rfl), by repeat (first | (with_reducible first | exact HB.out | apply below_alloc | apply pw_below_drewN | apply below_drew1) | exact HB.out)⟩
         ·rw [if_neg c42] at H
          have c42b0 : (t372 == 0) = false := beq_eq_false_iff_ne.mpr c42
          have c42b1 : (t372 != 0) = true := bne_iff_ne.mpr c42
          obtain rfl := Option.some.inj H
          go_wp2_with (first | ((with_reducible refine gate_callee (f := 12) rfl ?_); refine goesL_ (some 113) rfl rfl Tryd.func12 (by kernel_rfl) rfl #[.int .i64 t361, .int .i64 t363] rfl (by (try simp only [List.map_toArray, List.map_cons, List.map_nil]); first | done | rfl | (simp only [List.length_drop, List.length_take]; rfl)) ?_; (with_reducible refine (group_Mul.calls t361 t363 t369 t370 _ A37.out).mono ?_); rintro e w54 ⟨rfl, hb⟩; refine ⟨_, rfl, ?_⟩; have n0_ := Aside0.mk (below_step (by repeat (first | (with_reducible first | exact HB.out | apply below_alloc | apply pw_below_drewN | apply below_drew1) | exact HB.out)) hb); clear HB; have HB := n0_; clear n0_; (try clear hb); (try clear hb2); (try clear hk); (try clear hi)) | ((with_reducible refine gate_callee (f := 16) rfl ?_); refine goesL_ (some 119) rfl rfl Tryd.func16 (by kernel_rfl) rfl #[.int .i64 t361, .int .i64 (wrap64 (Int.tmod a3 1073741789))] rfl (by (try simp only [List.map_toArray, List.map_cons, List.map_nil]); first | done | rfl | (simp only [List.length_drop, List.length_take]; rfl)) ?_; (with_reducible refine (group_Exp.calls t361 (wrap64 (Int.tmod a3 1073741789)) t371 t372 _ A38.out).mono ?_); rintro e w55 ⟨rfl, hb⟩; refine ⟨_, rfl, ?_⟩; have n0_ := Aside0.mk (below_step (by repeat (first | (with_reducible first | exact HB.out | apply below_alloc | apply pw_below_drewN | apply below_drew1) | exact HB.out)) hb); clear HB; have HB := n0_; clear n0_; (try clear hb); (try clear hb2); (try clear hk); (try clear hi)) | ((with_reducible refine gate_callee (f := 16) rfl ?_); refine goesL_ (some 128) rfl rfl Tryd.func16 (by kernel_rfl) rfl #[.int .i64 t354, .int .i64 (Int.tmod (wrap64 ((wrap64 (Int.tmod a2 1073741789)) * (wrap64 (Int.tmod a3 1073741789)))) 1073741789)] rfl (by (try simp only [List.map_toArray, List.map_cons, List.map_nil]); first | done | rfl | (simp only [List.length_drop, List.length_take]; rfl)) ?_; (with_reducible refine (group_Exp.calls t354 (Int.tmod (wrap64 ((wrap64 (Int.tmod a2 1073741789)) * (wrap64 (Int.tmod a3 1073741789)))) 1073741789) t373 t374 _ A39.out).mono ?_); rintro e w56 ⟨rfl, hb⟩; refine ⟨_, rfl, ?_⟩; have n0_ := Aside0.mk (below_step (by repeat (first | (with_reducible first | exact HB.out | apply below_alloc | apply pw_below_drewN | apply below_drew1) | exact HB.out)) hb); clear HB; have HB := n0_; clear n0_; (try clear hb); (try clear hb2); (try clear hk); (try clear hi)))
          go_ret
          exact ⟨by first | rfl | (simp [errW_none, errW_some] <;> rfl) | (simp [*, errW_none, errW_some] <;> rfl), by repeat (first | (with_reducible first | exact HB.out | apply below_alloc | apply pw_below_drewN | apply below_drew1) | exact HB.out)⟩
        ·rw [if_neg c41] at H
         have c41b0 : (t370 == 0) = false := beq_eq_false_iff_ne.mpr c41
         have c41b1 : (t370 != 0) = true := bne_iff_ne.mpr c41
         obtain rfl := Option.some.inj H
         go_wp2_with (first | ((with_reducible refine gate_callee (f := 12) rfl ?_); refine goesL_ (some 113) rfl rfl Tryd.func12 (by kernel_rfl) rfl #[.int .i64 t361, .int .i64 t363] rfl (by (try simp only [List.map_toArray, List.map_cons, List.map_nil]); first | done | rfl | (simp only [List.length_drop, List.length_take]; rfl)) ?_; (with_reducible refine (group_Mul.calls t361 t363 t369 t370 _ A37.out).mono ?_); rintro e w57 ⟨rfl, hb⟩; refine ⟨_, rfl, ?_⟩; have n0_ := Aside0.mk (below_step (by repeat (first | (with_reducible first | exact HB.out | apply below_alloc | apply pw_below_drewN | apply below_drew1) | exact HB.out)) hb); clear HB; have HB := n0_; clear n0_; (try clear hb); (try clear hb2); (try clear hk); (try clear hi)) | ((with_reducible refine gate_callee (f := 16) rfl ?_); refine goesL_ (some 119) rfl rfl Tryd.func16 (by kernel_rfl) rfl #[.int .i64 t361, .int .i64 (wrap64 (Int.tmod a3 1073741789))] rfl (by (try simp only [List.map_toArray, List.map_cons, List.map_nil]); first | done | rfl | (simp only [List.length_drop, List.length_take]; rfl)) ?_; (with_reducible refine (group_Exp.calls t361 (wrap64 (Int.tmod a3 1073741789)) t371 t372 _ A38.out).mono ?_); rintro e w58 ⟨rfl, hb⟩; refine ⟨_, rfl, ?_⟩; have n0_ := Aside0.mk (below_step (by repeat (first | (with_reducible first | exact HB.out | apply below_alloc | apply pw_below_drewN | apply below_drew1) | exact HB.out)) hb); clear HB; have HB := n0_; clear n0_; (try clear hb); (try clear hb2); (try clear hk); (try clear hi)) | ((with_reducible refine gate_callee (f := 16) rfl ?_); refine goesL_ (some 128) rfl rfl Tryd.func16 (by kernel_rfl) rfl #[.int .i64 t354, .int .i64 (Int.tmod (wrap64 ((wrap64 (Int.tmod a2 1073741789)) * (wrap64 (Int.tmod a3 1073741789)))) 1073741789)] rfl (by (try simp only [List.map_toArray, List.map_cons, List.map_nil]); first | done | rfl | (simp only [List.length_drop, List.length_take]; rfl)) ?_; (with_reducible refine (group_Exp.calls t354 (Int.tmod (wrap64 ((wrap64 (Int.tmod a2 1073741789)) * (wrap64 (Int.tmod a3 1073741789)))) 1073741789) t373 t374 _ A39.out).mono ?_); rintro e w59 ⟨rfl, hb⟩; refine ⟨_, rfl, ?_⟩; have n0_ := Aside0.mk (below_step (by repeat (first | (with_reducible first | exact HB.out | apply below_alloc | apply pw_below_drewN | apply below_drew1) | exact HB.out)) hb); clear HB; have HB := n0_; clear n0_; (try clear hb); (try clear hb2); (try clear hk); (try clear hi)))
         go_ret
         exact ⟨by first | rfl | (simp [errW_none, errW_some] <;> rfl) | (simp [*, errW_none, errW_some] <;> rfl), by repeat (first | (with_reducible first | exact HB.out | apply below_alloc | apply pw_below_drewN | apply below_drew1) | exact HB.out)⟩
       ·replace c40 := Bool.eq_false_iff.mpr c40
        subst c40
        have H1 : (some false) = some r := by rw [if_neg (show ¬ (false = true) by decide)] at H; exact H
        clear H
        have H := H1
        clear H1
        obtain rfl := Option.some.inj H
        go_wp2_with (first | ((with_reducible refine gate_callee (f := 12) rfl ?_); refine goesL_ (some 113) rfl rfl Tryd.func12 (by kernel_rfl) rfl #[.int .i64 t361, .int .i64 t363] rfl (by (try simp only [List.map_toArray, List.map_cons, List.map_nil]); first | done | rfl | (simp only [List.length_drop, List.length_take]; rfl)) ?_; (with_reducible refine (group_Mul.calls t361 t363 t369 t370 _ A37.out).mono ?_); rintro e w60 ⟨rfl, hb⟩; refine ⟨_, rfl, ?_⟩; have n0_ := Aside0.mk (below_step (by repeat (first | (with_reducible first | exact HB.out | apply below_alloc | apply pw_below_drewN | apply below_drew1) | exact HB.out)) hb); clear HB; have HB := n0_; clear n0_; (try clear hb); (try clear hb2); (try clear hk); (try clear hi)) | ((with_reducible refine gate_callee (f := 16) rfl ?_); refine goesL_ (some 119) rfl rfl Tryd.func16 (by kernel_rfl) rfl #[.int .i64 t361, .int .i64 (wrap64 (Int.tmod a3 1073741789))] rfl (by (try simp only [List.map_toArray, List.map_cons, List.map_nil]); first | done | rfl | (simp only [List.length_drop, List.length_take]; rfl)) ?_; (with_reducible refine (group_Exp.calls t361 (wrap64 (Int.tmod a3 1073741789)) t371 t372 _ A38.out).mono ?_); rintro e w61 ⟨rfl, hb⟩; refine ⟨_, rfl, ?_⟩; have n0_ := Aside0.mk (below_step (by repeat (first | (with_reducible first | exact HB.out | apply below_alloc | apply pw_below_drewN | apply below_drew1) | exact HB.out)) hb); clear HB; have HB := n0_; clear n0_; (try clear hb); (try clear hb2); (try clear hk); (try clear hi)) | ((with_reducible refine gate_callee (f := 16) rfl ?_); refine goesL_ (some 128) rfl rfl Tryd.func16 (by kernel_rfl) rfl #[.int .i64 t354, .int .i64 (Int.tmod (wrap64 ((wrap64 (Int.tmod a2 1073741789)) * (wrap64 (Int.tmod a3 1073741789)))) 1073741789)] rfl (by (try simp only [List.map_toArray, List.map_cons, List.map_nil]); first | done | rfl | (simp only [List.length_drop, List.length_take]; rfl)) ?_; (with_reducible refine (group_Exp.calls t354 (Int.tmod (wrap64 ((wrap64 (Int.tmod a2 1073741789)) * (wrap64 (Int.tmod a3 1073741789)))) 1073741789) t373 t374 _ A39.out).mono ?_); rintro e w62 ⟨rfl, hb⟩; refine ⟨_, rfl, ?_⟩; have n0_ := Aside0.mk (below_step (by repeat (first | (with_reducible first | exact HB.out | apply below_alloc | apply pw_below_drewN | apply below_drew1) | exact HB.out)) hb); clear HB; have HB := n0_; clear n0_; (try clear hb); (try clear hb2); (try clear hk); (try clear hi)))
        go_ret
        exact ⟨by first | rfl | (simp [errW_none, errW_some] <;> rfl) | (simp [*, errW_none, errW_some] <;> rfl), by repeat (first | (with_reducible first | exact HB.out | apply below_alloc | apply pw_below_drewN | apply below_drew1) | exact HB.out)⟩

/-! ### cohousingref08_Secret: function 30 -/
def cohousingref08_Secret.f (a0 : Int) : Option (Int) := some (wrap64 (1 + (wrap64 (Int.tmod a0 1073741788))))
set_option maxHeartbeats 8000000 in
set_option maxRecDepth 100000 in
theorem cohousingref08_Secret.calls (a0 : Int) (r : Int) (w : World) (h : cohousingref08_Secret.f a0 = some r) :
  Calls Tryd.prog 30 #[.int .u64 a0] w fun e w' => e = .returned (.int .i64 r) ∧ Drawn0 w w' := by
 have H : (some (wrap64 (1 + (wrap64 (Int.tmod a0 1073741788))))) = some r := h
 clear h
 obtain rfl := Option.some.inj H
 go_enter Tryd.func30, Tryd.ntmps30
 go_wp2
 go_ret
 exact ⟨by first | rfl | (simp; done) | (simp [*]; done), by repeat (first | exact Drawn0.refl _ | apply Drawn0.step)⟩

/-! ### cohousinglaw08_GroupCommits: function 5 -/
def cohousinglaw08_GroupCommits.f (k : Nat) (a0 : Int) (a1 : Int) (a2 : Int) (a3 : Int) (a4 : Int) : Option (Bool) := (cohousinglaw08_head.f k).bind fun t375 => ((cohousingref08_Secret.f a0).bind fun t376 => ((cohousingref08_Power.f k 4 t376 2147483579).bind fun t377 => ((group_Commit.f k t377 (wrap64 (Int.tmod a1 1073741789)) (wrap64 (Int.tmod a3 1073741789))).bind fun bt378 => ((group_Commit.f k t377 (wrap64 (Int.tmod a2 1073741789)) (wrap64 (Int.tmod a4 1073741789))).bind fun bt380 => ((group_Commit.f k t377 (Int.tmod (wrap64 ((wrap64 (Int.tmod a1 1073741789)) + (wrap64 (Int.tmod a2 1073741789)))) 1073741789) (Int.tmod (wrap64 ((wrap64 (Int.tmod a3 1073741789)) + (wrap64 (Int.tmod a4 1073741789)))) 1073741789)).bind fun bt382 => (if bt378.2 = 0 then (if bt380.2 = 0 then (if bt382.2 = 0 then ((group_Mul.f bt378.1 bt380.1).bind fun bt384 => (if t375 = true then (if bt384.2 = 0 then (some (bt384.1 == bt382.1)) else (some false)) else (some false))) else (some false)) else (some false)) else (some false)))))))
theorem cohousinglaw08_GroupCommits.mono : ∀ a0 a1 a2 a3 a4 k, LeO (cohousinglaw08_GroupCommits.f k a0 a1 a2 a3 a4) (cohousinglaw08_GroupCommits.f (k + 1) a0 a1 a2 a3 a4) := by
 intro a0 a1 a2 a3 a4 k
 unfold cohousinglaw08_GroupCommits.f
 repeat' first
   | (with_reducible exact cohousinglaw08_head.mono _)
   | (with_reducible exact cohousingref08_Power.mono _ _ _ _)
   | (with_reducible exact group_Commit.mono _ _ _ _)
   | (with_reducible exact LeO.refl _)
   | (with_reducible exact LeO.none _)
   | (with_reducible refine LeO.ite ?_ ?_)
   | (with_reducible refine LeO.bind ?_ (fun _ => ?_))
   | exact cohousinglaw08_head.mono _
   | exact cohousingref08_Power.mono _ _ _ _
   | exact group_Commit.mono _ _ _ _
   | exact LeO.none _
   | refine LeO.ite ?_ ?_
   | refine LeO.bind ?_ (fun _ => ?_)
set_option maxHeartbeats 8000000 in
set_option maxRecDepth 100000 in
theorem cohousinglaw08_GroupCommits.calls (k : Nat) (a0 : Int) (a1 : Int) (a2 : Int) (a3 : Int) (a4 : Int) (r : Bool) (w : World) (hT : TabOk w) (h : cohousinglaw08_GroupCommits.f k a0 a1 a2 a3 a4 = some r) :
  Calls Tryd.prog 5 #[.int .u64 a0, .int .u64 a1, .int .u64 a2, .int .u64 a3, .int .u64 a4] w fun e w' => e = .returned (.bool r) ∧ Below w.heap.size w w' := by
 have HT := Aside0.mk hT
 clear hT
 have HB := Aside0.mk (Below.refl w.heap.size w)
 have H : ((cohousinglaw08_head.f k).bind fun t375 => ((cohousingref08_Secret.f a0).bind fun t376 => ((cohousingref08_Power.f k 4 t376 2147483579).bind fun t377 => ((group_Commit.f k t377 (wrap64 (Int.tmod a1 1073741789)) (wrap64 (Int.tmod a3 1073741789))).bind fun bt378 => ((group_Commit.f k t377 (wrap64 (Int.tmod a2 1073741789)) (wrap64 (Int.tmod a4 1073741789))).bind fun bt380 => ((group_Commit.f k t377 (Int.tmod (wrap64 ((wrap64 (Int.tmod a1 1073741789)) + (wrap64 (Int.tmod a2 1073741789)))) 1073741789) (Int.tmod (wrap64 ((wrap64 (Int.tmod a3 1073741789)) + (wrap64 (Int.tmod a4 1073741789)))) 1073741789)).bind fun bt382 => (if bt378.2 = 0 then (if bt380.2 = 0 then (if bt382.2 = 0 then ((group_Mul.f bt378.1 bt380.1).bind fun bt384 => (if t375 = true then (if bt384.2 = 0 then (some (bt384.1 == bt382.1)) else (some false)) else (some false))) else (some false)) else (some false)) else (some false)))))))) = some r := h
 clear h
 replace H := Option.bind_eq_some_iff.mp H
 obtain ⟨t375, A60, H⟩ := H
 replace H : ((cohousingref08_Secret.f a0).bind fun t376 => ((cohousingref08_Power.f k 4 t376 2147483579).bind fun t377 => ((group_Commit.f k t377 (wrap64 (Int.tmod a1 1073741789)) (wrap64 (Int.tmod a3 1073741789))).bind fun bt378 => ((group_Commit.f k t377 (wrap64 (Int.tmod a2 1073741789)) (wrap64 (Int.tmod a4 1073741789))).bind fun bt380 => ((group_Commit.f k t377 (Int.tmod (wrap64 ((wrap64 (Int.tmod a1 1073741789)) + (wrap64 (Int.tmod a2 1073741789)))) 1073741789) (Int.tmod (wrap64 ((wrap64 (Int.tmod a3 1073741789)) + (wrap64 (Int.tmod a4 1073741789)))) 1073741789)).bind fun bt382 => (if bt378.2 = 0 then (if bt380.2 = 0 then (if bt382.2 = 0 then ((group_Mul.f bt378.1 bt380.1).bind fun bt384 => (if t375 = true then (if bt384.2 = 0 then (some (bt384.1 == bt382.1)) else (some false)) else (some false))) else (some false)) else (some false)) else (some false))))))) = some r := H
 have A6 := Aside0.mk A60
 clear A60
 replace H := Option.bind_eq_some_iff.mp H
 obtain ⟨t376, A70, H⟩ := H
 replace H : ((cohousingref08_Power.f k 4 t376 2147483579).bind fun t377 => ((group_Commit.f k t377 (wrap64 (Int.tmod a1 1073741789)) (wrap64 (Int.tmod a3 1073741789))).bind fun bt378 => ((group_Commit.f k t377 (wrap64 (Int.tmod a2 1073741789)) (wrap64 (Int.tmod a4 1073741789))).bind fun bt380 => ((group_Commit.f k t377 (Int.tmod (wrap64 ((wrap64 (Int.tmod a1 1073741789)) + (wrap64 (Int.tmod a2 1073741789)))) 1073741789) (Int.tmod (wrap64 ((wrap64 (Int.tmod a3 1073741789)) + (wrap64 (Int.tmod a4 1073741789)))) 1073741789)).bind fun bt382 => (if bt378.2 = 0 then (if bt380.2 = 0 then (if bt382.2 = 0 then ((group_Mul.f bt378.1 bt380.1).bind fun bt384 => (if t375 = true then (if bt384.2 = 0 then (some (bt384.1 == bt382.1)) else (some false)) else (some false))) else (some false)) else (some false)) else (some false)))))) = some r := H
 have A7 := Aside0.mk A70
 clear A70
 replace H := Option.bind_eq_some_iff.mp H
 obtain ⟨t377, A80, H⟩ := H
 replace H : ((group_Commit.f k t377 (wrap64 (Int.tmod a1 1073741789)) (wrap64 (Int.tmod a3 1073741789))).bind fun bt378 => ((group_Commit.f k t377 (wrap64 (Int.tmod a2 1073741789)) (wrap64 (Int.tmod a4 1073741789))).bind fun bt380 => ((group_Commit.f k t377 (Int.tmod (wrap64 ((wrap64 (Int.tmod a1 1073741789)) + (wrap64 (Int.tmod a2 1073741789)))) 1073741789) (Int.tmod (wrap64 ((wrap64 (Int.tmod a3 1073741789)) + (wrap64 (Int.tmod a4 1073741789)))) 1073741789)).bind fun bt382 => (if bt378.2 = 0 then (if bt380.2 = 0 then (if bt382.2 = 0 then ((group_Mul.f bt378.1 bt380.1).bind fun bt384 => (if t375 = true then (if bt384.2 = 0 then (some (bt384.1 == bt382.1)) else (some false)) else (some false))) else (some false)) else (some false)) else (some false))))) = some r := H
 have A8 := Aside0.mk A80
 clear A80
 replace H := Option.bind_eq_some_iff.mp H
 obtain ⟨⟨t378, t379⟩, A90, H⟩ := H
 replace H : ((group_Commit.f k t377 (wrap64 (Int.tmod a2 1073741789)) (wrap64 (Int.tmod a4 1073741789))).bind fun bt380 => ((group_Commit.f k t377 (Int.tmod (wrap64 ((wrap64 (Int.tmod a1 1073741789)) + (wrap64 (Int.tmod a2 1073741789)))) 1073741789) (Int.tmod (wrap64 ((wrap64 (Int.tmod a3 1073741789)) + (wrap64 (Int.tmod a4 1073741789)))) 1073741789)).bind fun bt382 => (if t379 = 0 then (if bt380.2 = 0 then (if bt382.2 = 0 then ((group_Mul.f t378 bt380.1).bind fun bt384 => (if t375 = true then (if bt384.2 = 0 then (some (bt384.1 == bt382.1)) else (some false)) else (some false))) else (some false)) else (some false)) else (some false)))) = some r := H
 have A9 := Aside0.mk A90
 clear A90
 replace H := Option.bind_eq_some_iff.mp H
 obtain ⟨⟨t380, t381⟩, A100, H⟩ := H
 replace H : ((group_Commit.f k t377 (Int.tmod (wrap64 ((wrap64 (Int.tmod a1 1073741789)) + (wrap64 (Int.tmod a2 1073741789)))) 1073741789) (Int.tmod (wrap64 ((wrap64 (Int.tmod a3 1073741789)) + (wrap64 (Int.tmod a4 1073741789)))) 1073741789)).bind fun bt382 => (if t379 = 0 then (if t381 = 0 then (if bt382.2 = 0 then ((group_Mul.f t378 t380).bind fun bt384 => (if t375 = true then (if bt384.2 = 0 then (some (bt384.1 == bt382.1)) else (some false)) else (some false))) else (some false)) else (some false)) else (some false))) = some r := H
 have A10 := Aside0.mk A100
 clear A100
 replace H := Option.bind_eq_some_iff.mp H
 obtain ⟨⟨t382, t383⟩, A110, H⟩ := H
 replace H : (if t379 = 0 then (if t381 = 0 then (if t383 = 0 then ((group_Mul.f t378 t380).bind fun bt384 => (if t375 = true then (if bt384.2 = 0 then (some (bt384.1 == t382)) else (some false)) else (some false))) else (some false)) else (some false)) else (some false)) = some r := H
 have A11 := Aside0.mk A110
 clear A110
 by_cases c12 : t379 = 0
 ·rw [if_pos c12] at H
  have c12b0 : (t379 == 0) = true := beq_iff_eq.mpr c12
  have c12b1 : (t379 != 0) = false := bne_eq_false_iff_eq.mpr c12
  clear c12
  by_cases c13 : t381 = 0
  ·rw [if_pos c13] at H
   have c13b0 : (t381 == 0) = true := beq_iff_eq.mpr c13
   have c13b1 : (t381 != 0) = false := bne_eq_false_iff_eq.mpr c13
   clear c13
   by_cases c14 : t383 = 0
   ·rw [if_pos c14] at H
    have c14b0 : (t383 == 0) = true := beq_iff_eq.mpr c14
    have c14b1 : (t383 != 0) = false := bne_eq_false_iff_eq.mpr c14
    clear c14
    replace H := Option.bind_eq_some_iff.mp H
    obtain ⟨⟨t384, t385⟩, A150, H⟩ := H
    replace H : (if t375 = true then (if t385 = 0 then (some (t384 == t382)) else (some false)) else (some false)) = some r := H
    have A15 := Aside0.mk A150
    clear A150
    by_cases c16 : t375 = true
    ·subst c16
     have H1 : (if t385 = 0 then (some (t384 == t382)) else (some false)) = some r := by rw [if_pos rfl] at H; exact H
     clear H
     have H := H1
     clear H1
     by_cases c17 : t385 = 0
     ·rw [if_pos c17] at H
      have c17b0 : (t385 == 0) = true := beq_iff_eq.mpr c17
      have c17b1 : (t385 != 0) = false := bne_eq_false_iff_eq.mpr c17
      clear c17
      obtain rfl := Option.some.inj H
      go_enter Tryd.func5, Tryd.ntmps5
      go_wp2_with (first | ((with_reducible refine gate_callee (f := 10) rfl ?_); refine goesL_ (some 25) rfl rfl Tryd.func10 (by kernel_rfl) rfl #[] rfl (by (try simp only [List.map_toArray, List.map_cons, List.map_nil]); first | done | rfl | (simp only [List.length_drop, List.length_take]; rfl)) ?_; (with_reducible refine (cohousinglaw08_head.calls k  true _ ?side1 A6.out).mono ?_); (case side1 => exact TabOk.below HT.out (by repeat (first | (with_reducible first | exact HB.out | apply below_alloc | apply pw_below_drewN | apply below_drew1) | exact HB.out))); rintro e w18 ⟨rfl, hb⟩; refine ⟨_, rfl, ?_⟩; have n0_ := Aside0.mk (below_step (by repeat (first | (with_reducible first | exact HB.out | apply below_alloc | apply pw_below_drewN | apply below_drew1) | exact HB.out)) hb); clear HB; have HB := n0_; clear n0_; (try clear hb); (try clear hb2); (try clear hk); (try clear hi)) | ((with_reducible refine gate_callee (f := 30) rfl ?_); refine goesL_ (some 27) rfl rfl Tryd.func30 (by kernel_rfl) rfl #[.int .u64 a0] rfl (by (try simp only [List.map_toArray, List.map_cons, List.map_nil]); first | done | rfl | (simp only [List.length_drop, List.length_take]; rfl)) ?_; (with_reducible refine (cohousingref08_Secret.calls a0 t376 _ A7.out).mono ?_); rintro e w' ⟨rfl, ⟨nd, rfl⟩⟩; refine ⟨_, rfl, ?_⟩) | ((with_reducible refine gate_callee (f := 29) rfl ?_); refine goesL_ (some 28) rfl rfl Tryd.func29 (by kernel_rfl) rfl #[.int .i64 4, .int .i64 t376, .int .i64 2147483579] rfl (by (try simp only [List.map_toArray, List.map_cons, List.map_nil]); first | done | rfl | (simp only [List.length_drop, List.length_take]; rfl)) ?_; (with_reducible refine (cohousingref08_Power.calls k 4 t376 2147483579 t377 _ A8.out).mono ?_); rintro e w' ⟨rfl, ⟨nd, rfl⟩⟩; refine ⟨_, rfl, ?_⟩) | ((with_reducible refine gate_callee (f := 18) rfl ?_); refine goesL_ (some 45) rfl rfl Tryd.func18 (by kernel_rfl) rfl #[.int .i64 t377, .int .i64 (wrap64 (Int.tmod a1 1073741789)), .int .i64 (wrap64 (Int.tmod a3 1073741789))] rfl (by (try simp only [List.map_toArray, List.map_cons, List.map_nil]); first | done | rfl | (simp only [List.length_drop, List.length_take]; rfl)) ?_; (with_reducible refine (group_Commit.calls k t377 (wrap64 (Int.tmod a1 1073741789)) (wrap64 (Int.tmod a3 1073741789)) t378 t379 _ A9.out).mono ?_); rintro e w19 ⟨rfl, hb⟩; refine ⟨_, rfl, ?_⟩; have n0_ := Aside0.mk (below_step (by repeat (first | (with_reducible first | exact HB.out | apply below_alloc | apply pw_below_drewN | apply below_drew1) | exact HB.out)) hb); clear HB; have HB := n0_; clear n0_; (try clear hb); (try clear hb2); (try clear hk); (try clear hi)) | ((with_reducible refine gate_callee (f := 18) rfl ?_); refine goesL_ (some 52) rfl rfl Tryd.func18 (by kernel_rfl) rfl #[.int .i64 t377, .int .i64 (wrap64 (Int.tmod a2 1073741789)), .int .i64 (wrap64 (Int.tmod a4 1073741789))] rfl (by (try simp only [List.map_toArray, List.map_cons, List.map_nil]); first | done | rfl | (simp only [List.length_drop, List.length_take]; rfl)) ?_; (with_reducible refine (group_Commit.calls k t377 (wrap64 (Int.tmod a2 1073741789)) (wrap64 (Int.tmod a4 1073741789)) t380 t381 _ A10.out).mono ?_); rintro e w20 ⟨rfl, hb⟩; refine ⟨_, rfl, ?_⟩; have n0_ := Aside0.mk (below_step (by repeat (first | (with_reducible first | exact HB.out | apply below_alloc | apply pw_below_drewN | apply below_drew1) | exact HB.out)) hb); clear HB; have HB := n0_; clear n0_; (try clear hb); (try clear hb2); (try clear hk); (try clear hi)) | ((with_reducible refine gate_callee (f := 18) rfl ?_); refine goesL_ (some 65) rfl rfl Tryd.func18 (by kernel_rfl) rfl #[.int .i64 t377, .int .i64 (Int.tmod (wrap64 ((wrap64 (Int.tmod a1 1073741789)) + (wrap64 (Int.tmod a2 1073741789)))) 1073741789), .int .i64 (Int.tmod (wrap64 ((wrap64 (Int.tmod a3 1073741789)) + (wrap64 (Int.tmod a4 1073741789)))) 1073741789)] rfl (by (try simp only [List.map_toArray, List.map_cons, List.map_nil]); first | done | rfl | (simp only [List.length_drop, List.length_take]; rfl)) ?_; (with_reducible refine (group_Commit.calls k t377 (Int.tmod (wrap64 ((wrap64 (Int.tmod a1 1073741789)) + (wrap64 (Int.tmod a2 1073741789)))) 1073741789) (Int.tmod (wrap64 ((wrap64 (Int.tmod a3 1073741789)) + (wrap64 (Int.tmod a4 1073741789)))) 1073741789) t382 t383 _ A11.out).mono ?_); rintro e w21 ⟨rfl, hb⟩; refine ⟨_, rfl, ?_⟩; have n0_ := Aside0.mk (below_step (by repeat (first | (with_reducible first | exact HB.out | apply below_alloc | apply pw_below_drewN | apply below_drew1) | exact HB.out)) hb); clear HB; have HB := n0_; clear n0_; (try clear hb); (try clear hb2); (try clear hk); (try clear hi)) | ((with_reducible refine gate_callee (f := 12) rfl ?_); refine goesL_ (some 81) rfl rfl Tryd.func12 (by kernel_rfl) rfl #[.int .i64 t378, .int .i64 t380] rfl (by (try simp only [List.map_toArray, List.map_cons, List.map_nil]); first | done | rfl | (simp only [List.length_drop, List.length_take]; rfl)) ?_; (with_reducible refine (group_Mul.calls t378 t380 t384 t385 _ A15.out).mono ?_); rintro e w22 ⟨rfl, hb⟩; refine ⟨_, rfl, ?_⟩; have n0_ := Aside0.mk (below_step (by repeat (first | (with_reducible first | exact HB.out | apply below_alloc | apply pw_below_drewN | apply below_drew1) | exact HB.out)) hb); clear HB; have HB := n0_; clear n0_; (try clear hb); (try clear hb2); (try clear hk); (try clear hi)))
      go_ret
      exact ⟨by first | rfl | (simp [errW_none, errW_some] <;> rfl) | (simp [*, errW_none, errW_some] <;> rfl), by repeat (first | (with_reducible first | exact HB.out | apply below_alloc | apply pw_below_drewN | apply below_drew1) | exact HB.out)⟩
     ·rw [if_neg c17] at H
      have c17b0 : (t385 == 0) = false := beq_eq_false_iff_ne.mpr c17
      have c17b1 : (t385 != 0) = true := bne_iff_ne.mpr c17
      obtain rfl := Option.some.inj H
      go_enter Tryd.func5, Tryd.ntmps5
      go_wp2_with (first | ((with_reducible refine gate_callee (f := 10) rfl ?_); refine goesL_ (some 25) rfl rfl Tryd.func10 (by kernel_rfl) rfl #[] rfl (by (try simp only [List.map_toArray, List.map_cons, List.map_nil]); first | done | rfl | (simp only [List.length_drop, List.length_take]; rfl)) ?_; (with_reducible refine (cohousinglaw08_head.calls k  true _ ?side1 A6.out).mono ?_); (case side1 => exact TabOk.below HT.out (by repeat (first | (with_reducible first | exact HB.out | apply below_alloc | apply pw_below_drewN | apply below_drew1) | exact HB.out))); rintro e w23 ⟨rfl, hb⟩; refine ⟨_, rfl, ?_⟩; have n0_ := Aside0.mk (below_step (by repeat (first | (with_reducible first | exact HB.out | apply below_alloc | apply pw_below_drewN | apply below_drew1) | exact HB.out)) hb); clear HB; have HB := n0_; clear n0_; (try clear hb); (try clear hb2); (try clear hk); (try clear hi)) | ((with_reducible refine gate_callee (f := 30) rfl ?_); refine goesL_ (some 27) rfl rfl Tryd.func30 (by kernel_rfl) rfl #[.int .u64 a0] rfl (by (try simp only [List.map_toArray, List.map_cons, List.map_nil]); first | done | rfl | (simp only [List.length_drop, List.length_take]; rfl)) ?_; (with_reducible refine (cohousingref08_Secret.calls a0 t376 _ A7.out).mono ?_); rintro e w' ⟨rfl, ⟨nd, rfl⟩⟩; refine ⟨_, rfl, ?_⟩) | ((with_reducible refine gate_callee (f := 29) rfl ?_); refine goesL_ (some 28) rfl rfl Tryd.func29 (by kernel_rfl) rfl #[.int .i64 4, .int .i64 t376, .int .i64 2147483579] rfl (by (try simp only [List.map_toArray, List.map_cons, List.map_nil]); first | done | rfl | (simp only [List.length_drop, List.length_take]; rfl)) ?_; (with_reducible refine (cohousingref08_Power.calls k 4 t376 2147483579 t377 _ A8.out).mono ?_); rintro e w' ⟨rfl, ⟨nd, rfl⟩⟩; refine ⟨_, rfl, ?_⟩) | ((with_reducible refine gate_callee (f := 18) rfl ?_); refine goesL_ (some 45) rfl rfl Tryd.func18 (by kernel_rfl) rfl #[.int .i64 t377, .int .i64 (wrap64 (Int.tmod a1 1073741789)), .int .i64 (wrap64 (Int.tmod a3 1073741789))] rfl (by (try simp only [List.map_toArray, List.map_cons, List.map_nil]); first | done | rfl | (simp only [List.length_drop, List.length_take]; rfl)) ?_; (with_reducible refine (group_Commit.calls k t377 (wrap64 (Int.tmod a1 1073741789)) (wrap64 (Int.tmod a3 1073741789)) t378 t379 _ A9.out).mono ?_); rintro e w24 ⟨rfl, hb⟩; refine ⟨_, rfl, ?_⟩; have n0_ := Aside0.mk (below_step (by repeat (first | (with_reducible first | exact HB.out | apply below_alloc | apply pw_below_drewN | apply below_drew1) | exact HB.out)) hb); clear HB; have HB := n0_; clear n0_; (try clear hb); (try clear hb2); (try clear hk); (try clear hi)) | ((with_reducible refine gate_callee (f := 18) rfl ?_); refine goesL_ (some 52) rfl rfl Tryd.func18 (by kernel_rfl) rfl #[.int .i64 t377, .int .i64 (wrap64 (Int.tmod a2 1073741789)), .int .i64 (wrap64 (Int.tmod a4 1073741789))] rfl (by (try simp only [List.map_toArray, List.map_cons, List.map_nil]); first | done | rfl | (simp only [List.length_drop, List.length_take]; rfl)) ?_; (with_reducible refine (group_Commit.calls k t377 (wrap64 (Int.tmod a2 1073741789)) (wrap64 (Int.tmod a4 1073741789)) t380 t381 _ A10.out).mono ?_); rintro e w25 ⟨rfl, hb⟩; refine ⟨_, rfl, ?_⟩; have n0_ := Aside0.mk (below_step (by repeat (first | (with_reducible first | exact HB.out | apply below_alloc | apply pw_below_drewN | apply below_drew1) | exact HB.out)) hb); clear HB; have HB := n0_; clear n0_; (try clear hb); (try clear hb2); (try clear hk); (try clear hi)) | ((with_reducible refine gate_callee (f := 18) rfl ?_); refine goesL_ (some 65) rfl rfl Tryd.func18 (by kernel_rfl) rfl #[.int .i64 t377, .int .i64 (Int.tmod (wrap64 ((wrap64 (Int.tmod a1 1073741789)) + (wrap64 (Int.tmod a2 1073741789)))) 1073741789), .int .i64 (Int.tmod (wrap64 ((wrap64 (Int.tmod a3 1073741789)) + (wrap64 (Int.tmod a4 1073741789)))) 1073741789)] rfl (by (try simp only [List.map_toArray, List.map_cons, List.map_nil]); first | done | rfl | (simp only [List.length_drop, List.length_take]; rfl)) ?_; (with_reducible refine (group_Commit.calls k t377 (Int.tmod (wrap64 ((wrap64 (Int.tmod a1 1073741789)) + (wrap64 (Int.tmod a2 1073741789)))) 1073741789) (Int.tmod (wrap64 ((wrap64 (Int.tmod a3 1073741789)) + (wrap64 (Int.tmod a4 1073741789)))) 1073741789) t382 t383 _ A11.out).mono ?_); rintro e w26 ⟨rfl, hb⟩; refine ⟨_, rfl, ?_⟩; have n0_ := Aside0.mk (below_step (by repeat (first | (with_reducible first | exact HB.out | apply below_alloc | apply pw_below_drewN | apply below_drew1) | exact HB.out)) hb); clear HB; have HB := n0_; clear n0_; (try clear hb); (try clear hb2); (try clear hk); (try clear hi)) | ((with_reducible refine gate_callee (f := 12) rfl ?_); refine goesL_ (some 81) rfl rfl Tryd.func12 (by kernel_rfl) rfl #[.int .i64 t378, .int .i64 t380] rfl (by (try simp only [List.map_toArray, List.map_cons, List.map_nil]); first | done | rfl | (simp only [List.length_drop, List.length_take]; rfl)) ?_; (with_reducible refine (group_Mul.calls t378 t380 t384 t385 _ A15.out).mono ?_); rintro e w27 ⟨rfl, hb⟩; refine ⟨_, rfl, ?_⟩; have n0_ := Aside0.mk (below_step (by repeat (first | (with_reducible first | exact HB.out | apply below_alloc | apply pw_below_drewN | apply below_drew1) | exact HB.out)) hb); clear HB; have HB := n0_; clear n0_; (try clear hb); (try clear hb2); (try clear hk); (try clear hi)))
      go_ret
      exact ⟨by first | rfl | (simp [errW_none, errW_some] <;> rfl) | (simp [*, errW_none, errW_some] <;> rfl), by repeat (first | (with_reducible first | exact HB.out | apply below_alloc | apply pw_below_drewN | apply below_drew1) | exact HB.out)⟩
    ·replace c16 := Bool.eq_false_iff.mpr c16
     subst c16
     have H1 : (some false) = some r := by rw [if_neg (show ¬ (false = true) by decide)] at H; exact H
     clear H
     have H := H1
     clear H1
     obtain rfl := Option.some.inj H
     go_enter Tryd.func5, Tryd.ntmps5
     go_wp2_with (first | ((with_reducible refine gate_callee (f := 10) rfl ?_); refine goesL_ (some 25) rfl rfl Tryd.func10 (by kernel_rfl) rfl #[] rfl (by (try simp only [List.map_toArray, List.map_cons, List.map_nil]); first | done | rfl | (simp only [List.length_drop, List.length_take]; rfl)) ?_; (with_reducible refine (cohousinglaw08_head.calls k  false _ ?side1 A6.out).mono ?_); (case side1 => exact TabOk.below HT.out (by repeat (first | (with_reducible first | exact HB.out | apply below_alloc | apply pw_below_drewN | apply below_drew1) | exact HB.out))); rintro e w28 ⟨rfl, hb⟩; refine ⟨_, rfl, ?_⟩; have n0_ := Aside0.mk (below_step (by repeat (first | (with_reducible first | exact HB.out | apply below_alloc | apply pw_below_drewN | apply below_drew1) | exact HB.out)) hb); clear HB; have HB := n0_; clear n0_; (try clear hb); (try clear hb2); (try clear hk); (try clear hi)) | ((with_reducible refine gate_callee (f := 30) rfl ?_); refine goesL_ (some 27) rfl rfl Tryd.func30 (by kernel_rfl) rfl #[.int .u64 a0] rfl (by (try simp only [List.map_toArray, List.map_cons, List.map_nil]); first | done | rfl | (simp only [List.length_drop, List.length_take]; rfl)) ?_; (with_reducible refine (cohousingref08_Secret.calls a0 t376 _ A7.out).mono ?_); rintro e w' ⟨rfl, ⟨nd, rfl⟩⟩; refine ⟨_, rfl, ?_⟩) | ((with_reducible refine gate_callee (f := 29) rfl ?_); refine goesL_ (some 28) rfl rfl Tryd.func29 (by kernel_rfl) rfl #[.int .i64 4, .int .i64 t376, .int .i64 2147483579] rfl (by (try simp only [List.map_toArray, List.map_cons, List.map_nil]); first | done | rfl | (simp only [List.length_drop, List.length_take]; rfl)) ?_; (with_reducible refine (cohousingref08_Power.calls k 4 t376 2147483579 t377 _ A8.out).mono ?_); rintro e w' ⟨rfl, ⟨nd, rfl⟩⟩; refine ⟨_, rfl, ?_⟩) | ((with_reducible refine gate_callee (f := 18) rfl ?_); refine goesL_ (some 45) rfl rfl Tryd.func18 (by kernel_rfl) rfl #[.int .i64 t377, .int .i64 (wrap64 (Int.tmod a1 1073741789)), .int .i64 (wrap64 (Int.tmod a3 1073741789))] rfl (by (try simp only [List.map_toArray, List.map_cons, List.map_nil]); first | done | rfl | (simp only [List.length_drop, List.length_take]; rfl)) ?_; (with_reducible refine (group_Commit.calls k t377 (wrap64 (Int.tmod a1 1073741789)) (wrap64 (Int.tmod a3 1073741789)) t378 t379 _ A9.out).mono ?_); rintro e w29 ⟨rfl, hb⟩; refine ⟨_, rfl, ?_⟩; have n0_ := Aside0.mk (below_step (by repeat (first | (with_reducible first | exact HB.out | apply below_alloc | apply pw_below_drewN | apply below_drew1) | exact HB.out)) hb); clear HB; have HB := n0_; clear n0_; (try clear hb); (try clear hb2); (try clear hk); (try clear hi)) | ((with_reducible refine gate_callee (f := 18) rfl ?_); refine goesL_ (some 52) rfl rfl Tryd.func18 (by kernel_rfl) rfl #[.int .i64 t377, .int .i64 (wrap64 (Int.tmod a2 1073741789)), .int .i64 (wrap64 (Int.tmod a4 1073741789))] rfl (by (try simp only [List.map_toArray, List.map_cons, List.map_nil]); first | done | rfl | (simp only [List.length_drop, List.length_take]; rfl)) ?_; (with_reducible refine (group_Commit.calls k t377 (wrap64 (Int.tmod a2 1073741789)) (wrap64 (Int.tmod a4 1073741789)) t380 t381 _ A10.out).mono ?_); rintro e w30 ⟨rfl, hb⟩; refine ⟨_, rfl, ?_⟩; have n0_ := Aside0.mk (below_step (by repeat (first | (with_reducible first | exact HB.out | apply below_alloc | apply pw_below_drewN | apply below_drew1) | exact HB.out)) hb); clear HB; have HB := n0_; clear n0_; (try clear hb); (try clear hb2); (try clear hk); (try clear hi)) | ((with_reducible refine gate_callee (f := 18) rfl ?_); refine goesL_ (some 65) rfl rfl Tryd.func18 (by kernel_rfl) rfl #[.int .i64 t377, .int .i64 (Int.tmod (wrap64 ((wrap64 (Int.tmod a1 1073741789)) + (wrap64 (Int.tmod a2 1073741789)))) 1073741789), .int .i64 (Int.tmod (wrap64 ((wrap64 (Int.tmod a3 1073741789)) + (wrap64 (Int.tmod a4 1073741789)))) 1073741789)] rfl (by (try simp only [List.map_toArray, List.map_cons, List.map_nil]); first | done | rfl | (simp only [List.length_drop, List.length_take]; rfl)) ?_; (with_reducible refine (group_Commit.calls k t377 (Int.tmod (wrap64 ((wrap64 (Int.tmod a1 1073741789)) + (wrap64 (Int.tmod a2 1073741789)))) 1073741789) (Int.tmod (wrap64 ((wrap64 (Int.tmod a3 1073741789)) + (wrap64 (Int.tmod a4 1073741789)))) 1073741789) t382 t383 _ A11.out).mono ?_); rintro e w31 ⟨rfl, hb⟩; refine ⟨_, rfl, ?_⟩; have n0_ := Aside0.mk (below_step (by repeat (first | (with_reducible first | exact HB.out | apply below_alloc | apply pw_below_drewN | apply below_drew1) | exact HB.out)) hb); clear HB; have HB := n0_; clear n0_; (try clear hb); (try clear hb2); (try clear hk); (try clear hi)) | ((with_reducible refine gate_callee (f := 12) rfl ?_); refine goesL_ (some 81) rfl rfl Tryd.func12 (by kernel_rfl) rfl #[.int .i64 t378, .int .i64 t380] rfl (by (try simp only [List.map_toArray, List.map_cons, List.map_nil]); first | done | rfl | (simp only [List.length_drop, List.length_take]; rfl)) ?_; (with_reducible refine (group_Mul.calls t378 t380 t384 t385 _ A15.out).mono ?_); rintro e w32 ⟨rfl, hb⟩; refine ⟨_, rfl, ?_⟩; have n0_ := Aside0.mk (below_step (by repeat (first | (with_reducible first | exact HB.out | apply below_alloc | apply pw_below_drewN | apply below_drew1) | exact HB.out)) hb); clear HB; have HB := n0_; clear n0_; (try clear hb); (try clear hb2); (try clear hk); (try clear hi)))
     go_ret
     exact ⟨by first | rfl | (simp [errW_none, errW_some] <;> rfl) | (simp [*, errW_none, errW_some] <;> rfl), by repeat (first | (with_reducible first | exact HB.out | apply below_alloc | apply pw_below_drewN | apply below_drew1) | exact HB.out)⟩
   ·rw [if_neg c14] at H
    have c14b0 : (t383 == 0) = false := beq_eq_false_iff_ne.mpr c14
    have c14b1 : (t383 != 0) = true := bne_iff_ne.mpr c14
    obtain rfl := Option.some.inj H
    go_enter Tryd.func5, Tryd.ntmps5
    go_wp2_with (first | ((with_reducible refine gate_callee (f := 10) rfl ?_); refine goesL_ (some 25) rfl rfl Tryd.func10 (by kernel_rfl) rfl #[] rfl (by (try simp only [List.map_toArray, List.map_cons, List.map_nil]); first | done | rfl | (simp only [List.length_drop, List.length_take]; rfl)) ?_; (with_reducible refine (cohousinglaw08_head.calls k  t375 _ ?side1 A6.out).mono ?_); (case side1 => exact TabOk.below HT.out (by repeat (first | (with_reducible first | exact HB.out | apply below_alloc | apply pw_below_drewN | apply below_drew1) | exact HB.out))); rintro e w33 ⟨rfl, hb⟩; refine ⟨_, rfl, ?_⟩; have n0_ := Aside0.mk (below_step (by repeat (first | (with_reducible first | exact HB.out | apply below_alloc | apply pw_below_drewN | apply below_drew1) | exact HB.out)) hb); clear HB; have HB := n0_; clear n0_; (try clear hb); (try clear hb2); (try clear hk); (try clear hi)) | ((with_reducible refine gate_callee (f := 30) rfl ?_); refine goesL_ (some 27) rfl rfl Tryd.func30 (by kernel_rfl) rfl #[.int .u64 a0] rfl (by (try simp only [List.map_toArray, List.map_cons, List.map_nil]); first | done | rfl | (simp only [List.length_drop, List.length_take]; rfl)) ?_; (with_reducible refine (cohousingref08_Secret.calls a0 t376 _ A7.out).mono ?_); rintro e w' ⟨rfl, ⟨nd, rfl⟩⟩; refine ⟨_, rfl, ?_⟩) | ((with_reducible refine gate_callee (f := 29) rfl ?_); refine goesL_ (some 28) rfl rfl Tryd.func29 (by kernel_rfl) rfl #[.int .i64 4, .int .i64 t376, .int .i64 2147483579] rfl (by (try simp only [List.map_toArray, List.map_cons, List.map_nil]); first | done | rfl | (simp only [List.length_drop, List.length_take]; rfl)) ?_; (with_reducible refine (cohousingref08_Power.calls k 4 t376 2147483579 t377 _ A8.out).mono ?_); rintro e w' ⟨rfl, ⟨nd, rfl⟩⟩; refine ⟨_, rfl, ?_⟩) | ((with_reducible refine gate_callee (f := 18) rfl ?_); refine goesL_ (some 45) rfl rfl Tryd.func18 (by kernel_rfl) rfl #[.int .i64 t377, .int .i64 (wrap64 (Int.tmod a1 1073741789)), .int .i64 (wrap64 (Int.tmod a3 1073741789))] rfl (by (try simp only [List.map_toArray, List.map_cons, List.map_nil]); first | done | rfl | (simp only [List.length_drop, List.length_take]; rfl)) ?_; (with_reducible refine (group_Commit.calls k t377 (wrap64 (Int.tmod a1 1073741789)) (wrap64 (Int.tmod a3 1073741789)) t378 t379 _ A9.out).mono ?_); rintro e w34 ⟨rfl, hb⟩; refine ⟨_, rfl, ?_⟩; have n0_ := Aside0.mk (below_step (by repeat (first | (with_reducible first | exact HB.out | apply below_alloc | apply pw_below_drewN | apply below_drew1) | exact HB.out)) hb); clear HB; have HB := n0_; clear n0_; (try clear hb); (try clear hb2); (try clear hk); (try clear hi)) | ((with_reducible refine gate_callee (f := 18) rfl ?_); refine goesL_ (some 52) rfl rfl Tryd.func18 (by kernel_rfl) rfl #[.int .i64 t377, .int .i64 (wrap64 (Int.tmod a2 1073741789)), .int .i64 (wrap64 (Int.tmod a4 1073741789))] rfl (by (try simp only [List.map_toArray, List.map_cons, List.map_nil]); first | done | rfl | (simp only [List.length_drop, List.length_take]; rfl)) ?_; (with_reducible refine (group_Commit.calls k t377 (wrap64 (Int.tmod a2 1073741789)) (wrap64 (Int.tmod a4 1073741789)) t380 t381 _ A10.out).mono ?_); rintro e w35 ⟨rfl, hb⟩; refine ⟨_, rfl, ?_⟩; have n0_ := Aside0.mk (below_step (by repeat (first | (with_reducible first | exact HB.out | apply below_alloc | apply pw_below_drewN | apply below_drew1) | exact HB.out)) hb); clear HB; have HB := n0_; clear n0_; (try clear hb); (try clear hb2); (try clear hk); (try clear hi)) | ((with_reducible refine gate_callee (f := 18) rfl ?_); refine goesL_ (some 65) rfl rfl Tryd.func18 (by kernel_rfl) rfl #[.int .i64 t377, .int .i64 (Int.tmod (wrap64 ((wrap64 (Int.tmod a1 1073741789)) + (wrap64 (Int.tmod a2 1073741789)))) 1073741789), .int .i64 (Int.tmod (wrap64 ((wrap64 (Int.tmod a3 1073741789)) + (wrap64 (Int.tmod a4 1073741789)))) 1073741789)] rfl (by (try simp only [List.map_toArray, List.map_cons, List.map_nil]); first | done | rfl | (simp only [List.length_drop, List.length_take]; rfl)) ?_; (with_reducible refine (group_Commit.calls k t377 (Int.tmod (wrap64 ((wrap64 (Int.tmod a1 1073741789)) + (wrap64 (Int.tmod a2 1073741789)))) 1073741789) (Int.tmod (wrap64 ((wrap64 (Int.tmod a3 1073741789)) + (wrap64 (Int.tmod a4 1073741789)))) 1073741789) t382 t383 _ A11.out).mono ?_); rintro e w36 ⟨rfl, hb⟩; refine ⟨_, rfl, ?_⟩; have n0_ := Aside0.mk (below_step (by repeat (first | (with_reducible first | exact HB.out | apply below_alloc | apply pw_below_drewN | apply below_drew1) | exact HB.out)) hb); clear HB; have HB := n0_; clear n0_; (try clear hb); (try clear hb2); (try clear hk); (try clear hi)))
    go_ret
    exact ⟨by first | rfl | (simp [errW_none, errW_some] <;> rfl) | (simp [*, errW_none, errW_some] <;> rfl), by repeat (first | (with_reducible first | exact HB.out | apply below_alloc | apply pw_below_drewN | apply below_drew1) | exact HB.out)⟩
  ·rw [if_neg c13] at H
   have c13b0 : (t381 == 0) = false := beq_eq_false_iff_ne.mpr c13
   have c13b1 : (t381 != 0) = true := bne_iff_ne.mpr c13
   obtain rfl := Option.some.inj H
   go_enter Tryd.func5, Tryd.ntmps5
   go_wp2_with (first | ((with_reducible refine gate_callee (f := 10) rfl ?_); refine goesL_ (some 25) rfl rfl Tryd.func10 (by kernel_rfl) rfl #[] rfl (by (try simp only [List.map_toArray, List.map_cons, List.map_nil]); first | done | rfl | (simp only [List.length_drop, List.length_take]; rfl)) ?_; (with_reducible refine (cohousinglaw08_head.calls k  t375 _ ?side1 A6.out).mono ?_); (case side1 => exact TabOk.below HT.out (by repeat (first | (with_reducible first | exact HB.out | apply below_alloc | apply pw_below_drewN | apply below_drew1) | exact HB.out))); rintro e w37 ⟨rfl, hb⟩; refine ⟨_, rfl, ?_⟩; have n0_ := Aside0.mk (below_step (by repeat (first | (with_reducible first | exact HB.out | apply below_alloc | apply pw_below_drewN | apply below_drew1) | exact HB.out)) hb); clear HB; have HB := n0_; clear n0_; (try clear hb); (try clear hb2); (try clear hk); (try clear hi)) | ((with_reducible refine gate_callee (f := 30) rfl ?_); refine goesL_ (some 27) rfl rfl Tryd.func30 (by kernel_rfl) rfl #[.int .u64 a0] rfl (by (try simp only [List.map_toArray, List.map_cons, List.map_nil]); first | done | rfl | (simp only [List.length_drop, List.length_take]; rfl)) ?_; (with_reducible refine (cohousingref08_Secret.calls a0 t376 _ A7.out).mono ?_); rintro e w' ⟨rfl, ⟨nd, rfl⟩⟩; refine ⟨_, rfl, ?_⟩) | ((with_reducible refine gate_callee (f := 29) rfl ?_); refine goesL_ (some 28) rfl rfl Tryd.func29 (by kernel_rfl) rfl #[.int .i64 4, .int .i64 t376, .int .i64 2147483579] rfl (by (try simp only [List.map_toArray, List.map_cons, List.map_nil]); first | done | rfl | (simp only [List.length_drop, List.length_take]; rfl)) ?_; (with_reducible refine (cohousingref08_Power.calls k 4 t376 2147483579 t377 _ A8.out).mono ?_); rintro e w' ⟨rfl, ⟨nd, rfl⟩⟩; refine ⟨_, rfl, ?_⟩) | ((with_reducible refine gate_callee (f := 18) rfl ?_); refine goesL_ (some 45) rfl rfl Tryd.func18 (by kernel_rfl) rfl #[.int .i64 t377, .int .i64 (wrap64 (Int.tmod a1 1073741789)), .int .i64 (wrap64 (Int.tmod a3 1073741789))] rfl (by (try simp only [List.map_toArray, List.map_cons, List.map_nil]); first | done | rfl | (simp only [List.length_drop, List.length_take]; rfl)) ?_; (with_reducible refine (group_Commit.calls k t377 (wrap64 (Int.tmod a1 1073741789)) (wrap64 (Int.tmod a3 1073741789)) t378 t379 _ A9.out).mono ?_); rintro e w38 ⟨rfl, hb⟩; refine ⟨_, rfl, ?_⟩; have n0_ := Aside0.mk (below_step (by repeat (first | (with_reducible first | exact HB.out | apply below_alloc | apply pw_below_drewN | apply below_drew1) | exact HB.out)) hb); clear HB; have HB := n0_; clear n0_; (try clear hb); (try clear hb2); (try clear hk); (try clear hi)) | ((with_reducible refine gate_callee (f := 18) rfl ?_); refine goesL_ (some 52) rfl rfl Tryd.func18 (by kernel_rfl) rfl #[.int .i64 t377, .int .i64 (wrap64 (Int.tmod a2 1073741789)), .int .i64 (wrap64 (Int.tmod a4 1073741789))] rfl (by (try simp only [List.map_toArray, List.map_cons, List.map_nil]); first | done | rfl | (simp only [List.length_drop, List.length_take]; rfl)) ?_; (with_reducible refine (group_Commit.calls k t377 (wrap64 (Int.tmod a2 1073741789)) (wrap64 (Int.tmod a4 1073741789)) t380 t381 _ A10.out).mono ?_); rintro e w39 ⟨rfl, hb⟩; refine ⟨_, rfl, ?_⟩; have n0_ := Aside0.mk (below_step (by repeat (first | (with_reducible first | exact HB.out | apply below_alloc | apply pw_below_drewN | apply below_drew1) | exact HB.out)) hb); clear HB; have HB := n0_; clear n0_; (try clear hb); (try clear hb2); (try clear hk); (try clear hi)) | ((with_reducible refine gate_callee (f := 18) rfl ?_); refine goesL_ (some 65) rfl rfl Tryd.func18 (by kernel_rfl) rfl #[.int .i64 t377, .int .i64 (Int.tmod (wrap64 ((wrap64 (Int.tmod a1 1073741789)) + (wrap64 (Int.tmod a2 1073741789)))) 1073741789), .int .i64 (Int.tmod (wrap64 ((wrap64 (Int.tmod a3 1073741789)) + (wrap64 (Int.tmod a4 1073741789)))) 1073741789)] rfl (by (try simp only [List.map_toArray, List.map_cons, List.map_nil]); first | done | rfl | (simp only [List.length_drop, List.length_take]; rfl)) ?_; (with_reducible refine (group_Commit.calls k t377 (Int.tmod (wrap64 ((wrap64 (Int.tmod a1 1073741789)) + (wrap64 (Int.tmod a2 1073741789)))) 1073741789) (Int.tmod (wrap64 ((wrap64 (Int.tmod a3 1073741789)) + (wrap64 (Int.tmod a4 1073741789)))) 1073741789) t382 t383 _ A11.out).mono ?_); rintro e w40 ⟨rfl, hb⟩; refine ⟨_, rfl, ?_⟩; have n0_ := Aside0.mk (below_step (by repeat (first | (with_reducible first | exact HB.out | apply below_alloc | apply pw_below_drewN | apply below_drew1) | exact HB.out)) hb); clear HB; have HB := n0_; clear n0_; (try clear hb); (try clear hb2); (try clear hk); (try clear hi)))
   go_ret
   exact ⟨by first | rfl | (simp [errW_none, errW_some] <;> rfl) | (simp [*, errW_none, errW_some] <;> rfl), by repeat (first | (with_reducible first | exact HB.out | apply below_alloc | apply pw_below_drewN | apply below_drew1) | exact HB.out)⟩
 ·rw [if_neg c12] at H
  have c12b0 : (t379 == 0) = false := beq_eq_false_iff_ne.mpr c12
  have c12b1 : (t379 != 0) = true := bne_iff_ne.mpr c12
  obtain rfl := Option.some.inj H
  go_enter Tryd.func5, Tryd.ntmps5
  go_wp2_with (first | ((with_reducible refine gate_callee (f := 10) rfl ?_); refine goesL_ (some 25) rfl rfl Tryd.func10 (by kernel_rfl) rfl #[] rfl (by (try simp only [List.map_toArray, List.map_cons, List.map_nil]); first | done | rfl | (simp only [List.length_drop, List.length_take]; rfl)) ?_; (with_reducible refine (cohousinglaw08_head.calls k  t375 _ ?side1 A6.out).mono ?_); (case side1 => exact TabOk.below HT.out (by repeat (first | (with_reducible first | exact HB.out | apply below_alloc | apply pw_below_drewN | apply below_drew1) | exact HB.out))); rintro e w41 ⟨rfl, hb⟩; refine ⟨_, rfl, ?_⟩; have n0_ := Aside0.mk (below_step (by repeat (first | (with_reducible first | exact HB.out | apply below_alloc | apply pw_below_drewN | apply below_drew1) | exact HB.out)) hb); clear HB; have HB := n0_; clear n0_; (try clear hb); (try clear hb2); (try clear hk); (try clear hi)) | ((with_reducible refine gate_callee (f := 30) rfl ?_); refine goesL_ (some 27) rfl rfl Tryd.func30 (by kernel_rfl) rfl #[.int .u64 a0] rfl (by (try simp only [List.map_toArray, List.map_cons, List.map_nil]); first | done | rfl | (simp only [List.length_drop, List.length_take]; rfl)) ?_; (with_reducible refine (cohousingref08_Secret.calls a0 t376 _ A7.out).mono ?_); rintro e w' ⟨rfl, ⟨nd, rfl⟩⟩; refine ⟨_, rfl, ?_⟩) | ((with_reducible refine gate_callee (f := 29) rfl ?_); refine goesL_ (some 28) rfl rfl Tryd.func29 (by kernel_rfl) rfl #[.int .i64 4, .int .i64 t376, .int .i64 2147483579] rfl (by (try simp only [List.map_toArray, List.map_cons, List.map_nil]); first | done | rfl | (simp only [List.length_drop, List.length_take]; rfl)) ?_; (with_reducible refine (cohousingref08_Power.calls k 4 t376 2147483579 t377 _ A8.out).mono ?_); rintro e w' ⟨rfl, ⟨nd, rfl⟩⟩; refine ⟨_, rfl, ?_⟩) | ((with_reducible refine gate_callee (f := 18) rfl ?_); refine goesL_ (some 45) rfl rfl Tryd.func18 (by kernel_rfl) rfl #[.int .i64 t377, .int .i64 (wrap64 (Int.tmod a1 1073741789)), .int .i64 (wrap64 (Int.tmod a3 1073741789))] rfl (by (try simp only [List.map_toArray, List.map_cons, List.map_nil]); first | done | rfl | (simp only [List.length_drop, List.length_take]; rfl)) ?_; (with_reducible refine (group_Commit.calls k t377 (wrap64 (Int.tmod a1 1073741789)) (wrap64 (Int.tmod a3 1073741789)) t378 t379 _ A9.out).mono ?_); rintro e w42 ⟨rfl, hb⟩; refine ⟨_, rfl, ?_⟩; have n0_ := Aside0.mk (below_step (by repeat (first | (with_reducible first | exact HB.out | apply below_alloc | apply pw_below_drewN | apply below_drew1) | exact HB.out)) hb); clear HB; have HB := n0_; clear n0_; (try clear hb); (try clear hb2); (try clear hk); (try clear hi)) | ((with_reducible refine gate_callee (f := 18) rfl ?_); refine goesL_ (some 52) rfl rfl Tryd.func18 (by kernel_rfl) rfl #[.int .i64 t377, .int .i64 (wrap64 (Int.tmod a2 1073741789)), .int .i64 (wrap64 (Int.tmod a4 1073741789))] rfl (by (try simp only [List.map_toArray, List.map_cons, List.map_nil]); first | done | rfl | (simp only [List.length_drop, List.length_take]; rfl)) ?_; (with_reducible refine (group_Commit.calls k t377 (wrap64 (Int.tmod a2 1073741789)) (wrap64 (Int.tmod a4 1073741789)) t380 t381 _ A10.out).mono ?_); rintro e w43 ⟨rfl, hb⟩; refine ⟨_, rfl, ?_⟩; have n0_ := Aside0.mk (below_step (by repeat (first | (with_reducible first | exact HB.out | apply below_alloc | apply pw_below_drewN | apply below_drew1) | exact HB.out)) hb); clear HB; have HB := n0_; clear n0_; (try clear hb); (try clear hb2); (try clear hk); (try clear hi)) | ((with_reducible refine gate_callee (f := 18) rfl ?_); refine goesL_ (some 65) rfl rfl Tryd.func18 (by kernel_rfl) rfl #[.int .i64 t377, .int .i64 (Int.tmod (wrap64 ((wrap64 (Int.tmod a1 1073741789)) + (wrap64 (Int.tmod a2 1073741789)))) 1073741789), .int .i64 (Int.tmod (wrap64 ((wrap64 (Int.tmod a3 1073741789)) + (wrap64 (Int.tmod a4 1073741789)))) 1073741789)] rfl (by (try simp only [List.map_toArray, List.map_cons, List.map_nil]); first | done | rfl | (simp only [List.length_drop, List.length_take]; rfl)) ?_; (with_reducible refine (group_Commit.calls k t377 (Int.tmod (wrap64 ((wrap64 (Int.tmod a1 1073741789)) + (wrap64 (Int.tmod a2 1073741789)))) 1073741789) (Int.tmod (wrap64 ((wrap64 (Int.tmod a3 1073741789)) + (wrap64 (Int.tmod a4 1073741789)))) 1073741789) t382 t383 _ A11.out).mono ?_); rintro e w44 ⟨rfl, hb⟩; refine ⟨_, rfl, ?_⟩; have n0_ := Aside0.mk (below_step (by repeat (first | (with_reducible first | exact HB.out | apply below_alloc | apply pw_below_drewN | apply below_drew1) | exact HB.out)) hb); clear HB; have HB := n0_; clear n0_; (try clear hb); (try clear hb2); (try clear hk); (try clear hi)))
  go_ret
  exact ⟨by first | rfl | (simp [errW_none, errW_some] <;> rfl) | (simp [*, errW_none, errW_some] <;> rfl), by repeat (first | (with_reducible first | exact HB.out | apply below_alloc | apply pw_below_drewN | apply below_drew1) | exact HB.out)⟩

/-! ### cohousingref08_Rest: function 31 -/
def cohousingref08_Rest.f (a0 : Int) : Option (Int) := some (Int.tmod (wrap64 ((Int.tmod a0 1073741789) + 1073741789)) 1073741789)
set_option maxHeartbeats 8000000 in
set_option maxRecDepth 100000 in
theorem cohousingref08_Rest.calls (a0 : Int) (r : Int) (w : World) (h : cohousingref08_Rest.f a0 = some r) :
  Calls Tryd.prog 31 #[.int .i64 a0] w fun e w' => e = .returned (.int .i64 r) ∧ Drawn0 w w' := by
 have H : (some (Int.tmod (wrap64 ((Int.tmod a0 1073741789) + 1073741789)) 1073741789)) = some r := h
 clear h
 obtain rfl := Option.some.inj H
 go_enter Tryd.func31, Tryd.ntmps31
 go_wp2
 go_ret
 exact ⟨by first | rfl | (simp; done) | (simp [*]; done), by repeat (first | exact Drawn0.refl _ | apply Drawn0.step)⟩

/-! ### cohousingref08_Over: function 32 -/
def cohousingref08_Over.f (k : Nat) (a0 : Int) (a1 : Int) : Option (Int) := (cohousingref08_Power.f k a1 1073741787 1073741789).bind fun t386 => (some (Int.tmod (wrap64 (a0 * t386)) 1073741789))
theorem cohousingref08_Over.mono : ∀ a0 a1 k, LeO (cohousingref08_Over.f k a0 a1) (cohousingref08_Over.f (k + 1) a0 a1) := by
 intro a0 a1 k
 unfold cohousingref08_Over.f
 repeat' first
   | (with_reducible exact cohousingref08_Power.mono _ _ _ _)
   | (with_reducible exact LeO.refl _)
   | (with_reducible exact LeO.none _)
   | (with_reducible refine LeO.ite ?_ ?_)
   | (with_reducible refine LeO.bind ?_ (fun _ => ?_))
   | exact cohousingref08_Power.mono _ _ _ _
   | exact LeO.none _
   | refine LeO.ite ?_ ?_
   | refine LeO.bind ?_ (fun _ => ?_)
set_option maxHeartbeats 8000000 in
set_option maxRecDepth 100000 in
theorem cohousingref08_Over.calls (k : Nat) (a0 : Int) (a1 : Int) (r : Int) (w : World) (h : cohousingref08_Over.f k a0 a1 = some r) :
  Calls Tryd.prog 32 #[.int .i64 a0, .int .i64 a1] w fun e w' => e = .returned (.int .i64 r) ∧ Drawn0 w w' := by
 have H : ((cohousingref08_Power.f k a1 1073741787 1073741789).bind fun t386 => (some (Int.tmod (wrap64 (a0 * t386)) 1073741789))) = some r := h
 clear h
 replace H := Option.bind_eq_some_iff.mp H
 obtain ⟨t386, A30, H⟩ := H
 replace H : (some (Int.tmod (wrap64 (a0 * t386)) 1073741789)) = some r := H
 have A3 := Aside0.mk A30
 clear A30
 obtain rfl := Option.some.inj H
 go_enter Tryd.func32, Tryd.ntmps32
 go_wp2_with (first | ((with_reducible refine gate_callee (f := 29) rfl ?_); refine goesL_ (some 7) rfl rfl Tryd.func29 (by kernel_rfl) rfl #[.int .i64 a1, .int .i64 1073741787, .int .i64 1073741789] rfl (by (try simp only [List.map_toArray, List.map_cons, List.map_nil]); first | done | rfl | (simp only [List.length_drop, List.length_take]; rfl)) ?_; (with_reducible refine (cohousingref08_Power.calls k a1 1073741787 1073741789 t386 _ A3.out).mono ?_); rintro e w' ⟨rfl, ⟨nd, rfl⟩⟩; refine ⟨_, rfl, ?_⟩))
 go_ret
 exact ⟨by first | rfl | (simp; done) | (simp [*]; done), by repeat (first | exact Drawn0.refl _ | apply Drawn0.step)⟩

/-! ### cohousinglaw08_GroupHides: function 6 -/
def cohousinglaw08_GroupHides.f (k : Nat) (a0 : Int) (a1 : Int) (a2 : Int) (a3 : Int) : Option (Bool) := (cohousinglaw08_head.f k).bind fun t387 => ((cohousingref08_Secret.f a0).bind fun t388 => ((cohousingref08_Power.f k 4 t388 2147483579).bind fun t389 => ((cohousingref08_Rest.f (wrap64 ((wrap64 (Int.tmod a1 1073741789)) - (wrap64 (Int.tmod a2 1073741789))))).bind fun t390 => ((cohousingref08_Over.f k t390 t388).bind fun t391 => ((cohousingref08_Rest.f (wrap64 ((wrap64 (Int.tmod a3 1073741789)) + t391))).bind fun t392 => ((group_Commit.f k t389 (wrap64 (Int.tmod a1 1073741789)) (wrap64 (Int.tmod a3 1073741789))).bind fun bt393 => ((group_Commit.f k t389 (wrap64 (Int.tmod a2 1073741789)) t392).bind fun bt395 => (if t387 = true then (if bt393.2 = 0 then (if bt395.2 = 0 then (if bt393.1 = bt395.1 then (if (wrap64 (Int.tmod a1 1073741789)) = (wrap64 (Int.tmod a2 1073741789)) then (some true) else (some (t392 != (wrap64 (Int.tmod a3 1073741789))))) else (some false)) else (some false)) else (some false)) else (some false)))))))))
theorem cohousinglaw08_GroupHides.mono : ∀ a0 a1 a2 a3 k, LeO (cohousinglaw08_GroupHides.f k a0 a1 a2 a3) (cohousinglaw08_GroupHides.f (k + 1) a0 a1 a2 a3) := by
 intro a0 a1 a2 a3 k
 unfold cohousinglaw08_GroupHides.f
 repeat' first
   | (with_reducible exact cohousinglaw08_head.mono _)
   | (with_reducible exact cohousingref08_Over.mono _ _ _)
   | (with_reducible exact cohousingref08_Power.mono _ _ _ _)
   | (with_reducible exact group_Commit.mono _ _ _ _)
   | (with_reducible exact LeO.refl _)
   | (with_reducible exact LeO.none _)
   | (with_reducible refine LeO.ite ?_ ?_)
   | (with_reducible refine LeO.bind ?_ (fun _ => ?_))
   | exact cohousinglaw08_head.mono _
   | exact cohousingref08_Over.mono _ _ _
   | exact cohousingref08_Power.mono _ _ _ _
   | exact group_Commit.mono _ _ _ _
   | exact LeO.none _
   | refine LeO.ite ?_ ?_
   | refine LeO.bind ?_ (fun _ => ?_)
set_option maxHeartbeats 8000000 in
set_option maxRecDepth 100000 in
theorem cohousinglaw08_GroupHides.calls (k : Nat) (a0 : Int) (a1 : Int) (a2 : Int) (a3 : Int) (r : Bool) (w : World) (hT : TabOk w) (h : cohousinglaw08_GroupHides.f k a0 a1 a2 a3 = some r) :
  Calls Tryd.prog 6 #[.int .u64 a0, .int .u64 a1, .int .u64 a2, .int .u64 a3] w fun e w' => e = .returned (.bool r) ∧ Below w.heap.size w w' := by
 have HT := Aside0.mk hT
 clear hT
 have HB := Aside0.mk (Below.refl w.heap.size w)
 have H : ((cohousinglaw08_head.f k).bind fun t387 => ((cohousingref08_Secret.f a0).bind fun t388 => ((cohousingref08_Power.f k 4 t388 2147483579).bind fun t389 => ((cohousingref08_Rest.f (wrap64 ((wrap64 (Int.tmod a1 1073741789)) - (wrap64 (Int.tmod a2 1073741789))))).bind fun t390 => ((cohousingref08_Over.f k t390 t388).bind fun t391 => ((cohousingref08_Rest.f (wrap64 ((wrap64 (Int.tmod a3 1073741789)) + t391))).bind fun t392 => ((group_Commit.f k t389 (wrap64 (Int.tmod a1 1073741789)) (wrap64 (Int.tmod a3 1073741789))).bind fun bt393 => ((group_Commit.f k t389 (wrap64 (Int.tmod a2 1073741789)) t392).bind fun bt395 => (if t387 = true then (if bt393.2 = 0 then (if bt395.2 = 0 then (if bt393.1 = bt395.1 then (if (wrap64 (Int.tmod a1 1073741789)) = (wrap64 (Int.tmod a2 1073741789)) then (some true) else (some (t392 != (wrap64 (Int.tmod a3 1073741789))))) else (some false)) else (some false)) else (some false)) else (some false)))))))))) = some r := h
 clear h
 replace H := Option.bind_eq_some_iff.mp H
 obtain ⟨t387, A50, H⟩ := H
 replace H : ((cohousingref08_Secret.f a0).bind fun t388 => ((cohousingref08_Power.f k 4 t388 2147483579).bind fun t389 => ((cohousingref08_Rest.f (wrap64 ((wrap64 (Int.tmod a1 1073741789)) - (wrap64 (Int.tmod a2 1073741789))))).bind fun t390 => ((cohousingref08_Over.f k t390 t388).bind fun t391 => ((cohousingref08_Rest.f (wrap64 ((wrap64 (Int.tmod a3 1073741789)) + t391))).bind fun t392 => ((group_Commit.f k t389 (wrap64 (Int.tmod a1 1073741789)) (wrap64 (Int.tmod a3 1073741789))).bind fun bt393 => ((group_Commit.f k t389 (wrap64 (Int.tmod a2 1073741789)) t392).bind fun bt395 => (if t387 = true then (if bt393.2 = 0 then (if bt395.2 = 0 then (if bt393.1 = bt395.1 then (if (wrap64 (Int.tmod a1 1073741789)) = (wrap64 (Int.tmod a2 1073741789)) then (some true) else (some (t392 != (wrap64 (Int.tmod a3 1073741789))))) else (some false)) else (some false)) else (some false)) else (some false))))))))) = some r := H
 have A5 := Aside0.mk A50
 clear A50
 replace H := Option.bind_eq_some_iff.mp H
 obtain ⟨t388, A60, H⟩ := H
 replace H : ((cohousingref08_Power.f k 4 t388 2147483579).bind fun t389 => ((cohousingref08_Rest.f (wrap64 ((wrap64 (Int.tmod a1 1073741789)) - (wrap64 (Int.tmod a2 1073741789))))).bind fun t390 => ((cohousingref08_Over.f k t390 t388).bind fun t391 => ((cohousingref08_Rest.f (wrap64 ((wrap64 (Int.tmod a3 1073741789)) + t391))).bind fun t392 => ((group_Commit.f k t389 (wrap64 (Int.tmod a1 1073741789)) (wrap64 (Int.tmod a3 1073741789))).bind fun bt393 => ((group_Commit.f k t389 (wrap64 (Int.tmod a2 1073741789)) t392).bind fun bt395 => (if t387 = true then (if bt393.2 = 0 then (if bt395.2 = 0 then (if bt393.1 = bt395.1 then (if (wrap64 (Int.tmod a1 1073741789)) = (wrap64 (Int.tmod a2 1073741789)) then (some true) else (some (t392 != (wrap64 (Int.tmod a3 1073741789))))) else (some false)) else (some false)) else (some false)) else (some false)))))))) = some r := H
 have A6 := Aside0.mk A60
 clear A60
 replace H := Option.bind_eq_some_iff.mp H
 obtain ⟨t389, A70, H⟩ := H
 replace H : ((cohousingref08_Rest.f (wrap64 ((wrap64 (Int.tmod a1 1073741789)) - (wrap64 (Int.tmod a2 1073741789))))).bind fun t390 => ((cohousingref08_Over.f k t390 t388).bind fun t391 => ((cohousingref08_Rest.f (wrap64 ((wrap64 (Int.tmod a3 1073741789)) + t391))).bind fun t392 => ((group_Commit.f k t389 (wrap64 (Int.tmod a1 1073741789)) (wrap64 (Int.tmod a3 1073741789))).bind fun bt393 => ((group_Commit.f k t389 (wrap64 (Int.tmod a2 1073741789)) t392).bind fun bt395 => (if t387 = true then (if bt393.2 = 0 then (if bt395.2 = 0 then (if bt393.1 = bt395.1 then (if (wrap64 (Int.tmod a1 1073741789)) = (wrap64 (Int.tmod a2 1073741789)) then (some true) else (some (t392 != (wrap64 (Int.tmod a3 1073741789))))) else (some false)) else (some false)) else (some false)) else (some false))))))) = some r := H
 have A7 := Aside0.mk A70
 clear A70
 replace H := Option.bind_eq_some_iff.mp H
 obtain ⟨t390, A80, H⟩ := H
 replace H : ((cohousingref08_Over.f k t390 t388).bind fun t391 => ((cohousingref08_Rest.f (wrap64 ((wrap64 (Int.tmod a3 1073741789)) + t391))).bind fun t392 => ((group_Commit.f k t389 (wrap64 (Int.tmod a1 1073741789)) (wrap64 (Int.tmod a3 1073741789))).bind fun bt393 => ((group_Commit.f k t389 (wrap64 (Int.tmod a2 1073741789)) t392).bind fun bt395 => (if t387 = true then (if bt393.2 = 0 then (if bt395.2 = 0 then (if bt393.1 = bt395.1 then (if (wrap64 (Int.tmod a1 1073741789)) = (wrap64 (Int.tmod a2 1073741789)) then (some true) else (some (t392 != (wrap64 (Int.tmod a3 1073741789))))) else (some false)) else (some false)) else (some false)) else (some false)))))) = some r := H
 have A8 := Aside0.mk A80
 clear A80
 replace H := Option.bind_eq_some_iff.mp H
 obtain ⟨t391, A90, H⟩ := H
 replace H : ((cohousingref08_Rest.f (wrap64 ((wrap64 (Int.tmod a3 1073741789)) + t391))).bind fun t392 => ((group_Commit.f k t389 (wrap64 (Int.tmod a1 1073741789)) (wrap64 (Int.tmod a3 1073741789))).bind fun bt393 => ((group_Commit.f k t389 (wrap64 (Int.tmod a2 1073741789)) t392).bind fun bt395 => (if t387 = true then (if bt393.2 = 0 then (if bt395.2 = 0 then (if bt393.1 = bt395.1 then (if (wrap64 (Int.tmod a1 1073741789)) = (wrap64 (Int.tmod a2 1073741789)) then (some true) else (some (t392 != (wrap64 (Int.tmod a3 1073741789))))) else (some false)) else (some false)) else (some false)) else (some false))))) = some r := H
 have A9 := Aside0.mk A90
 clear A90
 replace H := Option.bind_eq_some_iff.mp H
 obtain ⟨t392, A100, H⟩ := H
 replace H : ((group_Commit.f k t389 (wrap64 (Int.tmod a1 1073741789)) (wrap64 (Int.tmod a3 1073741789))).bind fun bt393 => ((group_Commit.f k t389 (wrap64 (Int.tmod a2 1073741789)) t392).bind fun bt395 => (if t387 = true then (if bt393.2 = 0 then (if bt395.2 = 0 then (if bt393.1 = bt395.1 then (if (wrap64 (Int.tmod a1 1073741789)) = (wrap64 (Int.tmod a2 1073741789)) then (some true) else (some (t392 != (wrap64 (Int.tmod a3 1073741789))))) else (some false)) else (some false)) else (some false)) else (some false)))) = some r := H
 have A10 := Aside0.mk A100
 clear A100
 replace H := Option.bind_eq_some_iff.mp H
 obtain ⟨⟨t393, t394⟩, A110, H⟩ := H
 replace H : ((group_Commit.f k t389 (wrap64 (Int.tmod a2 1073741789)) t392).bind fun bt395 => (if t387 = true then (if t394 = 0 then (if bt395.2 = 0 then (if t393 = bt395.1 then (if (wrap64 (Int.tmod a1 1073741789)) = (wrap64 (Int.tmod a2 1073741789)) then (some true) else (some (t392 != (wrap64 (Int.tmod a3 1073741789))))) else (some false)) else (some false)) else (some false)) else (some false))) = some r := H
 have A11 := Aside0.mk A110
 clear A110
 replace H := Option.bind_eq_some_iff.mp H
 obtain ⟨⟨t395, t396⟩, A120, H⟩ := H
 replace H : (if t387 = true then (if t394 = 0 then (if t396 = 0 then (if t393 = t395 then (if (wrap64 (Int.tmod a1 1073741789)) = (wrap64 (Int.tmod a2 1073741789)) then (some true) else (some (t392 != (wrap64 (Int.tmod a3 1073741789))))) else (some false)) else (some false)) else (some false)) else (some false)) = some r := H
 have A12 := Aside0.mk A120
 clear A120
 by_cases c13 : t387 = true
 ·subst c13
  have H1 : (if t394 = 0 then (if t396 = 0 then (if t393 = t395 then (if (wrap64 (Int.tmod a1 1073741789)) = (wrap64 (Int.tmod a2 1073741789)) then (some true) else (some (t392 != (wrap64 (Int.tmod a3 1073741789))))) else (some false)) else (some false)) else (some false)) = some r := by rw [if_pos rfl] at H; exact H
  clear H
  have H := H1
  clear H1
  by_cases c14 : t394 = 0
  ·rw [if_pos c14] at H
   have c14b0 : (t394 == 0) = true := beq_iff_eq.mpr c14
   have c14b1 : (t394 != 0) = false := bne_eq_false_iff_eq.mpr c14
   clear c14
   by_cases c15 : t396 = 0
   ·rw [if_pos c15] at H
    have c15b0 : (t396 == 0) = true := beq_iff_eq.mpr c15
    have c15b1 : (t396 != 0) = false := bne_eq_false_iff_eq.mpr c15
    clear c15
    by_cases c16 : t393 = t395
    ·rw [if_pos c16] at H
     have c16b0 : (t393 == t395) = true := beq_iff_eq.mpr c16
     have c16b1 : (t393 != t395) = false := bne_eq_false_iff_eq.mpr c16
     clear c16
     by_cases c17 : (wrap64 (Int.tmod a1 1073741789)) = (wrap64 (Int.tmod a2 1073741789))
     ·rw [if_pos c17] at H
      have c17b0 : ((wrap64 (Int.tmod a1 1073741789)) == (wrap64 (Int.tmod a2 1073741789))) = true := beq_iff_eq.mpr c17
      have c17b1 : ((wrap64 (Int.tmod a1 1073741789)) != (wrap64 (Int.tmod a2 1073741789))) = false := bne_eq_false_iff_eq.mpr c17
      clear c17
      obtain rfl := Option.some.inj H
      go_enter Tryd.func6, Tryd.ntmps6
      go_wp2_with (first | ((with_reducible refine gate_callee (f := 10) rfl ?_); refine goesL_ (some 20) rfl rfl Tryd.func10 (by kernel_rfl) rfl #[] rfl (by (try simp only [List.map_toArray, List.map_cons, List.map_nil]); first | done | rfl | (simp only [List.length_drop, List.length_take]; rfl)) ?_; (with_reducible refine (cohousinglaw08_head.calls k  true _ ?side1 A5.out).mono ?_); (case side1 => exact TabOk.below HT.out (by repeat (first | (with_reducible first | exact HB.out | apply below_alloc | apply pw_below_drewN | apply below_drew1) | exact HB.out))); rintro e w18 ⟨rfl, hb⟩; refine ⟨_, rfl, ?_⟩; have n0_ := Aside0.mk (below_step (by repeat (first | (with_reducible first | exact HB.out | apply below_alloc | apply pw_below_drewN | apply below_drew1) | exact HB.out)) hb); clear HB; have HB := n0_; clear n0_; (try clear hb); (try clear hb2); (try clear hk); (try clear hi)) | ((with_reducible refine gate_callee (f := 30) rfl ?_); refine goesL_ (some 22) rfl rfl Tryd.func30 (by kernel_rfl) rfl #[.int .u64 a0] rfl (by (try simp only [List.map_toArray, List.map_cons, List.map_nil]); first | done | rfl | (simp only [List.length_drop, List.length_take]; rfl)) ?_; (with_reducible refine (cohousingref08_Secret.calls a0 t388 _ A6.out).mono ?_); rintro e w' ⟨rfl, ⟨nd, rfl⟩⟩; refine ⟨_, rfl, ?_⟩) | ((with_reducible refine gate_callee (f := 29) rfl ?_); refine goesL_ (some 24) rfl rfl Tryd.func29 (by kernel_rfl) rfl #[.int .i64 4, .int .i64 t388, .int .i64 2147483579] rfl (by (try simp only [List.map_toArray, List.map_cons, List.map_nil]); first | done | rfl | (simp only [List.length_drop, List.length_take]; rfl)) ?_; (with_reducible refine (cohousingref08_Power.calls k 4 t388 2147483579 t389 _ A7.out).mono ?_); rintro e w' ⟨rfl, ⟨nd, rfl⟩⟩; refine ⟨_, rfl, ?_⟩) | ((with_reducible refine gate_callee (f := 31) rfl ?_); refine goesL_ (some 38) rfl rfl Tryd.func31 (by kernel_rfl) rfl #[.int .i64 (wrap64 ((wrap64 (Int.tmod a1 1073741789)) - (wrap64 (Int.tmod a2 1073741789))))] rfl (by (try simp only [List.map_toArray, List.map_cons, List.map_nil]); first | done | rfl | (simp only [List.length_drop, List.length_take]; rfl)) ?_; (with_reducible refine (cohousingref08_Rest.calls (wrap64 ((wrap64 (Int.tmod a1 1073741789)) - (wrap64 (Int.tmod a2 1073741789)))) t390 _ A8.out).mono ?_); rintro e w' ⟨rfl, ⟨nd, rfl⟩⟩; refine ⟨_, rfl, ?_⟩) | ((with_reducible refine gate_callee (f := 32) rfl ?_); refine goesL_ (some 40) rfl rfl Tryd.func32 (by kernel_rfl) rfl #[.int .i64 t390, .int .i64 t388] rfl (by (try simp only [List.map_toArray, List.map_cons, List.map_nil]); first | done | rfl | (simp only [List.length_drop, List.length_take]; rfl)) ?_; (with_reducible refine (cohousingref08_Over.calls k t390 t388 t391 _ A9.out).mono ?_); rintro e w' ⟨rfl, ⟨nd, rfl⟩⟩; refine ⟨_, rfl, ?_⟩) | ((with_reducible refine gate_callee (f := 31) rfl ?_); refine goesL_ (some 42) rfl rfl Tryd.func31 (by kernel_rfl) rfl #[.int .i64 (wrap64 ((wrap64 (Int.tmod a3 1073741789)) + t391))] rfl (by (try simp only [List.map_toArray, List.map_cons, List.map_nil]); first | done | rfl | (simp only [List.length_drop, List.length_take]; rfl)) ?_; (with_reducible refine (cohousingref08_Rest.calls (wrap64 ((wrap64 (Int.tmod a3 1073741789)) + t391)) t392 _ A10.out).mono ?_); rintro e w' ⟨rfl, ⟨nd, rfl⟩⟩; refine ⟨_, rfl, ?_⟩) | ((with_reducible refine gate_callee (f := 18) rfl ?_); refine goesL_ (some 47) rfl rfl Tryd.func18 (by kernel_rfl) rfl #[.int .i64 t389, .int .i64 (wrap64 (Int.tmod a1 1073741789)), .int .i64 (wrap64 (Int.tmod a3 1073741789))] rfl (by (try simp only [List.map_toArray, List.map_cons, List.map_nil]); first | done | rfl | (simp only [List.length_drop, List.length_take]; rfl)) ?_; (with_reducible refine (group_Commit.calls k t389 (wrap64 (Int.tmod a1 1073741789)) (wrap64 (Int.tmod a3 1073741789)) t393 t394 _ A11.out).mono ?_); rintro e w19 ⟨rfl, hb⟩; refine ⟨_, rfl, ?_⟩; have n0_ := Aside0.mk (below_step (by repeat (first | (with_reducible first | exact HB.out | apply below_alloc | apply pw_below_drewN | apply below_drew1) | exact HB.out)) hb); clear HB; have HB := n0_; clear n0_; (try clear hb); (try clear hb2); (try clear hk); (try clear hi)) | ((with_reducible refine gate_callee (f := 18) rfl ?_); refine goesL_ (some 54) rfl rfl Tryd.func18 (by kernel_rfl) rfl #[.int .i64 t389, .int .i64 (wrap64 (Int.tmod a2 1073741789)), .int .i64 t392] rfl (by (try simp only [List.map_toArray, List.map_cons, List.map_nil]); first | done | rfl | (simp only [List.length_drop, List.length_take]; rfl)) ?_; (with_reducible refine (group_Commit.calls k t389 (wrap64 (Int.tmod a2 1073741789)) t392 t395 t396 _ A12.out).mono ?_); rintro e w20 ⟨rfl, hb⟩; refine ⟨_, rfl, ?_⟩; have n0_ := Aside0.mk (below_step (by repeat (first | (with_reducible first | exact HB.out | apply below_alloc | apply pw_below_drewN | apply below_drew1) | exact HB.out)) hb); clear HB; have HB := n0_; clear n0_; (try clear hb); (try clear hb2); (try clear hk); (try clear hi)))
      go_ret
      exact ⟨by first | rfl | (simp [errW_none, errW_some] <;> rfl) | (simp [*, errW_none, errW_some] <;> rfl), by repeat (first | (with_reducible first | exact HB.out | apply below_alloc | apply pw_below_drewN | apply below_drew1) | exact HB.out)⟩
     ·rw [if_neg c17] at H
      have c17b0 : ((wrap64 (Int.tmod a1 1073741789)) == (wrap64 (Int.tmod a2 1073741789))) = false := beq_eq_false_iff_ne.mpr c17
      have c17b1 : ((wrap64 (Int.tmod a1 1073741789)) != (wrap64 (Int.tmod a2 1073741789))) = true := bne_iff_ne.mpr c17
      obtain rfl := Option.some.inj H
      go_enter Tryd.func6, Tryd.ntmps6
      go_wp2_with (first | ((with_reducible refine gate_callee (f := 10) rfl ?_); refine goesL_ (some 20) rfl rfl Tryd.func10 (by kernel_rfl) rfl #[] rfl (by (try simp only [List.map_toArray, List.map_cons, List.map_nil]); first | done | rfl | (simp only [List.length_drop, List.length_take]; rfl)) ?_; (with_reducible refine (cohousinglaw08_head.calls k  true _ ?side1 A5.out).mono ?_); (case side1 => exact TabOk.below HT.out (by repeat (first | (with_reducible first | exact HB.out | apply below_alloc | apply pw_below_drewN | apply below_drew1) | exact HB.out))); rintro e w21 ⟨rfl, hb⟩; refine ⟨_, rfl, ?_⟩; have n0_ := Aside0.mk (below_step (by repeat (first | (with_reducible first | exact HB.out | apply below_alloc | apply pw_below_drewN | apply below_drew1) | exact HB.out)) hb); clear HB; have HB := n0_; clear n0_; (try clear hb); (try clear hb2); (try clear hk); (try clear hi)) | ((with_reducible refine gate_callee (f := 30) rfl ?_); refine goesL_ (some 22) rfl rfl Tryd.func30 (by kernel_rfl) rfl #[.int .u64 a0] rfl (by (try simp only [List.map_toArray, List.map_cons, List.map_nil]); first | done | rfl | (simp only [List.length_drop, List.length_take]; rfl)) ?_; (with_reducible refine (cohousingref08_Secret.calls a0 t388 _ A6.out).mono ?_); rintro e w' ⟨rfl, ⟨nd, rfl⟩⟩; refine ⟨_, rfl, ?_⟩) | ((with_reducible refine gate_callee (f := 29) rfl ?_); refine goesL_ (some 24) rfl rfl Tryd.func29 (by kernel_rfl) rfl #[.int .i64 4, .int .i64 t388, .int .i64 2147483579] rfl (by (try simp only [List.map_toArray, List.map_cons, List.map_nil]); first | done | rfl | (simp only [List.length_drop, List.length_take]; rfl)) ?_; (with_reducible refine (cohousingref08_Power.calls k 4 t388 2147483579 t389 _ A7.out).mono ?_); rintro e w' ⟨rfl, ⟨nd, rfl⟩⟩; refine ⟨_, rfl, ?_⟩) | ((with_reducible refine gate_callee (f := 31) rfl ?_); refine goesL_ (some 38) rfl rfl Tryd.func31 (by kernel_rfl) rfl #[.int .i64 (wrap64 ((wrap64 (Int.tmod a1 1073741789)) - (wrap64 (Int.tmod a2 1073741789))))] rfl (by (try simp only [List.map_toArray, List.map_cons, List.map_nil]); first | done | rfl | (simp only [List.length_drop, List.length_take]; rfl)) ?_; (with_reducible refine (cohousingref08_Rest.calls (wrap64 ((wrap64 (Int.tmod a1 1073741789)) - (wrap64 (Int.tmod a2 1073741789)))) t390 _ A8.out).mono ?_); rintro e w' ⟨rfl, ⟨nd, rfl⟩⟩; refine ⟨_, rfl, ?_⟩) | ((with_reducible refine gate_callee (f := 32) rfl ?_); refine goesL_ (some 40) rfl rfl Tryd.func32 (by kernel_rfl) rfl #[.int .i64 t390, .int .i64 t388] rfl (by (try simp only [List.map_toArray, List.map_cons, List.map_nil]); first | done | rfl | (simp only [List.length_drop, List.length_take]; rfl)) ?_; (with_reducible refine (cohousingref08_Over.calls k t390 t388 t391 _ A9.out).mono ?_); rintro e w' ⟨rfl, ⟨nd, rfl⟩⟩; refine ⟨_, rfl, ?_⟩) | ((with_reducible refine gate_callee (f := 31) rfl ?_); refine goesL_ (some 42) rfl rfl Tryd.func31 (by kernel_rfl) rfl #[.int .i64 (wrap64 ((wrap64 (Int.tmod a3 1073741789)) + t391))] rfl (by (try simp only [List.map_toArray, List.map_cons, List.map_nil]); first | done | rfl | (simp only [List.length_drop, List.length_take]; rfl)) ?_; (with_reducible refine (cohousingref08_Rest.calls (wrap64 ((wrap64 (Int.tmod a3 1073741789)) + t391)) t392 _ A10.out).mono ?_); rintro e w' ⟨rfl, ⟨nd, rfl⟩⟩; refine ⟨_, rfl, ?_⟩) | ((with_reducible refine gate_callee (f := 18) rfl ?_); refine goesL_ (some 47) rfl rfl Tryd.func18 (by kernel_rfl) rfl #[.int .i64 t389, .int .i64 (wrap64 (Int.tmod a1 1073741789)), .int .i64 (wrap64 (Int.tmod a3 1073741789))] rfl (by (try simp only [List.map_toArray, List.map_cons, List.map_nil]); first | done | rfl | (simp only [List.length_drop, List.length_take]; rfl)) ?_; (with_reducible refine (group_Commit.calls k t389 (wrap64 (Int.tmod a1 1073741789)) (wrap64 (Int.tmod a3 1073741789)) t393 t394 _ A11.out).mono ?_); rintro e w22 ⟨rfl, hb⟩; refine ⟨_, rfl, ?_⟩; have n0_ := Aside0.mk (below_step (by repeat (first | (with_reducible first | exact HB.out | apply below_alloc | apply pw_below_drewN | apply below_drew1) | exact HB.out)) hb); clear HB; have HB := n0_; clear n0_; (try clear hb); (try clear hb2); (try clear hk); (try clear hi)) | ((with_reducible refine gate_callee (f := 18) rfl ?_); refine goesL_ (some 54) rfl rfl Tryd.func18 (by kernel_rfl) rfl #[.int .i64 t389, .int .i64 (wrap64 (Int.tmod a2 1073741789)), .int .i64 t392] rfl (by (try simp only [List.map_toArray, List.map_cons, List.map_nil]); first | done | rfl | (simp only [List.length_drop, List.length_take]; rfl)) ?_; (with_reducible refine (group_Commit.calls k t389 (wrap64 (Int.tmod a2 1073741789)) t392 t395 t396 _ A12.out).mono ?_); rintro e w23 ⟨rfl, hb⟩; refine ⟨_, rfl, ?_⟩; have n0_ := Aside0.mk (below_step (by repeat (first | (with_reducible first | exact HB.out | apply below_alloc | apply pw_below_drewN | apply below_drew1) | exact HB.out)) hb); clear HB; have HB := n0_; clear n0_; (try clear hb); (try clear hb2); (try clear hk); (try clear hi)))
      go_ret
      exact ⟨by first | rfl | (simp [errW_none, errW_some] <;> rfl) | (simp [*, errW_none, errW_some] <;> rfl), by repeat (first | (with_reducible first | exact HB.out | apply below_alloc | apply pw_below_drewN | apply below_drew1) | exact HB.out)⟩
    ·rw [if_neg c16] at H
     have c16b0 : (t393 == t395) = false := beq_eq_false_iff_ne.mpr c16
     have c16b1 : (t393 != t395) = true := bne_iff_ne.mpr c16
     obtain rfl := Option.some.inj H
     go_enter Tryd.func6, Tryd.ntmps6
     go_wp2_with (first | ((with_reducible refine gate_callee (f := 10) rfl ?_); refine goesL_ (some 20) rfl rfl Tryd.func10 (by kernel_rfl) rfl #[] rfl (by (try simp only [List.map_toArray, List.map_cons, List.map_nil]); first | done | rfl | (simp only [List.length_drop, List.length_take]; rfl)) ?_; (with_reducible refine (cohousinglaw08_head.calls k  true _ ?side1 A5.out).mono ?_); (case side1 => exact TabOk.below HT.out (by repeat (first | (with_reducible first | exact HB.out | apply below_alloc | apply pw_below_drewN | apply below_drew1) | exact HB.out))); rintro e w24 ⟨rfl, hb⟩; refine ⟨_, rfl, ?_⟩; have n0_ := Aside0.mk (below_step (by repeat (first | (with_reducible first | exact HB.out | apply below_alloc | apply pw_below_drewN | apply below_drew1) | exact HB.out)) hb); clear HB; have HB := n0_; clear n0_; (try clear hb); (try clear hb2); (try clear hk); (try clear hi)) | ((with_reducible refine gate_callee (f := 30) rfl ?_); refine goesL_ (some 22) rfl rfl Tryd.func30 (by kernel_rfl) rfl #[.int .u64 a0] rfl (by (try simp only [List.map_toArray, List.map_cons, List.map_nil]); first | done | rfl | (simp only [List.length_drop, List.length_take]; rfl)) ?_; (with_reducible refine (cohousingref08_Secret.calls a0 t388 _ A6.out).mono ?_); rintro e w' ⟨rfl, ⟨nd, rfl⟩⟩; refine ⟨_, rfl, ?_⟩) | ((with_reducible refine gate_callee (f := 29) rfl ?_); refine goesL_ (some 24) rfl rfl Tryd.func29 (by kernel_rfl) rfl #[.int .i64 4, .int .i64 t388, .int .i64 2147483579] rfl (by (try simp only [List.map_toArray, List.map_cons, List.map_nil]); first | done | rfl | (simp only [List.length_drop, List.length_take]; rfl)) ?_; (with_reducible refine (cohousingref08_Power.calls k 4 t388 2147483579 t389 _ A7.out).mono ?_); rintro e w' ⟨rfl, ⟨nd, rfl⟩⟩; refine ⟨_, rfl, ?_⟩) | ((with_reducible refine gate_callee (f := 31) rfl ?_); refine goesL_ (some 38) rfl rfl Tryd.func31 (by kernel_rfl) rfl #[.int .i64 (wrap64 ((wrap64 (Int.tmod a1 1073741789)) - (wrap64 (Int.tmod a2 1073741789))))] rfl (by (try simp only [List.map_toArray, List.map_cons, List.map_nil]); first | done | rfl | (simp only [List.length_drop, List.length_take]; rfl)) ?_; (with_reducible refine (cohousingref08_Rest.calls (wrap64 ((wrap64 (Int.tmod a1 1073741789)) - (wrap64 (Int.tmod a2 1073741789)))) t390 _ A8.out).mono ?_); rintro e w' ⟨rfl, ⟨nd, rfl⟩⟩; refine ⟨_, rfl, ?_⟩) | ((with_reducible refine gate_callee (f := 32) rfl ?_); refine goesL_ (some 40) rfl rfl Tryd.func32 (by kernel_rfl) rfl #[.int .i64 t390, .int .i64 t388] rfl (by (try simp only [List.map_toArray, List.map_cons, List.map_nil]); first | done | rfl | (simp only [List.length_drop, List.length_take]; rfl)) ?_; (with_reducible refine (cohousingref08_Over.calls k t390 t388 t391 _ A9.out).mono ?_); rintro e w' ⟨rfl, ⟨nd, rfl⟩⟩; refine ⟨_, rfl, ?_⟩) | ((with_reducible refine gate_callee (f := 31) rfl ?_); refine goesL_ (some 42) rfl rfl Tryd.func31 (by kernel_rfl) rfl #[.int .i64 (wrap64 ((wrap64 (Int.tmod a3 1073741789)) + t391))] rfl (by (try simp only [List.map_toArray, List.map_cons, List.map_nil]); first | done | rfl | (simp only [List.length_drop, List.length_take]; rfl)) ?_; (with_reducible refine (cohousingref08_Rest.calls (wrap64 ((wrap64 (Int.tmod a3 1073741789)) + t391)) t392 _ A10.out).mono ?_); rintro e w' ⟨rfl, ⟨nd, rfl⟩⟩; refine ⟨_, rfl, ?_⟩) | ((with_reducible refine gate_callee (f := 18) rfl ?_); refine goesL_ (some 47) rfl rfl Tryd.func18 (by kernel_rfl) rfl #[.int .i64 t389, .int .i64 (wrap64 (Int.tmod a1 1073741789)), .int .i64 (wrap64 (Int.tmod a3 1073741789))] rfl (by (try simp only [List.map_toArray, List.map_cons, List.map_nil]); first | done | rfl | (simp only [List.length_drop, List.length_take]; rfl)) ?_; (with_reducible refine (group_Commit.calls k t389 (wrap64 (Int.tmod a1 1073741789)) (wrap64 (Int.tmod a3 1073741789)) t393 t394 _ A11.out).mono ?_); rintro e w25 ⟨rfl, hb⟩; refine ⟨_, rfl, ?_⟩; have n0_ := Aside0.mk (below_step (by repeat (first | (with_reducible first | exact HB.out | apply below_alloc | apply pw_below_drewN | apply below_drew1) | exact HB.out)) hb); clear HB; have HB := n0_; clear n0_; (try clear hb); (try clear hb2); (try clear hk); (try clear hi)) | ((with_reducible refine gate_callee (f := 18) rfl ?_); refine goesL_ (some 54) rfl rfl Tryd.func18 (by kernel_rfl) rfl #[.int .i64 t389, .int .i64 (wrap64 (Int.tmod a2 1073741789)), .int .i64 t392] rfl (by (try simp only [List.map_toArray, List.map_cons, List.map_nil]); first | done | rfl | (simp only [List.length_drop, List.length_take]; rfl)) ?_; (with_reducible refine (group_Commit.calls k t389 (wrap64 (Int.tmod a2 1073741789)) t392 t395 t396 _ A12.out).mono ?_); rintro e w26 ⟨rfl, hb⟩; refine ⟨_, rfl, ?_⟩; have n0_ := Aside0.mk (below_step (by repeat (first | (with_reducible first | exact HB.out | apply below_alloc | apply pw_below_drewN | apply below_drew1) | exact HB.out)) hb); clear HB; have HB := n0_; clear n0_; (try clear hb); (try clear hb2); (try clear hk); (try clear hi)))
     go_ret
     exact ⟨by first | rfl | (simp [errW_none, errW_some] <;> rfl) | (simp [*, errW_none, errW_some] <;> rfl), by repeat (first | (with_reducible first | exact HB.out | apply below_alloc | apply pw_below_drewN | apply below_drew1) | exact HB.out)⟩
   ·rw [if_neg c15] at H
    have c15b0 : (t396 == 0) = false := beq_eq_false_iff_ne.mpr c15
    have c15b1 : (t396 != 0) = true := bne_iff_ne.mpr c15
    obtain rfl := Option.some.inj H
    go_enter Tryd.func6, Tryd.ntmps6
    go_wp2_with (first | ((with_reducible refine gate_callee (f := 10) rfl ?_); refine goesL_ (some 20) rfl rfl Tryd.func10 (by kernel_rfl) rfl #[] rfl (by (try simp only [List.map_toArray, List.map_cons, List.map_nil]); first | done | rfl | (simp only [List.length_drop, List.length_take]; rfl)) ?_; (with_reducible refine (cohousinglaw08_head.calls k  true _ ?side1 A5.out).mono ?_); (case side1 => exact TabOk.below HT.out (by repeat (first | (with_reducible first | exact HB.out | apply below_alloc | apply pw_below_drewN | apply below_drew1) | exact HB.out))); rintro e w27 ⟨rfl, hb⟩; refine ⟨_, rfl, ?_⟩; have n0_ := Aside0.mk (below_step (by repeat (first | (with_reducible first | exact HB.out | apply below_alloc | apply pw_below_drewN | apply below_drew1) | exact HB.out)) hb); clear HB; have HB := n0_; clear n0_; (try clear hb); (try clear hb2); (try clear hk); (try clear hi)) | ((with_reducible refine gate_callee (f := 30) rfl ?_); refine goesL_ (some 22) rfl rfl Tryd.func30 (by kernel_rfl) rfl #[.int .u64 a0] rfl (by (try simp only [List.map_toArray, List.map_cons, List.map_nil]); first | done | rfl | (simp only [List.length_drop, List.length_take]; rfl)) ?_; (with_reducible refine (cohousingref08_Secret.calls a0 t388 _ A6.out).mono ?_); rintro e w' ⟨rfl, ⟨nd, rfl⟩⟩; refine ⟨_, rfl, ?_⟩) | ((with_reducible refine gate_callee (f := 29) rfl ?_); refine goesL_ (some 24) rfl rfl Tryd.func29 (by kernel_rfl) rfl #[.int .i64 4, .int .i64 t388, .int .i64 2147483579] rfl (by (try simp only [List.map_toArray, List.map_cons, List.map_nil]); first | done | rfl | (simp only [List.length_drop, List.length_take]; rfl)) ?_; (with_reducible refine (cohousingref08_Power.calls k 4 t388 2147483579 t389 _ A7.out).mono ?_); rintro e w' ⟨rfl, ⟨nd, rfl⟩⟩; refine ⟨_, rfl, ?_⟩) | ((with_reducible refine gate_callee (f := 31) rfl ?_); refine goesL_ (some 38) rfl rfl Tryd.func31 (by kernel_rfl) rfl #[.int .i64 (wrap64 ((wrap64 (Int.tmod a1 1073741789)) - (wrap64 (Int.tmod a2 1073741789))))] rfl (by (try simp only [List.map_toArray, List.map_cons, List.map_nil]); first | done | rfl | (simp only [List.length_drop, List.length_take]; rfl)) ?_; (with_reducible refine (cohousingref08_Rest.calls (wrap64 ((wrap64 (Int.tmod a1 1073741789)) - (wrap64 (Int.tmod a2 1073741789)))) t390 _ A8.out).mono ?_); rintro e w' ⟨rfl, ⟨nd, rfl⟩⟩; refine ⟨_, rfl, ?_⟩) | ((with_reducible refine gate_callee (f := 32) rfl ?_); refine goesL_ (some 40) rfl rfl Tryd.func32 (by kernel_rfl) rfl #[.int .i64 t390, .int .i64 t388] rfl (by (try simp only [List.map_toArray, List.map_cons, List.map_nil]); first | done | rfl | (simp only [List.length_drop, List.length_take]; rfl)) ?_; (with_reducible refine (cohousingref08_Over.calls k t390 t388 t391 _ A9.out).mono ?_); rintro e w' ⟨rfl, ⟨nd, rfl⟩⟩; refine ⟨_, rfl, ?_⟩) | ((with_reducible refine gate_callee (f := 31) rfl ?_); refine goesL_ (some 42) rfl rfl Tryd.func31 (by kernel_rfl) rfl #[.int .i64 (wrap64 ((wrap64 (Int.tmod a3 1073741789)) + t391))] rfl (by (try simp only [List.map_toArray, List.map_cons, List.map_nil]); first | done | rfl | (simp only [List.length_drop, List.length_take]; rfl)) ?_; (with_reducible refine (cohousingref08_Rest.calls (wrap64 ((wrap64 (Int.tmod a3 1073741789)) + t391)) t392 _ A10.out).mono ?_); rintro e w' ⟨rfl, ⟨nd, rfl⟩⟩; refine ⟨_, rfl, ?_⟩) | ((with_reducible refine gate_callee (f := 18) rfl ?_); refine goesL_ (some 47) rfl rfl Tryd.func18 (by kernel_rfl) rfl #[.int .i64 t389, .int .i64 (wrap64 (Int.tmod a1 1073741789)), .int .i64 (wrap64 (Int.tmod a3 1073741789))] rfl (by (try simp only [List.map_toArray, List.map_cons, List.map_nil]); first | done | rfl | (simp only [List.length_drop, List.length_take]; rfl)) ?_; (with_reducible refine (group_Commit.calls k t389 (wrap64 (Int.tmod a1 1073741789)) (wrap64 (Int.tmod a3 1073741789)) t393 t394 _ A11.out).mono ?_); rintro e w28 ⟨rfl, hb⟩; refine ⟨_, rfl, ?_⟩; have n0_ := Aside0.mk (below_step (by repeat (first | (with_reducible first | exact HB.out | apply below_alloc | apply pw_below_drewN | apply below_drew1) | exact HB.out)) hb); clear HB; have HB := n0_; clear n0_; (try clear hb); (try clear hb2); (try clear hk); (try clear hi)) | ((with_reducible refine gate_callee (f := 18) rfl ?_); refine goesL_ (some 54) rfl rfl Tryd.func18 (by kernel_rfl) rfl #[.int .i64 t389, .int .i64 (wrap64 (Int.tmod a2 1073741789)), .int .i64 t392] rfl (by (try simp only [List.map_toArray, List.map_cons, List.map_nil]); first | done | rfl | (simp only [List.length_drop, List.length_take]; rfl)) ?_; (with_reducible refine (group_Commit.calls k t389 (wrap64 (Int.tmod a2 1073741789)) t392 t395 t396 _ A12.out).mono ?_); rintro e w29 ⟨rfl, hb⟩; refine ⟨_, rfl, ?_⟩; have n0_ := Aside0.mk (below_step (by repeat (first | (with_reducible first | exact HB.out | apply below_alloc | apply pw_below_drewN | apply below_drew1) | exact HB.out)) hb); clear HB; have HB := n0_; clear n0_; (try clear hb); (try clear hb2); (try clear hk); (try clear hi)))
    go_ret
    exact ⟨by first | rfl | (simp [errW_none, errW_some] <;> rfl) | (simp [*, errW_none, errW_some] <;> rfl), by repeat (first | (with_reducible first | exact HB.out | apply below_alloc | apply pw_below_drewN | apply below_drew1) | exact HB.out)⟩
  ·rw [if_neg c14] at H
   have c14b0 : (t394 == 0) = false := beq_eq_false_iff_ne.mpr c14
   have c14b1 : (t394 != 0) = true := bne_iff_ne.mpr c14
   obtain rfl := Option.some.inj H
   go_enter Tryd.func6, Tryd.ntmps6
   go_wp2_with (first | ((with_reducible refine gate_callee (f := 10) rfl ?_); refine goesL_ (some 20) rfl rfl Tryd.func10 (by kernel_rfl) rfl #[] rfl (by (try simp only [List.map_toArray, List.map_cons, List.map_nil]); first | done | rfl | (simp only [List.length_drop, List.length_take]; rfl)) ?_; (with_reducible refine (cohousinglaw08_head.calls k  true _ ?side1 A5.out).mono ?_); (case side1 => exact TabOk.below HT.out (by repeat (first | (with_reducible first | exact HB.out | apply below_alloc | apply pw_below_drewN | apply below_drew1) | exact HB.out))); rintro e w30 ⟨rfl, hb⟩; refine ⟨_, rfl, ?_⟩; have n0_ := Aside0.mk (below_step (by repeat (first | (with_reducible first | exact HB.out | apply below_alloc | apply pw_below_drewN | apply below_drew1) | exact HB.out)) hb); clear HB; have HB := n0_; clear n0_; (try clear hb); (try clear hb2); (try clear hk); (try clear hi)) | ((with_reducible refine gate_callee (f := 30) rfl ?_); refine goesL_ (some 22) rfl rfl Tryd.func30 (by kernel_rfl) rfl #[.int .u64 a0] rfl (by (try simp only [List.map_toArray, List.map_cons, List.map_nil]); first | done | rfl | (simp only [List.length_drop, List.length_take]; rfl)) ?_; (with_reducible refine (cohousingref08_Secret.calls a0 t388 _ A6.out).mono ?_); rintro e w' ⟨rfl, ⟨nd, rfl⟩⟩; refine ⟨_, rfl, ?_⟩) | ((with_reducible refine gate_callee (f := 29) rfl ?_); refine goesL_ (some 24) rfl rfl Tryd.func29 (by kernel_rfl) rfl #[.int .i64 4, .int .i64 t388, .int .i64 2147483579] rfl (by (try simp only [List.map_toArray, List.map_cons, List.map_nil]); first | done | rfl | (simp only [List.length_drop, List.length_take]; rfl)) ?_; (with_reducible refine (cohousingref08_Power.calls k 4 t388 2147483579 t389 _ A7.out).mono ?_); rintro e w' ⟨rfl, ⟨nd, rfl⟩⟩; refine ⟨_, rfl, ?_⟩) | ((with_reducible refine gate_callee (f := 31) rfl ?_); refine goesL_ (some 38) rfl rfl Tryd.func31 (by kernel_rfl) rfl #[.int .i64 (wrap64 ((wrap64 (Int.tmod a1 1073741789)) - (wrap64 (Int.tmod a2 1073741789))))] rfl (by (try simp only [List.map_toArray, List.map_cons, List.map_nil]); first | done | rfl | (simp only [List.length_drop, List.length_take]; rfl)) ?_; (with_reducible refine (cohousingref08_Rest.calls (wrap64 ((wrap64 (Int.tmod a1 1073741789)) - (wrap64 (Int.tmod a2 1073741789)))) t390 _ A8.out).mono ?_); rintro e w' ⟨rfl, ⟨nd, rfl⟩⟩; refine ⟨_, rfl, ?_⟩) | ((with_reducible refine gate_callee (f := 32) rfl ?_); refine goesL_ (some 40) rfl rfl Tryd.func32 (by kernel_rfl) rfl #[.int .i64 t390, .int .i64 t388] rfl (by (try simp only [List.map_toArray, List.map_cons, List.map_nil]); first | done | rfl | (simp only [List.length_drop, List.length_take]; rfl)) ?_; (with_reducible refine (cohousingref08_Over.calls k t390 t388 t391 _ A9.out).mono ?_); rintro e w' ⟨rfl, ⟨nd, rfl⟩⟩; refine ⟨_, rfl, ?_⟩) | ((with_reducible refine gate_callee (f := 31) rfl ?_); refine goesL_ (some 42) rfl rfl Tryd.func31 (by kernel_rfl) rfl #[.int .i64 (wrap64 ((wrap64 (Int.tmod a3 1073741789)) + t391))] rfl (by (try simp only [List.map_toArray, List.map_cons, List.map_nil]); first | done | rfl | (simp only [List.length_drop, List.length_take]; rfl)) ?_; (with_reducible refine (cohousingref08_Rest.calls (wrap64 ((wrap64 (Int.tmod a3 1073741789)) + t391)) t392 _ A10.out).mono ?_); rintro e w' ⟨rfl, ⟨nd, rfl⟩⟩; refine ⟨_, rfl, ?_⟩) | ((with_reducible refine gate_callee (f := 18) rfl ?_); refine goesL_ (some 47) rfl rfl Tryd.func18 (by kernel_rfl) rfl #[.int .i64 t389, .int .i64 (wrap64 (Int.tmod a1 1073741789)), .int .i64 (wrap64 (Int.tmod a3 1073741789))] rfl (by (try simp only [List.map_toArray, List.map_cons, List.map_nil]); first | done | rfl | (simp only [List.length_drop, List.length_take]; rfl)) ?_; (with_reducible refine (group_Commit.calls k t389 (wrap64 (Int.tmod a1 1073741789)) (wrap64 (Int.tmod a3 1073741789)) t393 t394 _ A11.out).mono ?_); rintro e w31 ⟨rfl, hb⟩; refine ⟨_, rfl, ?_⟩; have n0_ := Aside0.mk (below_step (by repeat (first | (with_reducible first | exact HB.out | apply below_alloc | apply pw_below_drewN | apply below_drew1) | exact HB.out)) hb); clear HB; have HB := n0_; clear n0_; (try clear hb); (try clear hb2); (try clear hk); (try clear hi)) | ((with_reducible refine gate_callee (f := 18) rfl ?_); refine goesL_ (some 54) rfl rfl Tryd.func18 (by kernel_rfl) rfl #[.int .i64 t389, .int .i64 (wrap64 (Int.tmod a2 1073741789)), .int .i64 t392] rfl (by (try simp only [List.map_toArray, List.map_cons, List.map_nil]); first | done | rfl | (simp only [List.length_drop, List.length_take]; rfl)) ?_; (with_reducible refine (group_Commit.calls k t389 (wrap64 (Int.tmod a2 1073741789)) t392 t395 t396 _ A12.out).mono ?_); rintro e w32 ⟨rfl, hb⟩; refine ⟨_, rfl, ?_⟩; have n0_ := Aside0.mk (below_step (by repeat (first | (with_reducible first | exact HB.out | apply below_alloc | apply pw_below_drewN | apply below_drew1) | exact HB.out)) hb); clear HB; have HB := n0_; clear n0_; (try clear hb); (try clear hb2); (try clear hk); (try clear hi)))
   go_ret
   exact ⟨by first | rfl | (simp [errW_none, errW_some] <;> rfl) | (simp [*, errW_none, errW_some] <;> rfl), by repeat (first | (with_reducible first | exact HB.out | apply below_alloc | apply pw_below_drewN | apply below_drew1) | exact HB.out)⟩
 ·replace c13 := Bool.eq_false_iff.mpr c13
  subst c13
  have H1 : (some false) = some r := by rw [if_neg (show ¬ (false = true) by decide)] at H; exact H
  clear H
  have H := H1
  clear H1
  obtain rfl := Option.some.inj H
  go_enter Tryd.func6, Tryd.ntmps6
  go_wp2_with (first | ((with_reducible refine gate_callee (f := 10) rfl ?_); refine goesL_ (some 20) rfl rfl Tryd.func10 (by kernel_rfl) rfl #[] rfl (by (try simp only [List.map_toArray, List.map_cons, List.map_nil]); first | done | rfl | (simp only [List.length_drop, List.length_take]; rfl)) ?_; (with_reducible refine (cohousinglaw08_head.calls k  false _ ?side1 A5.out).mono ?_); (case side1 => exact TabOk.below HT.out (by repeat (first | (with_reducible first | exact HB.out | apply below_alloc | apply pw_below_drewN | apply below_drew1) | exact HB.out))); rintro e w33 ⟨rfl, hb⟩; refine ⟨_, rfl, ?_⟩; have n0_ := Aside0.mk (below_step (by repeat (first | (with_reducible first | exact HB.out | apply below_alloc | apply pw_below_drewN | apply below_drew1) | exact HB.out)) hb); clear HB; have HB := n0_; clear n0_; (try clear hb); (try clear hb2); (try clear hk); (try clear hi)) | ((with_reducible refine gate_callee (f := 30) rfl ?_); refine goesL_ (some 22) rfl rfl Tryd.func30 (by kernel_rfl) rfl #[.int .u64 a0] rfl (by (try simp only [List.map_toArray, List.map_cons, List.map_nil]); first | done | rfl | (simp only [List.length_drop, List.length_take]; rfl)) ?_; (with_reducible refine (cohousingref08_Secret.calls a0 t388 _ A6.out).mono ?_); rintro e w' ⟨rfl, ⟨nd, rfl⟩⟩; refine ⟨_, rfl, ?_⟩) | ((with_reducible refine gate_callee (f := 29) rfl ?_); refine goesL_ (some 24) rfl rfl Tryd.func29 (by kernel_rfl) rfl #[.int .i64 4, .int .i64 t388, .int .i64 2147483579] rfl (by (try simp only [List.map_toArray, List.map_cons, List.map_nil]); first | done | rfl | (simp only [List.length_drop, List.length_take]; rfl)) ?_; (with_reducible refine (cohousingref08_Power.calls k 4 t388 2147483579 t389 _ A7.out).mono ?_); rintro e w' ⟨rfl, ⟨nd, rfl⟩⟩; refine ⟨_, rfl, ?_⟩) | ((with_reducible refine gate_callee (f := 31) rfl ?_); refine goesL_ (some 38) rfl rfl Tryd.func31 (by kernel_rfl) rfl #[.int .i64 (wrap64 ((wrap64 (Int.tmod a1 1073741789)) - (wrap64 (Int.tmod a2 1073741789))))] rfl (by (try simp only [List.map_toArray, List.map_cons, List.map_nil]); first | done | rfl | (simp only [List.length_drop, List.length_take]; rfl)) ?_; (with_reducible refine (cohousingref08_Rest.calls (wrap64 ((wrap64 (Int.tmod a1 1073741789)) - (wrap64 (Int.tmod a2 1073741789)))) t390 _ A8.out).mono ?_); rintro e w' ⟨rfl, ⟨nd, rfl⟩⟩; refine ⟨_, rfl, ?_⟩) | ((with_reducible refine gate_callee (f := 32) rfl ?_); refine goesL_ (some 40) rfl rfl Tryd.func32 (by kernel_rfl) rfl #[.int .i64 t390, .int .i64 t388] rfl (by (try simp only [List.map_toArray, List.map_cons, List.map_nil]); first | done | rfl | (simp only [List.length_drop, List.length_take]; rfl)) ?_; (with_reducible refine (cohousingref08_Over.calls k t390 t388 t391 _ A9.out).mono ?_); rintro e w' ⟨rfl, ⟨nd, rfl⟩⟩; refine ⟨_, rfl, ?_⟩) | ((with_reducible refine gate_callee (f := 31) rfl ?_); refine goesL_ (some 42) rfl rfl Tryd.func31 (by kernel_rfl) rfl #[.int .i64 (wrap64 ((wrap64 (Int.tmod a3 1073741789)) + t391))] rfl (by (try simp only [List.map_toArray, List.map_cons, List.map_nil]); first | done | rfl | (simp only [List.length_drop, List.length_take]; rfl)) ?_; (with_reducible refine (cohousingref08_Rest.calls (wrap64 ((wrap64 (Int.tmod a3 1073741789)) + t391)) t392 _ A10.out).mono ?_); rintro e w' ⟨rfl, ⟨nd, rfl⟩⟩; refine ⟨_, rfl, ?_⟩) | ((with_reducible refine gate_callee (f := 18) rfl ?_); refine goesL_ (some 47) rfl rfl Tryd.func18 (by kernel_rfl) rfl #[.int .i64 t389, .int .i64 (wrap64 (Int.tmod a1 1073741789)), .int .i64 (wrap64 (Int.tmod a3 1073741789))] rfl (by (try simp only [List.map_toArray, List.map_cons, List.map_nil]); first | done | rfl | (simp only [List.length_drop, List.length_take]; rfl)) ?_; (with_reducible refine (group_Commit.calls k t389 (wrap64 (Int.tmod a1 1073741789)) (wrap64 (Int.tmod a3 1073741789)) t393 t394 _ A11.out).mono ?_); rintro e w34 ⟨rfl, hb⟩; refine ⟨_, rfl, ?_⟩; have n0_ := Aside0.mk (below_step (by repeat (first | (with_reducible first | exact HB.out | apply below_alloc | apply pw_below_drewN | apply below_drew1) | exact HB.out)) hb); clear HB; have HB := n0_; clear n0_; (try clear hb); (try clear hb2); (try clear hk); (try clear hi)) | ((with_reducible refine gate_callee (f := 18) rfl ?_); refine goesL_ (some 54) rfl rfl Tryd.func18 (by kernel_rfl) rfl #[.int .i64 t389, .int .i64 (wrap64 (Int.tmod a2 1073741789)), .int .i64 t392] rfl (by (try simp only [List.map_toArray, List.map_cons, List.map_nil]); first | done | rfl | (simp only [List.length_drop, List.length_take]; rfl)) ?_; (with_reducible refine (group_Commit.calls k t389 (wrap64 (Int.tmod a2 1073741789)) t392 t395 t396 _ A12.out).mono ?_); rintro e w35 ⟨rfl, hb⟩; refine ⟨_, rfl, ?_⟩; have n0_ := Aside0.mk (below_step (by repeat (first | (with_reducible first | exact HB.out | apply below_alloc | apply pw_below_drewN | apply below_drew1) | exact HB.out)) hb); clear HB; have HB := n0_; clear n0_; (try clear hb); (try clear hb2); (try clear hk); (try clear hi)))
  go_ret
  exact ⟨by first | rfl | (simp [errW_none, errW_some] <;> rfl) | (simp [*, errW_none, errW_some] <;> rfl), by repeat (first | (with_reducible first | exact HB.out | apply below_alloc | apply pw_below_drewN | apply below_drew1) | exact HB.out)⟩

end Go.Proofs.YtimcknjodeikmaaDoor.P
