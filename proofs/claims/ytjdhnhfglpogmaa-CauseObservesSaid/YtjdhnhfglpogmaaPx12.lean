-- Written by a program of this session out of the translation (wip/pp: the kit's print, turned). Not trusted: Lean checks it.
import Derived.Test.YtjdhnhfglpogmaaPx0
import Derived.Test.YtjdhnhfglpogmaaPx6
import Derived.Test.YtjdhnhfglpogmaaPx8
import Derived.Test.YtjdhnhfglpogmaaPx10
import Derived.Test.YtjdhnhfglpogmaaXC
import Derived.Test.YtjdhnhfglpogmaaXhead
namespace Go.Proofs.Ytjdhnhfglpogmaa.P
open Go.RowKit Go.Proofs.YtjdhnhfglpogmaaW.PrintWords Go.Proofs.YtjdhnhfglpogmaaW.PrintLast Go.Proofs.YtjdhnhfglpogmaaW.PrintMore
attribute [local go_sem] max2_int min2_int max_two min_two max_three min_three max_four min_four   -- for this text's walks alone
set_option linter.unusedVariables false
set_option linter.unusedSimpArgs false

/-! ### cohousinglaw36_CauseObserves: function 6 -/
mutual
def cohousinglaw36_CauseObserves.j0 : Nat → List (S44) → Int → Bool → List (List Bool) → List (List Bool) → Bool → Int → Bool → Int → Option (Bool)
 | 0, _, _, _, _, _, _, _, _, _ => none
 | k + 1, x0, x3, x9, x11, x13, x50, x314000, x314001, x314002 => if x50 = true then (some false) else (cohousinglaw36_CauseObserves.l0 k x0 x3 x9 x13 ([] : List (List Bool)) x11 (x11.length : Int) 0 x314000 x314001 x314002)
def cohousinglaw36_CauseObserves.l0 : Nat → List (S44) → Int → Bool → List (List Bool) → List (List Bool) → List (List Bool) → Int → Int → Int → Bool → Int → Option (Bool)
 | 0, _, _, _, _, _, _, _, _, _, _, _ => none
 | k + 1, x0, x3, x9, x13, x15, x51, x52, x53, x314000, x314001, x314002 => if x53 < x52 then (if 0 ≤ x53 then (if x53 < (x51.length : Int) then ((cohousinglaw36_holds.f k x0 (rd_L3 x51 x53) (([(⟨x314000, x314001, x314002⟩ : S48)] : List (S48))) x3).bind fun t340 => (if t340 = true then ((some (([rd_L3 x51 x53] : List (List Bool)) : List (List Bool))).bind fun y341 => (if x15.length + y341.length < 5864062014805 then (cohousinglaw36_CauseObserves.l0 k x0 x3 x9 x13 (x15 ++ y341) x51 x52 (wrap64 (x53 + 1)) x314000 x314001 x314002) else (none))) else (cohousinglaw36_CauseObserves.l0 k x0 x3 x9 x13 x15 x51 x52 (wrap64 (x53 + 1)) x314000 x314001 x314002))) else (none)) else (none)) else (if x9 = true then ((cohousingref36_SameStates.f k x13 x15).bind fun t347 => (some t347)) else (some false))
end
def cohousinglaw36_CauseObserves.f (k : Nat) (l0 : List (S44)) (l1 : List (S48)) (a2_0 : Int) (a2_1 : Bool) (a2_2 : Int) (a3 : Int) : Option (Bool) := (cohousinglaw36_head.f).bind fun t314 => ((some (([] : List (S48)) : List (S48))).bind fun y315 => (if y315.length + l1.length < 5864062014805 then ((some (y315 ++ l1 : List (S48))).bind fun y318 => ((some (([(⟨a2_0, a2_1, a2_2⟩ : S48)] : List (S48)) : List (S48))).bind fun y321 => (if y318.length + y321.length < 5864062014805 then ((some (y318 ++ y321 : List (S48))).bind fun y324 => ((cohousinglaw36_usable.f k l0 y324 a3).bind fun t327 => (if t327 = true then ((cause_States.f l0 l1 a3).bind fun bt328 => ((cause_States.f l0 y324 a3).bind fun bt332 => (if bt328.2 = 0 then (cohousinglaw36_CauseObserves.j0 k l0 a3 t314 bt328.1 bt332.1 (bt332.2 != 0) a2_0 a2_1 a2_2) else (cohousinglaw36_CauseObserves.j0 k l0 a3 t314 bt328.1 bt332.1 true a2_0 a2_1 a2_2)))) else (some t314)))) else (none)))) else (none)))
theorem cohousinglaw36_CauseObserves.mono_l : ∀ k, (∀ y0 y1 y2 y3 y4 y5 y6 y7 y8, LeO (cohousinglaw36_CauseObserves.j0 k y0 y1 y2 y3 y4 y5 y6 y7 y8) (cohousinglaw36_CauseObserves.j0 (k + 1) y0 y1 y2 y3 y4 y5 y6 y7 y8)) ∧ (∀ y0 y1 y2 y3 y4 y5 y6 y7 y8 y9 y10, LeO (cohousinglaw36_CauseObserves.l0 k y0 y1 y2 y3 y4 y5 y6 y7 y8 y9 y10) (cohousinglaw36_CauseObserves.l0 (k + 1) y0 y1 y2 y3 y4 y5 y6 y7 y8 y9 y10))
 | 0 => ⟨fun _ _ _ _ _ _ _ _ _ r h => by simp [cohousinglaw36_CauseObserves.j0] at h, fun _ _ _ _ _ _ _ _ _ _ _ r h => by simp [cohousinglaw36_CauseObserves.l0] at h⟩
 | k + 1 => by
  obtain ⟨ih0, ih1⟩ := cohousinglaw36_CauseObserves.mono_l k
  refine ⟨?_, ?_⟩
  ·intro y0 y1 y2 y3 y4 y5 y6 y7 y8
   unfold cohousinglaw36_CauseObserves.j0
   repeat' first
   | (with_reducible exact ih0 _ _ _ _ _ _ _ _ _)
   | (with_reducible exact ih1 _ _ _ _ _ _ _ _ _ _ _)
   | (with_reducible exact cohousinglaw36_holds.mono _ _ _ _ _)
   | (with_reducible exact cohousinglaw36_usable.mono _ _ _ _)
   | (with_reducible exact cohousingref36_SameStates.mono _ _ _)
   | (with_reducible exact LeO.refl _)
   | (with_reducible exact LeO.none _)
   | (with_reducible refine LeO.ite ?_ ?_)
   | (with_reducible refine LeO.bind ?_ (fun _ => ?_))
   | exact ih0 _ _ _ _ _ _ _ _ _
   | exact ih1 _ _ _ _ _ _ _ _ _ _ _
   | exact cohousinglaw36_holds.mono _ _ _ _ _
   | exact cohousinglaw36_usable.mono _ _ _ _
   | exact cohousingref36_SameStates.mono _ _ _
   | exact LeO.none _
   | refine LeO.ite ?_ ?_
   | refine LeO.bind ?_ (fun _ => ?_)
  ·intro y0 y1 y2 y3 y4 y5 y6 y7 y8 y9 y10
   unfold cohousinglaw36_CauseObserves.l0
   repeat' first
   | (with_reducible exact ih0 _ _ _ _ _ _ _ _ _)
   | (with_reducible exact ih1 _ _ _ _ _ _ _ _ _ _ _)
   | (with_reducible exact cohousinglaw36_holds.mono _ _ _ _ _)
   | (with_reducible exact cohousinglaw36_usable.mono _ _ _ _)
   | (with_reducible exact cohousingref36_SameStates.mono _ _ _)
   | (with_reducible exact LeO.refl _)
   | (with_reducible exact LeO.none _)
   | (with_reducible refine LeO.ite ?_ ?_)
   | (with_reducible refine LeO.bind ?_ (fun _ => ?_))
   | exact ih0 _ _ _ _ _ _ _ _ _
   | exact ih1 _ _ _ _ _ _ _ _ _ _ _
   | exact cohousinglaw36_holds.mono _ _ _ _ _
   | exact cohousinglaw36_usable.mono _ _ _ _
   | exact cohousingref36_SameStates.mono _ _ _
   | exact LeO.none _
   | refine LeO.ite ?_ ?_
   | refine LeO.bind ?_ (fun _ => ?_)
theorem cohousinglaw36_CauseObserves.mono : ∀ a0 a1 a2 a3 a4 a5 k, LeO (cohousinglaw36_CauseObserves.f k a0 a1 a2 a3 a4 a5) (cohousinglaw36_CauseObserves.f (k + 1) a0 a1 a2 a3 a4 a5) := by
 intro a0 a1 a2 a3 a4 a5 k
 obtain ⟨ih0, ih1⟩ := cohousinglaw36_CauseObserves.mono_l k
 unfold cohousinglaw36_CauseObserves.f
 repeat' first
   | (with_reducible exact ih0 _ _ _ _ _ _ _ _ _)
   | (with_reducible exact ih1 _ _ _ _ _ _ _ _ _ _ _)
   | (with_reducible exact cohousinglaw36_holds.mono _ _ _ _ _)
   | (with_reducible exact cohousinglaw36_usable.mono _ _ _ _)
   | (with_reducible exact cohousingref36_SameStates.mono _ _ _)
   | (with_reducible exact LeO.refl _)
   | (with_reducible exact LeO.none _)
   | (with_reducible refine LeO.ite ?_ ?_)
   | (with_reducible refine LeO.bind ?_ (fun _ => ?_))
   | exact ih0 _ _ _ _ _ _ _ _ _
   | exact ih1 _ _ _ _ _ _ _ _ _ _ _
   | exact cohousinglaw36_holds.mono _ _ _ _ _
   | exact cohousinglaw36_usable.mono _ _ _ _
   | exact cohousingref36_SameStates.mono _ _ _
   | exact LeO.none _
   | refine LeO.ite ?_ ?_
   | refine LeO.bind ?_ (fun _ => ?_)
set_option maxHeartbeats 8000000 in
set_option maxRecDepth 100000 in
theorem cohousinglaw36_CauseObserves.calls (k : Nat) (A0 : Option Addr) (c0 : Nat) (l0 : List (S44)) (A1 : Option Addr) (c1 : Nat) (l1 : List (S48)) (a2_0 : Int) (a2_1 : Bool) (a2_2 : Int) (a3 : Int) (r : Bool) (w : World) (hr0 : Kd.C k44 w A0 l0.length l0) (hc0 : l0.length ≤ c0) (hr1 : Kd.C k48 w A1 l1.length l1) (hc1 : l1.length ≤ c1) (h : cohousinglaw36_CauseObserves.f k l0 l1 a2_0 a2_1 a2_2 a3 = some r) :
  Calls Try.prog 6 #[.slice A0 l0.length c0, .slice A1 l1.length c1, .agg #[.int .i64 a2_0, .bool a2_1, .int .i64 a2_2], .int .i64 a3] w fun e w' => e = .returned (.bool r) ∧ Below w.heap.size w w' := by
 have hu48 := Try.underlying48
 have HR0 := Aside0.mk hr0
 have HC0 := Aside0.mk hc0
 clear hr0 hc0
 have HR1 := Aside0.mk hr1
 have HC1 := Aside0.mk hc1
 clear hr1 hc1
 have HB := Aside0.mk (Below.refl w.heap.size w)
 have H : ((cohousinglaw36_head.f).bind fun t314 => ((some (([] : List (S48)) : List (S48))).bind fun y315 => (if y315.length + l1.length < 5864062014805 then ((some (y315 ++ l1 : List (S48))).bind fun y318 => ((some (([(⟨a2_0, a2_1, a2_2⟩ : S48)] : List (S48)) : List (S48))).bind fun y321 => (if y318.length + y321.length < 5864062014805 then ((some (y318 ++ y321 : List (S48))).bind fun y324 => ((cohousinglaw36_usable.f k l0 y324 a3).bind fun t327 => (if t327 = true then ((cause_States.f l0 l1 a3).bind fun bt328 => ((cause_States.f l0 y324 a3).bind fun bt332 => (if bt328.2 = 0 then (cohousinglaw36_CauseObserves.j0 k l0 a3 t314 bt328.1 bt332.1 (bt332.2 != 0) a2_0 a2_1 a2_2) else (cohousinglaw36_CauseObserves.j0 k l0 a3 t314 bt328.1 bt332.1 true a2_0 a2_1 a2_2)))) else (some t314)))) else (none)))) else (none)))) = some r := h
 clear h
 replace H := Option.bind_eq_some_iff.mp H
 obtain ⟨t314, A50, H⟩ := H
 replace H : ((some (([] : List (S48)) : List (S48))).bind fun y315 => (if y315.length + l1.length < 5864062014805 then ((some (y315 ++ l1 : List (S48))).bind fun y318 => ((some (([(⟨a2_0, a2_1, a2_2⟩ : S48)] : List (S48)) : List (S48))).bind fun y321 => (if y318.length + y321.length < 5864062014805 then ((some (y318 ++ y321 : List (S48))).bind fun y324 => ((cohousinglaw36_usable.f k l0 y324 a3).bind fun t327 => (if t327 = true then ((cause_States.f l0 l1 a3).bind fun bt328 => ((cause_States.f l0 y324 a3).bind fun bt332 => (if bt328.2 = 0 then (cohousinglaw36_CauseObserves.j0 k l0 a3 t314 bt328.1 bt332.1 (bt332.2 != 0) a2_0 a2_1 a2_2) else (cohousinglaw36_CauseObserves.j0 k l0 a3 t314 bt328.1 bt332.1 true a2_0 a2_1 a2_2)))) else (some t314)))) else (none)))) else (none))) = some r := H
 have A5 := Aside0.mk A50
 clear A50
 obtain ⟨y315, hy315⟩ : ∃ y_ : List (S48), y_ = (([] : List (S48))) := ⟨_, rfl⟩
 replace H : (if y315.length + l1.length < 5864062014805 then ((some (y315 ++ l1 : List (S48))).bind fun y318 => ((some (([(⟨a2_0, a2_1, a2_2⟩ : S48)] : List (S48)) : List (S48))).bind fun y321 => (if y318.length + y321.length < 5864062014805 then ((some (y318 ++ y321 : List (S48))).bind fun y324 => ((cohousinglaw36_usable.f k l0 y324 a3).bind fun t327 => (if t327 = true then ((cause_States.f l0 l1 a3).bind fun bt328 => ((cause_States.f l0 y324 a3).bind fun bt332 => (if bt328.2 = 0 then (cohousinglaw36_CauseObserves.j0 k l0 a3 t314 bt328.1 bt332.1 (bt332.2 != 0) a2_0 a2_1 a2_2) else (cohousinglaw36_CauseObserves.j0 k l0 a3 t314 bt328.1 bt332.1 true a2_0 a2_1 a2_2)))) else (some t314)))) else (none)))) else (none)) = some r := by first | (rw [hy315]; with_reducible exact H) | (have H2_ := (Option.bind_some _ _).symm.trans H; rw [hy315]; with_reducible exact H2_) | (have H2_ := (Option.bind_some _ _).symm.trans H; with_reducible exact H2_) | with_reducible exact H | (rw [hy315]; exact H) | exact H
 have Ny315 := Aside0.mk hy315
 clear hy315
 by_cases c6 : y315.length + l1.length < 5864062014805
 ·rw [if_pos c6] at H
  have LMc6 := Aside0.mk c6
  clear c6
  obtain ⟨y318, hy318⟩ : ∃ y_ : List (S48), y_ = (y315 ++ l1) := ⟨_, rfl⟩
  replace H : ((some (([(⟨a2_0, a2_1, a2_2⟩ : S48)] : List (S48)) : List (S48))).bind fun y321 => (if y318.length + y321.length < 5864062014805 then ((some (y318 ++ y321 : List (S48))).bind fun y324 => ((cohousinglaw36_usable.f k l0 y324 a3).bind fun t327 => (if t327 = true then ((cause_States.f l0 l1 a3).bind fun bt328 => ((cause_States.f l0 y324 a3).bind fun bt332 => (if bt328.2 = 0 then (cohousinglaw36_CauseObserves.j0 k l0 a3 t314 bt328.1 bt332.1 (bt332.2 != 0) a2_0 a2_1 a2_2) else (cohousinglaw36_CauseObserves.j0 k l0 a3 t314 bt328.1 bt332.1 true a2_0 a2_1 a2_2)))) else (some t314)))) else (none))) = some r := by first | (rw [hy318]; with_reducible exact H) | (have H2_ := (Option.bind_some _ _).symm.trans H; rw [hy318]; with_reducible exact H2_) | (have H2_ := (Option.bind_some _ _).symm.trans H; with_reducible exact H2_) | with_reducible exact H | (rw [hy318]; exact H) | exact H
  have Ny318 := Aside0.mk hy318
  clear hy318
  obtain ⟨y321, hy321⟩ : ∃ y_ : List (S48), y_ = (([(⟨a2_0, a2_1, a2_2⟩ : S48)] : List (S48))) := ⟨_, rfl⟩
  replace H : (if y318.length + y321.length < 5864062014805 then ((some (y318 ++ y321 : List (S48))).bind fun y324 => ((cohousinglaw36_usable.f k l0 y324 a3).bind fun t327 => (if t327 = true then ((cause_States.f l0 l1 a3).bind fun bt328 => ((cause_States.f l0 y324 a3).bind fun bt332 => (if bt328.2 = 0 then (cohousinglaw36_CauseObserves.j0 k l0 a3 t314 bt328.1 bt332.1 (bt332.2 != 0) a2_0 a2_1 a2_2) else (cohousinglaw36_CauseObserves.j0 k l0 a3 t314 bt328.1 bt332.1 true a2_0 a2_1 a2_2)))) else (some t314)))) else (none)) = some r := by first | (rw [hy321]; with_reducible exact H) | (have H2_ := (Option.bind_some _ _).symm.trans H; rw [hy321]; with_reducible exact H2_) | (have H2_ := (Option.bind_some _ _).symm.trans H; with_reducible exact H2_) | with_reducible exact H | (rw [hy321]; exact H) | exact H
  have Ny321 := Aside0.mk hy321
  clear hy321
  by_cases c7 : y318.length + y321.length < 5864062014805
  ·rw [if_pos c7] at H
   have LMc7 := Aside0.mk c7
   clear c7
   obtain ⟨y324, hy324⟩ : ∃ y_ : List (S48), y_ = (y318 ++ y321) := ⟨_, rfl⟩
   replace H : ((cohousinglaw36_usable.f k l0 y324 a3).bind fun t327 => (if t327 = true then ((cause_States.f l0 l1 a3).bind fun bt328 => ((cause_States.f l0 y324 a3).bind fun bt332 => (if bt328.2 = 0 then (cohousinglaw36_CauseObserves.j0 k l0 a3 t314 bt328.1 bt332.1 (bt332.2 != 0) a2_0 a2_1 a2_2) else (cohousinglaw36_CauseObserves.j0 k l0 a3 t314 bt328.1 bt332.1 true a2_0 a2_1 a2_2)))) else (some t314))) = some r := by first | (rw [hy324]; with_reducible exact H) | (have H2_ := (Option.bind_some _ _).symm.trans H; rw [hy324]; with_reducible exact H2_) | (have H2_ := (Option.bind_some _ _).symm.trans H; with_reducible exact H2_) | with_reducible exact H | (rw [hy324]; exact H) | exact H
   have Ny324 := Aside0.mk hy324
   clear hy324
   replace H := Option.bind_eq_some_iff.mp H
   obtain ⟨t327, A80, H⟩ := H
   replace H : (if t327 = true then ((cause_States.f l0 l1 a3).bind fun bt328 => ((cause_States.f l0 y324 a3).bind fun bt332 => (if bt328.2 = 0 then (cohousinglaw36_CauseObserves.j0 k l0 a3 t314 bt328.1 bt332.1 (bt332.2 != 0) a2_0 a2_1 a2_2) else (cohousinglaw36_CauseObserves.j0 k l0 a3 t314 bt328.1 bt332.1 true a2_0 a2_1 a2_2)))) else (some t314)) = some r := H
   have A8 := Aside0.mk A80
   clear A80
   by_cases c9 : t327 = true
   ·subst c9
    have H1 : ((cause_States.f l0 l1 a3).bind fun bt328 => ((cause_States.f l0 y324 a3).bind fun bt332 => (if bt328.2 = 0 then (cohousinglaw36_CauseObserves.j0 k l0 a3 t314 bt328.1 bt332.1 (bt332.2 != 0) a2_0 a2_1 a2_2) else (cohousinglaw36_CauseObserves.j0 k l0 a3 t314 bt328.1 bt332.1 true a2_0 a2_1 a2_2)))) = some r := by rw [if_pos rfl] at H; exact H
    clear H
    have H := H1
    clear H1
    replace H := Option.bind_eq_some_iff.mp H
    obtain ⟨⟨t328, t329⟩, A100, H⟩ := H
    replace H : ((cause_States.f l0 y324 a3).bind fun bt332 => (if t329 = 0 then (cohousinglaw36_CauseObserves.j0 k l0 a3 t314 t328 bt332.1 (bt332.2 != 0) a2_0 a2_1 a2_2) else (cohousinglaw36_CauseObserves.j0 k l0 a3 t314 t328 bt332.1 true a2_0 a2_1 a2_2))) = some r := H
    have A10 := Aside0.mk A100
    clear A100
    replace H := Option.bind_eq_some_iff.mp H
    obtain ⟨⟨t332, t333⟩, A110, H⟩ := H
    replace H : (if t329 = 0 then (cohousinglaw36_CauseObserves.j0 k l0 a3 t314 t328 t332 (t333 != 0) a2_0 a2_1 a2_2) else (cohousinglaw36_CauseObserves.j0 k l0 a3 t314 t328 t332 true a2_0 a2_1 a2_2)) = some r := H
    have A11 := Aside0.mk A110
    clear A110
    have HC12 := Aside0.mk H
    clear H
    go_enter Try.func6, Try.ntmps6
    try go_wp2_with (first | ((with_reducible refine gate_dst (N := 6) rfl ?_); refine box_event ?hg (N := 6) ?hd (cs := #[.int .i64 a2_0, .bool a2_1, .int .i64 a2_2]) (t := 48) ?hr ?_; (case hd => rfl); (case hg => rfl); (case hr => first | (go_simp; done) | (go_simp; rfl)); intro gb313 hg w13 hbox hb; have n0_ := Aside0.mk (below_step (by repeat (first | (with_reducible first | exact HB.out | apply below_alloc | apply pw_below_drewN | apply below_drew1) | exact HB.out)) hb); have n1_ := Aside0.mk (hbox); have n2_ := Aside0.mk ((by rw [hg]; exact (below_size (by repeat (first | (with_reducible first | exact HB.out | apply below_alloc | apply pw_below_drewN | apply below_drew1) | exact HB.out))) : w.heap.size ≤ gb313)); have n3_ := Aside0.mk ((by rw [hg]; exact (below_size (by repeat (first | (with_reducible first | exact HB.out | apply below_alloc | apply pw_below_drewN | apply below_drew1) | exact HB.out))) : w.heap.size ≤ gb313)); clear HB; have HB := n0_; have BK313 := n1_; have GW313 := n2_; have GE313 := n3_; clear n0_ n1_ n2_ n3_; clear hb hbox hg) | ((with_reducible refine gate_callee (f := 11) rfl ?_); refine goesL_ (some 18) rfl rfl Try.func11 (by kernel_rfl) rfl #[] rfl (by (try simp only [List.map_toArray, List.map_cons, List.map_nil]); first | done | rfl | (simp only [List.length_drop, List.length_take]; rfl)) ?_; (with_reducible refine (cohousinglaw36_head.calls  t314 _ A5.out).mono ?_); rintro e w14 ⟨rfl, hb⟩; refine ⟨_, rfl, ?_⟩; have n0_ := Aside0.mk (blk_below (g := gb313) (o := .cells #[.int .i64 a2_0, .bool a2_1, .int .i64 a2_2] 48 (0, 0)) (by (with_reducible repeat (first | refine blk_drewN ?_ _ | refine blk_drew ?_ | refine blk_alloc ?_ _)); exact BK313.out) hb); have n1_ := Aside0.mk (below_step (by repeat (first | (with_reducible first | exact HB.out | apply below_alloc | apply pw_below_drewN | apply below_drew1 | refine below_set ?_ GE313.out) | exact HB.out)) hb); clear BK313; clear HB; have BK313 := n0_; have HB := n1_; clear n0_ n1_; (try clear hb); (try clear hb2); (try clear hk); (try clear hi)))
    have n0_ := Aside0.mk (blk_drew BK313.out)
    have n1_ := Aside0.mk (below_drew1 HB.out)
    clear BK313
    clear HB
    have BK313 := n0_
    have HB := n1_
    clear n0_ n1_
    refine start_ (n := 7) (S := fun w' => w'.cell? ⟨gb313, 0, none⟩ = some (.int .i64 a2_0) ∧ w'.cell? ⟨gb313, 1, none⟩ = some (.bool a2_1) ∧ w'.cell? ⟨gb313, 2, none⟩ = some (.int .i64 a2_2)) (ds := []) #[false, false, false, false, false, false, false] (by kernel_rfl) rfl rfl ⟨(blk_cell BK313.out 0).trans rfl, (blk_cell BK313.out 1).trans rfl, (blk_cell BK313.out 2).trans rfl⟩ (fun hHeld => ?_)
    generalize w14.drew = w15 at BK313 HB hHeld ⊢
    refine pure_ (i := 1) (N := some 20) (v := ?_) (a' := ?_) #[false, true, false, false, false, false, false] rfl rfl (by kernel_rfl) (fun _ _ _ h => h) (Or.inl ⟨by rfl, ?_⟩) ?_ ?_
    rotate_left
    ·intro w'
     go_simp
     with_reducible rfl
    rotate_left
    ·simp only [Act.put, List.setIfInBounds_toArray, List.set_cons_zero, List.set_cons_succ, i64_w, i32_w]
     rfl
    refine take_ (i := 3) (N := some 22) (v := ?_) (a' := ?_) #[false, true, false, true, false, false, false] rfl rfl (by kernel_rfl) (fun _ _ _ h => h) (Or.inl ⟨by rfl, ?_⟩) hHeld ?_ ?_
    rotate_left
    ·rintro w' ⟨s0, s1, s2⟩
     go_simp
     with_reducible rfl
    rotate_left
    ·simp only [Act.put, List.setIfInBounds_toArray, List.set_cons_zero, List.set_cons_succ, i64_w, i32_w]
     rfl
    refine join_ (σ := Value × Value × Value) 2 #[true, true, true, true, true, false, false] (fun s_ => [(19, s_.1), (21, s_.2.1), (23, s_.2.2)]) (fun s_ w' => (w'.cell? ⟨gb313, 0, none⟩ = some (.int .i64 a2_0) ∧ w'.cell? ⟨gb313, 1, none⟩ = some (.bool a2_1) ∧ w'.cell? ⟨gb313, 2, none⟩ = some (.int .i64 a2_2)) ∧ (Kd.R k48 48 w' w.heap.size (fun k_ => some k_ ≠ (s_.2.2 : Value).ownBlock ∧ k_ ≠ gb313) s_.2.1 y318) ∧ (Kd.R k48 48 w' w.heap.size (fun k_ => some k_ ≠ (s_.2.1 : Value).ownBlock ∧ k_ ≠ gb313) s_.2.2 y321) ∧ (w'.heap[gb313]? = some (.cells #[.int .i64 a2_0, .bool a2_1, .int .i64 a2_2] 48 (0, 0))) ∧ (Below w.heap.size w w')) ?_ ?_
    rotate_left
    ·intro hCont
     refine two_ (i := 0) (j := 4) (Ni := some 19) (Nj := some 23) #[true, true, false, true, false, false, false] #[false, true, false, true, true, false, false] rfl rfl rfl rfl (by kernel_rfl) (by decide) (by decide) (fun K hK => ?_) (fun K hK => ?_)
     ·skip
      refine Kd.R_lit_step k48 _ 48 ?hg (N := 19) ?hd (xs := ([] : List (S48))) (inner := []) (ok := fun _ => True) (okp := fun _ => True) ?hr ?hp (fun _ hk => hk) trivial (Below.refl _ _) (Nat.le_refl _) (by simp) ?_; (case hd => rfl); (case hg => rfl); (case hr => first | (go_simp; done) | (go_simp; rfl)); (case hp => exact (Reps.none _ _))
      intro v316 w16 ho17 hb hg_ hnew_
      clear hg_ hnew_
      (first | rw [← Ny315.out] at ho17 | (simp only [Int.reduceToNat] at ho17; rw [← Ny315.out] at ho17))
      have n0_ := Aside0.mk (Kd.R_lower (Kd.R_newB ho17 (g := gb313) (o := .cells #[.int .i64 a2_0, .bool a2_1, .int .i64 a2_2] 48 (0, 0)) (by (with_reducible repeat (first | refine blk_drewN ?_ _ | refine blk_drew ?_ | refine blk_alloc ?_ _)); exact BK313.out)) (below_size (by repeat (first | (with_reducible first | exact HB.out | apply below_alloc | apply pw_below_drewN | apply below_drew1 | refine below_set ?_ GE313.out) | exact HB.out))))
      have n1_ := Aside0.mk (blk_below (g := gb313) (o := .cells #[.int .i64 a2_0, .bool a2_1, .int .i64 a2_2] 48 (0, 0)) (by (with_reducible repeat (first | refine blk_drewN ?_ _ | refine blk_drew ?_ | refine blk_alloc ?_ _)); exact BK313.out) hb)
      have n2_ := Aside0.mk (below_step (by repeat (first | (with_reducible first | exact HB.out | apply below_alloc | apply pw_below_drewN | apply below_drew1 | refine below_set ?_ GE313.out) | exact HB.out)) hb)
      clear BK313
      clear HB
      have HO317 := n0_
      have BK313 := n1_
      have HB := n2_
      clear n0_ n1_ n2_
      clear hb ho17
      refine hK.out _ _ ⟨(blk_cell BK313.out 0).trans rfl, (blk_cell BK313.out 1).trans rfl, (blk_cell BK313.out 2).trans rfl⟩ (fun hHeld => ?_)
      clear hK K
      refine norm_ (a' := ?_) ?_ ?_
      rotate_left
      ·show Act.put _ (some 19) _ = _
       simp only [Act.put, List.setIfInBounds_toArray, List.set_cons_zero, List.set_cons_succ, i64_w, i32_w]
       rfl
      refine two_ (i := 2) (j := 4) (Ni := some 21) (Nj := some 23) #[true, true, true, true, false, false, false] #[true, true, false, true, true, false, false] rfl rfl rfl rfl (by kernel_rfl) (by decide) (by decide) (fun K hK => ?_) (fun K hK => ?_)
      ·skip
       refine Kd.R_append_rows_step k48 (w0 := w) w.heap.size (by rfl) (.tmp 19) (.tmp 20) 24 48 (.agg #[(.int .i64 0), (.bool false), (.int .i64 0)]) 24 rfl Try.underlying24 info48 rfl (by decide) (by omega) v316 y315 l1 _ _ _ (fun k_ => k_ ≠ gb313) (fun _ => False) rfl rfl ?aO ?aR (fun _ _ h => h) (fun _ h => h.elim) ?aF ?aB ?aS ?aL ?_
       (case aR => repeat (first | exact (Kd.C_below HR1.out HB.out) | (with_reducible refine Kd.C_alloc ?_ _) | (with_reducible refine Kd.C_drewN ?_ _) | (with_reducible refine Kd.C_drew ?_)))
       (case aB => exact (by repeat (first | (with_reducible first | exact HB.out | apply below_alloc | apply pw_below_drewN | apply below_drew1 | refine below_set ?_ GE313.out) | exact HB.out)))
       (case aF => exact (fun k_ hk => Kd.freshB (g := gb313) (o := .cells #[.int .i64 a2_0, .bool a2_1, .int .i64 a2_2] 48 (0, 0)) (by (with_reducible repeat (first | refine blk_drewN ?_ _ | refine blk_drew ?_ | refine blk_alloc ?_ _)); exact BK313.out) k_ hk))
       (case aO => exact (by (with_reducible repeat (first | apply Kd.R_alloc | apply Kd.R_drewN | apply Kd.R_drew)); exact Kd.R_mono HO317.out (fun _ hk => hk.2)))
       (case aS => exact (below_size (by repeat (first | (with_reducible first | exact HB.out | apply below_alloc | apply pw_below_drewN | apply below_drew1 | refine below_set ?_ GE313.out) | exact HB.out))))
       (case aL => have := LMc6.out; omega)
       intro v319 w18 ho hb hg hat
       rw [← Ny318.out] at ho
       have n0_ := Aside0.mk (blk_grown (g := gb313) (o := .cells #[.int .i64 a2_0, .bool a2_1, .int .i64 a2_2] 48 (0, 0)) (by (with_reducible repeat (first | refine blk_drewN ?_ _ | refine blk_drew ?_ | refine blk_alloc ?_ _)); exact BK313.out) hg (Kd.R_away HO317.out (fun _ hk => hk.2)))
       have n1_ := Aside0.mk (hb)
       have n2_ := Aside0.mk (ho)
       clear BK313
       clear HB
       clear HO317
       have BK313 := n0_
       have HB := n1_
       have HO320 := n2_
       clear n0_ n1_ n2_
       clear ho hb hg hat
       refine hK.out _ _ ⟨(blk_cell BK313.out 0).trans rfl, (blk_cell BK313.out 1).trans rfl, (blk_cell BK313.out 2).trans rfl⟩ (fun hHeld => ?_)
       clear hK K
       refine norm_ (a' := ?_) ?_ ?_
       rotate_left
       ·show Act.put _ (some 21) _ = _
        simp only [Act.put, List.setIfInBounds_toArray, List.set_cons_zero, List.set_cons_succ, i64_w, i32_w]
        rfl
       refine one_ (i := 4) (N := some 23) #[true, true, true, true, true, false, false] rfl rfl (by kernel_rfl) (by decide) (fun K hK => ?_)
       refine Kd.R_lit_step k48 _ 48 ?hg (N := 23) ?hd (xs := ([(⟨a2_0, a2_1, a2_2⟩ : S48)] : List (S48))) (inner := [.int .i64 a2_0, .bool a2_1, .int .i64 a2_2]) (ok := fun _ => True) (okp := fun _ => True) ?hr ?hp (fun _ hk => hk) trivial (Below.refl _ _) (Nat.le_refl _) (by simp) ?_; (case hd => rfl); (case hg => rfl); (case hr => first | (go_simp; done) | (go_simp; rfl)); (case hp => exact (Reps.c3 (show Kd.M k48 _ _ _ (⟨a2_0, a2_1, a2_2⟩ : S48) [.int .i64 a2_0, .bool a2_1, .int .i64 a2_2] from (k48_mkM _ _ _ (⟨a2_0, a2_1, a2_2⟩ : S48) )) (Reps.none _ _)))
       intro v322 w19 ho20 hb hg_ hnew_
       clear hg_ hnew_
       (first | rw [← Ny321.out] at ho20 | (simp only [Int.reduceToNat] at ho20; rw [← Ny321.out] at ho20))
       have n0_ := Aside0.mk (Kd.R_elder' (by (with_reducible repeat (first | apply Kd.R_alloc | apply Kd.R_drewN | apply Kd.R_drew)); exact HO320.out) (Kd.R_base ho20) hb)
       have n1_ := Aside0.mk (Kd.R_lower (Kd.R_newB (Kd.R_new' ho20 (Kd.R_lt (by (with_reducible repeat (first | apply Kd.R_alloc | apply Kd.R_drewN | apply Kd.R_drew)); exact HO320.out))) (g := gb313) (o := .cells #[.int .i64 a2_0, .bool a2_1, .int .i64 a2_2] 48 (0, 0)) (by (with_reducible repeat (first | refine blk_drewN ?_ _ | refine blk_drew ?_ | refine blk_alloc ?_ _)); exact BK313.out)) (below_size (by repeat (first | (with_reducible first | exact HB.out | apply below_alloc | apply pw_below_drewN | apply below_drew1 | refine below_set ?_ GE313.out) | exact HB.out))))
       have n2_ := Aside0.mk (blk_below (g := gb313) (o := .cells #[.int .i64 a2_0, .bool a2_1, .int .i64 a2_2] 48 (0, 0)) (by (with_reducible repeat (first | refine blk_drewN ?_ _ | refine blk_drew ?_ | refine blk_alloc ?_ _)); exact BK313.out) hb)
       have n3_ := Aside0.mk (below_step (by repeat (first | (with_reducible first | exact HB.out | apply below_alloc | apply pw_below_drewN | apply below_drew1 | refine below_set ?_ GE313.out) | exact HB.out)) hb)
       clear HO320
       clear BK313
       clear HB
       have HO320 := n0_
       have HO323 := n1_
       have BK313 := n2_
       have HB := n3_
       clear n0_ n1_ n2_ n3_
       clear hb ho20
       refine hK.out _ _ ⟨(blk_cell BK313.out 0).trans rfl, (blk_cell BK313.out 1).trans rfl, (blk_cell BK313.out 2).trans rfl⟩ (fun hHeld => ?_)
       clear hK K
       refine norm_ (a' := ?_) ?_ ?_
       rotate_left
       ·show Act.put _ (some 23) _ = _
        simp only [Act.put, List.setIfInBounds_toArray, List.set_cons_zero, List.set_cons_succ, i64_w, i32_w]
        rfl
       exact norm_ (by simp only [putAll, Act.put, List.setIfInBounds_toArray, List.set_cons_zero, List.set_cons_succ]) (hCont (v316, v319, v322) _ ⟨hHeld, (by (with_reducible repeat (first | apply Kd.R_alloc | apply Kd.R_drewN | apply Kd.R_drew)); exact Kd.R_mono HO320.out (fun _ hk => ⟨hk.2, hk.1⟩)), (by (with_reducible repeat (first | apply Kd.R_alloc | apply Kd.R_drewN | apply Kd.R_drew)); exact Kd.R_mono HO323.out (fun _ hk => ⟨hk.1.2, hk.2⟩)), (by (with_reducible repeat (first | refine blk_drewN ?_ _ | refine blk_drew ?_ | refine blk_alloc ?_ _)); exact BK313.out), (by repeat (first | (with_reducible first | exact HB.out | apply below_alloc | apply pw_below_drewN | apply below_drew1 | refine below_set ?_ GE313.out) | exact HB.out))⟩)
      ·skip
       refine Kd.R_lit_step k48 _ 48 ?hg (N := 23) ?hd (xs := ([(⟨a2_0, a2_1, a2_2⟩ : S48)] : List (S48))) (inner := [.int .i64 a2_0, .bool a2_1, .int .i64 a2_2]) (ok := fun _ => True) (okp := fun _ => True) ?hr ?hp (fun _ hk => hk) trivial (Below.refl _ _) (Nat.le_refl _) (by simp) ?_; (case hd => rfl); (case hg => rfl); (case hr => first | (go_simp; done) | (go_simp; rfl)); (case hp => exact (Reps.c3 (show Kd.M k48 _ _ _ (⟨a2_0, a2_1, a2_2⟩ : S48) [.int .i64 a2_0, .bool a2_1, .int .i64 a2_2] from (k48_mkM _ _ _ (⟨a2_0, a2_1, a2_2⟩ : S48) )) (Reps.none _ _)))
       intro v322 w18 ho19 hb hg_ hnew_
       clear hg_ hnew_
       (first | rw [← Ny321.out] at ho19 | (simp only [Int.reduceToNat] at ho19; rw [← Ny321.out] at ho19))
       have n0_ := Aside0.mk (Kd.R_elder' (by (with_reducible repeat (first | apply Kd.R_alloc | apply Kd.R_drewN | apply Kd.R_drew)); exact HO317.out) (Kd.R_base ho19) hb)
       have n1_ := Aside0.mk (Kd.R_lower (Kd.R_newB (Kd.R_new' ho19 (Kd.R_lt (by (with_reducible repeat (first | apply Kd.R_alloc | apply Kd.R_drewN | apply Kd.R_drew)); exact HO317.out))) (g := gb313) (o := .cells #[.int .i64 a2_0, .bool a2_1, .int .i64 a2_2] 48 (0, 0)) (by (with_reducible repeat (first | refine blk_drewN ?_ _ | refine blk_drew ?_ | refine blk_alloc ?_ _)); exact BK313.out)) (below_size (by repeat (first | (with_reducible first | exact HB.out | apply below_alloc | apply pw_below_drewN | apply below_drew1 | refine below_set ?_ GE313.out) | exact HB.out))))
       have n2_ := Aside0.mk (blk_below (g := gb313) (o := .cells #[.int .i64 a2_0, .bool a2_1, .int .i64 a2_2] 48 (0, 0)) (by (with_reducible repeat (first | refine blk_drewN ?_ _ | refine blk_drew ?_ | refine blk_alloc ?_ _)); exact BK313.out) hb)
       have n3_ := Aside0.mk (below_step (by repeat (first | (with_reducible first | exact HB.out | apply below_alloc | apply pw_below_drewN | apply below_drew1 | refine below_set ?_ GE313.out) | exact HB.out)) hb)
       clear HO317
       clear BK313
       clear HB
       have HO317 := n0_
       have HO323 := n1_
       have BK313 := n2_
       have HB := n3_
       clear n0_ n1_ n2_ n3_
       clear hb ho19
       refine hK.out _ _ ⟨(blk_cell BK313.out 0).trans rfl, (blk_cell BK313.out 1).trans rfl, (blk_cell BK313.out 2).trans rfl⟩ (fun hHeld => ?_)
       clear hK K
       refine norm_ (a' := ?_) ?_ ?_
       rotate_left
       ·show Act.put _ (some 23) _ = _
        simp only [Act.put, List.setIfInBounds_toArray, List.set_cons_zero, List.set_cons_succ, i64_w, i32_w]
        rfl
       refine one_ (i := 2) (N := some 21) #[true, true, true, true, true, false, false] rfl rfl (by kernel_rfl) (by decide) (fun K hK => ?_)
       refine Kd.R_append_rows_step k48 (w0 := w) w.heap.size (by rfl) (.tmp 19) (.tmp 20) 24 48 (.agg #[(.int .i64 0), (.bool false), (.int .i64 0)]) 24 rfl Try.underlying24 info48 rfl (by decide) (by omega) v316 y315 l1 _ _ _ (fun k_ => some k_ ≠ (v322 : Value).ownBlock ∧ k_ ≠ gb313) (fun _ => False) rfl rfl ?aO ?aR (fun _ _ h => h) (fun _ h => h.elim) ?aF ?aB ?aS ?aL ?_
       (case aR => repeat (first | exact (Kd.C_below HR1.out HB.out) | (with_reducible refine Kd.C_alloc ?_ _) | (with_reducible refine Kd.C_drewN ?_ _) | (with_reducible refine Kd.C_drew ?_)))
       (case aB => exact (by repeat (first | (with_reducible first | exact HB.out | apply below_alloc | apply pw_below_drewN | apply below_drew1 | refine below_set ?_ GE313.out) | exact HB.out)))
       (case aF => exact (fun k_ hk => ⟨Kd.fresh' (Kd.R_lt (by (with_reducible repeat (first | apply Kd.R_alloc | apply Kd.R_drewN | apply Kd.R_drew)); exact HO323.out)) k_ hk, Kd.freshB (g := gb313) (o := .cells #[.int .i64 a2_0, .bool a2_1, .int .i64 a2_2] 48 (0, 0)) (by (with_reducible repeat (first | refine blk_drewN ?_ _ | refine blk_drew ?_ | refine blk_alloc ?_ _)); exact BK313.out) k_ hk⟩))
       (case aO => exact (by (with_reducible repeat (first | apply Kd.R_alloc | apply Kd.R_drewN | apply Kd.R_drew)); exact Kd.R_mono HO317.out (fun _ hk => ⟨hk.2, hk.1.2⟩)))
       (case aS => exact (below_size (by repeat (first | (with_reducible first | exact HB.out | apply below_alloc | apply pw_below_drewN | apply below_drew1 | refine below_set ?_ GE313.out) | exact HB.out))))
       (case aL => have := LMc6.out; omega)
       intro v319 w20 ho hb hg hat
       rw [← Ny318.out] at ho
       have n0_ := Aside0.mk (blk_grown (g := gb313) (o := .cells #[.int .i64 a2_0, .bool a2_1, .int .i64 a2_2] 48 (0, 0)) (by (with_reducible repeat (first | refine blk_drewN ?_ _ | refine blk_drew ?_ | refine blk_alloc ?_ _)); exact BK313.out) hg (Kd.R_away HO317.out (fun _ hk => hk.1.2)))
       have n1_ := Aside0.mk (Kd.R_after (ok := (fun k_ => k_ ≠ gb313)) (by (with_reducible repeat (first | apply Kd.R_alloc | apply Kd.R_drewN | apply Kd.R_drew)); exact Kd.R_mono HO323.out (fun _ hk => ⟨hk.2, hk.1.2⟩)) hg hat)
       have n2_ := Aside0.mk (hb)
       have n3_ := Aside0.mk (ho)
       clear BK313
       clear HO323
       clear HB
       clear HO317
       have BK313 := n0_
       have HO323 := n1_
       have HB := n2_
       have HO320 := n3_
       clear n0_ n1_ n2_ n3_
       clear ho hb hg hat
       refine hK.out _ _ ⟨(blk_cell BK313.out 0).trans rfl, (blk_cell BK313.out 1).trans rfl, (blk_cell BK313.out 2).trans rfl⟩ (fun hHeld => ?_)
       clear hK K
       refine norm_ (a' := ?_) ?_ ?_
       rotate_left
       ·show Act.put _ (some 21) _ = _
        simp only [Act.put, List.setIfInBounds_toArray, List.set_cons_zero, List.set_cons_succ, i64_w, i32_w]
        rfl
       exact norm_ (by simp only [putAll, Act.put, List.setIfInBounds_toArray, List.set_cons_zero, List.set_cons_succ]) (hCont (v316, v319, v322) _ ⟨hHeld, (by (with_reducible repeat (first | apply Kd.R_alloc | apply Kd.R_drewN | apply Kd.R_drew)); exact HO320.out), (by (with_reducible repeat (first | apply Kd.R_alloc | apply Kd.R_drewN | apply Kd.R_drew)); exact Kd.R_mono HO323.out (fun _ hk => ⟨hk.2, hk.1⟩)), (by (with_reducible repeat (first | refine blk_drewN ?_ _ | refine blk_drew ?_ | refine blk_alloc ?_ _)); exact BK313.out), (by repeat (first | (with_reducible first | exact HB.out | apply below_alloc | apply pw_below_drewN | apply below_drew1 | refine below_set ?_ GE313.out) | exact HB.out))⟩)
     ·skip
      refine Kd.R_lit_step k48 _ 48 ?hg (N := 23) ?hd (xs := ([(⟨a2_0, a2_1, a2_2⟩ : S48)] : List (S48))) (inner := [.int .i64 a2_0, .bool a2_1, .int .i64 a2_2]) (ok := fun _ => True) (okp := fun _ => True) ?hr ?hp (fun _ hk => hk) trivial (Below.refl _ _) (Nat.le_refl _) (by simp) ?_; (case hd => rfl); (case hg => rfl); (case hr => first | (go_simp; done) | (go_simp; rfl)); (case hp => exact (Reps.c3 (show Kd.M k48 _ _ _ (⟨a2_0, a2_1, a2_2⟩ : S48) [.int .i64 a2_0, .bool a2_1, .int .i64 a2_2] from (k48_mkM _ _ _ (⟨a2_0, a2_1, a2_2⟩ : S48) )) (Reps.none _ _)))
      intro v322 w16 ho17 hb hg_ hnew_
      clear hg_ hnew_
      (first | rw [← Ny321.out] at ho17 | (simp only [Int.reduceToNat] at ho17; rw [← Ny321.out] at ho17))
      have n0_ := Aside0.mk (Kd.R_lower (Kd.R_newB ho17 (g := gb313) (o := .cells #[.int .i64 a2_0, .bool a2_1, .int .i64 a2_2] 48 (0, 0)) (by (with_reducible repeat (first | refine blk_drewN ?_ _ | refine blk_drew ?_ | refine blk_alloc ?_ _)); exact BK313.out)) (below_size (by repeat (first | (with_reducible first | exact HB.out | apply below_alloc | apply pw_below_drewN | apply below_drew1 | refine below_set ?_ GE313.out) | exact HB.out))))
      have n1_ := Aside0.mk (blk_below (g := gb313) (o := .cells #[.int .i64 a2_0, .bool a2_1, .int .i64 a2_2] 48 (0, 0)) (by (with_reducible repeat (first | refine blk_drewN ?_ _ | refine blk_drew ?_ | refine blk_alloc ?_ _)); exact BK313.out) hb)
      have n2_ := Aside0.mk (below_step (by repeat (first | (with_reducible first | exact HB.out | apply below_alloc | apply pw_below_drewN | apply below_drew1 | refine below_set ?_ GE313.out) | exact HB.out)) hb)
      clear BK313
      clear HB
      have HO323 := n0_
      have BK313 := n1_
      have HB := n2_
      clear n0_ n1_ n2_
      clear hb ho17
      refine hK.out _ _ ⟨(blk_cell BK313.out 0).trans rfl, (blk_cell BK313.out 1).trans rfl, (blk_cell BK313.out 2).trans rfl⟩ (fun hHeld => ?_)
      clear hK K
      refine norm_ (a' := ?_) ?_ ?_
      rotate_left
      ·show Act.put _ (some 23) _ = _
       simp only [Act.put, List.setIfInBounds_toArray, List.set_cons_zero, List.set_cons_succ, i64_w, i32_w]
       rfl
      refine one_ (i := 0) (N := some 19) #[true, true, false, true, true, false, false] rfl rfl (by kernel_rfl) (by decide) (fun K hK => ?_)
      refine Kd.R_lit_step k48 _ 48 ?hg (N := 19) ?hd (xs := ([] : List (S48))) (inner := []) (ok := fun _ => True) (okp := fun _ => True) ?hr ?hp (fun _ hk => hk) trivial (Below.refl _ _) (Nat.le_refl _) (by simp) ?_; (case hd => rfl); (case hg => rfl); (case hr => first | (go_simp; done) | (go_simp; rfl)); (case hp => exact (Reps.none _ _))
      intro v316 w18 ho19 hb hg_ hnew_
      clear hg_ hnew_
      (first | rw [← Ny315.out] at ho19 | (simp only [Int.reduceToNat] at ho19; rw [← Ny315.out] at ho19))
      have n0_ := Aside0.mk (Kd.R_elder' (by (with_reducible repeat (first | apply Kd.R_alloc | apply Kd.R_drewN | apply Kd.R_drew)); exact HO323.out) (Kd.R_base ho19) hb)
      have n1_ := Aside0.mk (Kd.R_lower (Kd.R_newB (Kd.R_new' ho19 (Kd.R_lt (by (with_reducible repeat (first | apply Kd.R_alloc | apply Kd.R_drewN | apply Kd.R_drew)); exact HO323.out))) (g := gb313) (o := .cells #[.int .i64 a2_0, .bool a2_1, .int .i64 a2_2] 48 (0, 0)) (by (with_reducible repeat (first | refine blk_drewN ?_ _ | refine blk_drew ?_ | refine blk_alloc ?_ _)); exact BK313.out)) (below_size (by repeat (first | (with_reducible first | exact HB.out | apply below_alloc | apply pw_below_drewN | apply below_drew1 | refine below_set ?_ GE313.out) | exact HB.out))))
      have n2_ := Aside0.mk (blk_below (g := gb313) (o := .cells #[.int .i64 a2_0, .bool a2_1, .int .i64 a2_2] 48 (0, 0)) (by (with_reducible repeat (first | refine blk_drewN ?_ _ | refine blk_drew ?_ | refine blk_alloc ?_ _)); exact BK313.out) hb)
      have n3_ := Aside0.mk (below_step (by repeat (first | (with_reducible first | exact HB.out | apply below_alloc | apply pw_below_drewN | apply below_drew1 | refine below_set ?_ GE313.out) | exact HB.out)) hb)
      clear HO323
      clear BK313
      clear HB
      have HO323 := n0_
      have HO317 := n1_
      have BK313 := n2_
      have HB := n3_
      clear n0_ n1_ n2_ n3_
      clear hb ho19
      refine hK.out _ _ ⟨(blk_cell BK313.out 0).trans rfl, (blk_cell BK313.out 1).trans rfl, (blk_cell BK313.out 2).trans rfl⟩ (fun hHeld => ?_)
      clear hK K
      refine norm_ (a' := ?_) ?_ ?_
      rotate_left
      ·show Act.put _ (some 19) _ = _
       simp only [Act.put, List.setIfInBounds_toArray, List.set_cons_zero, List.set_cons_succ, i64_w, i32_w]
       rfl
      refine one_ (i := 2) (N := some 21) #[true, true, true, true, true, false, false] rfl rfl (by kernel_rfl) (by decide) (fun K hK => ?_)
      refine Kd.R_append_rows_step k48 (w0 := w) w.heap.size (by rfl) (.tmp 19) (.tmp 20) 24 48 (.agg #[(.int .i64 0), (.bool false), (.int .i64 0)]) 24 rfl Try.underlying24 info48 rfl (by decide) (by omega) v316 y315 l1 _ _ _ (fun k_ => some k_ ≠ (v322 : Value).ownBlock ∧ k_ ≠ gb313) (fun _ => False) rfl rfl ?aO ?aR (fun _ _ h => h) (fun _ h => h.elim) ?aF ?aB ?aS ?aL ?_
      (case aR => repeat (first | exact (Kd.C_below HR1.out HB.out) | (with_reducible refine Kd.C_alloc ?_ _) | (with_reducible refine Kd.C_drewN ?_ _) | (with_reducible refine Kd.C_drew ?_)))
      (case aB => exact (by repeat (first | (with_reducible first | exact HB.out | apply below_alloc | apply pw_below_drewN | apply below_drew1 | refine below_set ?_ GE313.out) | exact HB.out)))
      (case aF => exact (fun k_ hk => ⟨Kd.fresh' (Kd.R_lt (by (with_reducible repeat (first | apply Kd.R_alloc | apply Kd.R_drewN | apply Kd.R_drew)); exact HO323.out)) k_ hk, Kd.freshB (g := gb313) (o := .cells #[.int .i64 a2_0, .bool a2_1, .int .i64 a2_2] 48 (0, 0)) (by (with_reducible repeat (first | refine blk_drewN ?_ _ | refine blk_drew ?_ | refine blk_alloc ?_ _)); exact BK313.out) k_ hk⟩))
      (case aO => exact (by (with_reducible repeat (first | apply Kd.R_alloc | apply Kd.R_drewN | apply Kd.R_drew)); exact Kd.R_mono HO317.out (fun _ hk => ⟨hk.1.2, hk.2⟩)))
      (case aS => exact (below_size (by repeat (first | (with_reducible first | exact HB.out | apply below_alloc | apply pw_below_drewN | apply below_drew1 | refine below_set ?_ GE313.out) | exact HB.out))))
      (case aL => have := LMc6.out; omega)
      intro v319 w20 ho hb hg hat
      rw [← Ny318.out] at ho
      have n0_ := Aside0.mk (blk_grown (g := gb313) (o := .cells #[.int .i64 a2_0, .bool a2_1, .int .i64 a2_2] 48 (0, 0)) (by (with_reducible repeat (first | refine blk_drewN ?_ _ | refine blk_drew ?_ | refine blk_alloc ?_ _)); exact BK313.out) hg (Kd.R_away HO317.out (fun _ hk => hk.2)))
      have n1_ := Aside0.mk (Kd.R_after (ok := (fun k_ => k_ ≠ gb313)) (by (with_reducible repeat (first | apply Kd.R_alloc | apply Kd.R_drewN | apply Kd.R_drew)); exact Kd.R_mono HO323.out (fun _ hk => ⟨hk.1.2, hk.2⟩)) hg hat)
      have n2_ := Aside0.mk (hb)
      have n3_ := Aside0.mk (ho)
      clear BK313
      clear HO323
      clear HB
      clear HO317
      have BK313 := n0_
      have HO323 := n1_
      have HB := n2_
      have HO320 := n3_
      clear n0_ n1_ n2_ n3_
      clear ho hb hg hat
      refine hK.out _ _ ⟨(blk_cell BK313.out 0).trans rfl, (blk_cell BK313.out 1).trans rfl, (blk_cell BK313.out 2).trans rfl⟩ (fun hHeld => ?_)
      clear hK K
      refine norm_ (a' := ?_) ?_ ?_
      rotate_left
      ·show Act.put _ (some 21) _ = _
       simp only [Act.put, List.setIfInBounds_toArray, List.set_cons_zero, List.set_cons_succ, i64_w, i32_w]
       rfl
      exact norm_ (by simp only [putAll, Act.put, List.setIfInBounds_toArray, List.set_cons_zero, List.set_cons_succ]) (hCont (v316, v319, v322) _ ⟨hHeld, (by (with_reducible repeat (first | apply Kd.R_alloc | apply Kd.R_drewN | apply Kd.R_drew)); exact HO320.out), (by (with_reducible repeat (first | apply Kd.R_alloc | apply Kd.R_drewN | apply Kd.R_drew)); exact Kd.R_mono HO323.out (fun _ hk => ⟨hk.2, hk.1⟩)), (by (with_reducible repeat (first | refine blk_drewN ?_ _ | refine blk_drew ?_ | refine blk_alloc ?_ _)); exact BK313.out), (by repeat (first | (with_reducible first | exact HB.out | apply below_alloc | apply pw_below_drewN | apply below_drew1 | refine below_set ?_ GE313.out) | exact HB.out))⟩)
    rintro ⟨v316, v319, v322⟩ w21 ⟨hS_, h0_, h1_, h2_, h3_⟩
    have n0_ : Aside0 (Kd.R k48 48 w21 w.heap.size (fun k_ => some k_ ≠ (v322 : Value).ownBlock ∧ k_ ≠ gb313) v319 y318) := ⟨h0_⟩
    have n1_ : Aside0 (Kd.R k48 48 w21 w.heap.size (fun k_ => some k_ ≠ (v319 : Value).ownBlock ∧ k_ ≠ gb313) v322 y321) := ⟨h1_⟩
    have n2_ : Aside0 (w21.heap[gb313]? = some (.cells #[.int .i64 a2_0, .bool a2_1, .int .i64 a2_2] 48 (0, 0))) := ⟨h2_⟩
    have n3_ : Aside0 (Below w.heap.size w w21) := ⟨h3_⟩
    clear BK313
    clear HB
    clear h0_ h1_ h2_ h3_
    have HO320 := n0_
    have HO323 := n1_
    have BK313 := n2_
    have HB := n3_
    clear n0_ n1_ n2_ n3_
    have hHeld : w21.cell? ⟨gb313, 0, none⟩ = some (.int .i64 a2_0) ∧ w21.cell? ⟨gb313, 1, none⟩ = some (.bool a2_1) ∧ w21.cell? ⟨gb313, 2, none⟩ = some (.int .i64 a2_2) := hS_
    obtain ⟨Ao23, co23, eo23⟩ := Kd.R_slice HO323.out
    (first | subst eo23 | (injection eo23 with f1_ f2_ f3_; have f4_ := f1_.symm; have f5_ := f3_.symm; clear f1_ f2_ f3_; subst f4_; subst f5_))
    refine norm_ (a' := ?_) ?_ ?_
    rotate_left
    ·simp only [putAll, Act.put, List.setIfInBounds_toArray, List.set_cons_zero, List.set_cons_succ]
     rfl
    refine one_ (i := 5) (N := some 24) #[true, true, true, true, true, true, false] rfl rfl (by kernel_rfl) (by decide) (fun K hK => ?_)
    refine Kd.R_append_rows_step k48 (w0 := w) w.heap.size (by rfl) (.tmp 21) (.tmp 23) 24 48 (.agg #[(.int .i64 0), (.bool false), (.int .i64 0)]) 24 rfl Try.underlying24 info48 rfl (by decide) (by omega) v319 y318 y321 _ _ _ (fun k_ => some k_ ≠ (.slice Ao23 y321.length co23 : Value).ownBlock ∧ k_ ≠ gb313) (fun _ => False) rfl rfl ?aO ?aR (fun _ _ h => h) (fun _ h => h.elim) ?aF ?aB ?aS ?aL ?_
    (case aR => repeat (first | exact (Kd.R_reads' HO323.out).2.2 | (with_reducible refine Kd.C_alloc ?_ _) | (with_reducible refine Kd.C_drewN ?_ _) | (with_reducible refine Kd.C_drew ?_)))
    (case aB => exact (by repeat (first | (with_reducible first | exact HB.out | apply below_alloc | apply pw_below_drewN | apply below_drew1 | refine below_set ?_ GE313.out) | exact HB.out)))
    (case aF => exact (fun k_ hk => ⟨Kd.fresh' (Kd.R_lt (by (with_reducible repeat (first | apply Kd.R_alloc | apply Kd.R_drewN | apply Kd.R_drew)); exact HO323.out)) k_ hk, Kd.freshB (g := gb313) (o := .cells #[.int .i64 a2_0, .bool a2_1, .int .i64 a2_2] 48 (0, 0)) (by (with_reducible repeat (first | refine blk_drewN ?_ _ | refine blk_drew ?_ | refine blk_alloc ?_ _)); exact BK313.out) k_ hk⟩))
    (case aO => exact (by (with_reducible repeat (first | apply Kd.R_alloc | apply Kd.R_drewN | apply Kd.R_drew)); exact HO320.out))
    (case aS => exact (below_size (by repeat (first | (with_reducible first | exact HB.out | apply below_alloc | apply pw_below_drewN | apply below_drew1 | refine below_set ?_ GE313.out) | exact HB.out))))
    (case aL => have := LMc7.out; omega)
    intro v325 w22 ho hb hg hat
    rw [← Ny324.out] at ho
    have n0_ := Aside0.mk (blk_grown (g := gb313) (o := .cells #[.int .i64 a2_0, .bool a2_1, .int .i64 a2_2] 48 (0, 0)) (by (with_reducible repeat (first | refine blk_drewN ?_ _ | refine blk_drew ?_ | refine blk_alloc ?_ _)); exact BK313.out) hg (Kd.R_away HO320.out (fun _ hk => hk.2)))
    have n1_ := Aside0.mk (Kd.R_after (ok := (fun k_ => k_ ≠ gb313)) (by (with_reducible repeat (first | apply Kd.R_alloc | apply Kd.R_drewN | apply Kd.R_drew)); exact Kd.R_mono HO323.out (fun _ hk => ⟨hk.2, hk.1⟩)) hg hat)
    have n2_ := Aside0.mk (hb)
    have n3_ := Aside0.mk (ho)
    clear BK313
    clear HO323
    clear HB
    clear HO320
    have BK313 := n0_
    have HO323 := n1_
    have HB := n2_
    have HO326 := n3_
    clear n0_ n1_ n2_ n3_
    clear ho hb hg hat
    refine hK.out _ _ ⟨(blk_cell BK313.out 0).trans rfl, (blk_cell BK313.out 1).trans rfl, (blk_cell BK313.out 2).trans rfl⟩ (fun hHeld => ?_)
    clear hK K
    refine norm_ (a' := ?_) ?_ ?_
    rotate_left
    ·show Act.put _ (some 24) _ = _
     simp only [Act.put, List.setIfInBounds_toArray, List.set_cons_zero, List.set_cons_succ, i64_w, i32_w]
     rfl
    refine pure_ (i := 6) (N := some 10) (v := ?_) (a' := ?_) #[true, true, true, true, true, true, true] rfl rfl (by kernel_rfl) (fun _ _ _ h => h) (Or.inl ⟨by rfl, ?_⟩) ?_ ?_
    rotate_left
    ·intro w'
     go_simp
     with_reducible rfl
    rotate_left
    ·simp only [Act.put, List.setIfInBounds_toArray, List.set_cons_zero, List.set_cons_succ, i64_w, i32_w]
     rfl
    refine done_ (by kernel_rfl) ?_
    obtain ⟨Ao24, co24, eo24⟩ := Kd.R_slice HO326.out
    subst eo24
    go_upto_region 7 with (first | ((with_reducible refine gate_callee (f := 24) rfl ?_); refine goesL_ (some 28) rfl rfl Try.func24 (by kernel_rfl) rfl #[.slice A0 l0.length c0, .slice Ao24 y324.length co24, .int .i64 a3] rfl (by (try simp only [List.map_toArray, List.map_cons, List.map_nil]); first | done | rfl | (simp only [List.length_drop, List.length_take]; rfl)) ?_; (with_reducible refine (cohousinglaw36_usable.calls k _ _ l0 _ _ y324 a3 true _ ?side1 ?side2 ?side3 ?side4 A8.out).mono ?_); (case side1 => repeat (first | exact (Kd.C_below HR0.out HB.out) | (with_reducible refine Kd.C_alloc ?_ _) | (with_reducible refine Kd.C_drewN ?_ _) | (with_reducible refine Kd.C_drew ?_))); (case side2 => exact HC0.out); (case side3 => repeat (first | exact (Kd.R_reads' HO326.out).2.2 | (with_reducible refine Kd.C_alloc ?_ _) | (with_reducible refine Kd.C_drewN ?_ _) | (with_reducible refine Kd.C_drew ?_))); (case side4 => exact (Kd.R_reads' HO326.out).2.1); rintro e w25 ⟨rfl, hb⟩; refine ⟨_, rfl, ?_⟩; have n0_ := Aside0.mk (Kd.R_below (by (with_reducible repeat (first | apply Kd.R_alloc | apply Kd.R_drewN | apply Kd.R_drew)); exact HO323.out) hb); have n1_ := Aside0.mk (Kd.R_below (by (with_reducible repeat (first | apply Kd.R_alloc | apply Kd.R_drewN | apply Kd.R_drew)); exact HO326.out) hb); have n2_ := Aside0.mk (blk_below (g := gb313) (o := .cells #[.int .i64 a2_0, .bool a2_1, .int .i64 a2_2] 48 (0, 0)) (by (with_reducible repeat (first | refine blk_drewN ?_ _ | refine blk_drew ?_ | refine blk_alloc ?_ _)); exact BK313.out) hb); have n3_ := Aside0.mk (below_step (by repeat (first | (with_reducible first | exact HB.out | apply below_alloc | apply pw_below_drewN | apply below_drew1 | refine below_set ?_ GE313.out) | exact HB.out)) hb); clear HO323; clear HO326; clear BK313; clear HB; have HO323 := n0_; have HO326 := n1_; have BK313 := n2_; have HB := n3_; clear n0_ n1_ n2_ n3_; (try clear hb); (try clear hb2); (try clear hk); (try clear hi)) | ((with_reducible refine gate_callee (f := 18) rfl ?_); refine goesL_ (some 35) rfl rfl Try.func18 (by kernel_rfl) rfl #[.slice A0 l0.length c0, .slice A1 l1.length c1, .int .i64 a3] rfl (by (try simp only [List.map_toArray, List.map_cons, List.map_nil]); first | done | rfl | (simp only [List.length_drop, List.length_take]; rfl)) ?_; (with_reducible refine (cause_States.calls _ _ l0 _ _ l1 a3 t328 t329 _ ?side1 ?side2 ?side3 ?side4 A10.out).mono ?_); (case side1 => repeat (first | exact (Kd.C_below HR0.out HB.out) | (with_reducible refine Kd.C_alloc ?_ _) | (with_reducible refine Kd.C_drewN ?_ _) | (with_reducible refine Kd.C_drew ?_))); (case side2 => exact HC0.out); (case side3 => repeat (first | exact (Kd.C_below HR1.out HB.out) | (with_reducible refine Kd.C_alloc ?_ _) | (with_reducible refine Kd.C_drewN ?_ _) | (with_reducible refine Kd.C_drew ?_))); (case side4 => exact HC1.out); rintro e w26 ⟨v330, rfl, ho0, hb⟩; refine ⟨_, rfl, ?_⟩; have n0_ := Aside0.mk (Kd.R_below (by (with_reducible repeat (first | apply Kd.R_alloc | apply Kd.R_drewN | apply Kd.R_drew)); exact HO323.out) hb); have n1_ := Aside0.mk (Kd.R_below (by (with_reducible repeat (first | apply Kd.R_alloc | apply Kd.R_drewN | apply Kd.R_drew)); exact HO326.out) hb); have n2_ := Aside0.mk (Kd.N_lower (Kd.N_mono (ok' := fun k_ => some k_ ≠ (.slice Ao23 y321.length co23 : Value).ownBlock ∧ some k_ ≠ (.slice Ao24 y324.length co24 : Value).ownBlock ∧ k_ ≠ gb313) (Kd.S_N (Kd.S_bound ho0)) (fun k_ hk_ => ⟨(Kd.fresh' (Kd.R_lt (by (with_reducible repeat (first | apply Kd.R_alloc | apply Kd.R_drewN | apply Kd.R_drew)); exact HO323.out)) k_ hk_.2.1), (Kd.fresh' (Kd.R_lt (by (with_reducible repeat (first | apply Kd.R_alloc | apply Kd.R_drewN | apply Kd.R_drew)); exact HO326.out)) k_ hk_.2.1), (Kd.freshB (g := gb313) (o := .cells #[.int .i64 a2_0, .bool a2_1, .int .i64 a2_2] 48 (0, 0)) (by (with_reducible repeat (first | refine blk_drewN ?_ _ | refine blk_drew ?_ | refine blk_alloc ?_ _)); exact BK313.out) k_ hk_.2.1)⟩)) (below_size (by repeat (first | (with_reducible first | exact HB.out | apply below_alloc | apply pw_below_drewN | apply below_drew1 | refine below_set ?_ GE313.out) | exact HB.out)))); have n3_ := Aside0.mk (blk_below (g := gb313) (o := .cells #[.int .i64 a2_0, .bool a2_1, .int .i64 a2_2] 48 (0, 0)) (by (with_reducible repeat (first | refine blk_drewN ?_ _ | refine blk_drew ?_ | refine blk_alloc ?_ _)); exact BK313.out) hb); have n4_ := Aside0.mk (below_step (by repeat (first | (with_reducible first | exact HB.out | apply below_alloc | apply pw_below_drewN | apply below_drew1 | refine below_set ?_ GE313.out) | exact HB.out)) hb); clear HO323; clear HO326; clear BK313; clear HB; have HO323 := n0_; have HO326 := n1_; have HO331 := n2_; have BK313 := n3_; have HB := n4_; clear n0_ n1_ n2_ n3_ n4_; (try clear hb); (try clear hb2); (try clear hk); (try clear hi); (try clear ho0)) | ((with_reducible refine gate_callee (f := 18) rfl ?_); refine goesL_ (some 42) rfl rfl Try.func18 (by kernel_rfl) rfl #[.slice A0 l0.length c0, .slice Ao24 y324.length co24, .int .i64 a3] rfl (by (try simp only [List.map_toArray, List.map_cons, List.map_nil]); first | done | rfl | (simp only [List.length_drop, List.length_take]; rfl)) ?_; (with_reducible refine (cause_States.calls _ _ l0 _ _ y324 a3 t332 t333 _ ?side1 ?side2 ?side3 ?side4 A11.out).mono ?_); (case side1 => repeat (first | exact (Kd.C_below HR0.out HB.out) | (with_reducible refine Kd.C_alloc ?_ _) | (with_reducible refine Kd.C_drewN ?_ _) | (with_reducible refine Kd.C_drew ?_))); (case side2 => exact HC0.out); (case side3 => repeat (first | exact (Kd.R_reads' HO326.out).2.2 | (with_reducible refine Kd.C_alloc ?_ _) | (with_reducible refine Kd.C_drewN ?_ _) | (with_reducible refine Kd.C_drew ?_))); (case side4 => exact (Kd.R_reads' HO326.out).2.1); rintro e w27 ⟨v334, rfl, ho0, hb⟩; refine ⟨_, rfl, ?_⟩; have n0_ := Aside0.mk (Kd.R_below (by (with_reducible repeat (first | apply Kd.R_alloc | apply Kd.R_drewN | apply Kd.R_drew)); exact HO323.out) hb); have n1_ := Aside0.mk (Kd.R_below (by (with_reducible repeat (first | apply Kd.R_alloc | apply Kd.R_drewN | apply Kd.R_drew)); exact HO326.out) hb); have n2_ := Aside0.mk (Kd.N_elder' (by (with_reducible repeat (first | apply Kd.N_alloc | apply Kd.N_drewN | apply Kd.N_drew)); exact HO331.out) (by first | exact Kd.N_base ho0 | exact Kd.N_base (Kd.S_N (Kd.S_bound ho0))) hb); have n3_ := Aside0.mk (Kd.N_lower (Kd.N_mono (ok' := fun k_ => some k_ ≠ (.slice Ao23 y321.length co23 : Value).ownBlock ∧ some k_ ≠ (.slice Ao24 y324.length co24 : Value).ownBlock ∧ some k_ ≠ (v330 : Value).ownBlock ∧ k_ ≠ gb313) (Kd.S_N (Kd.S_bound ho0)) (fun k_ hk_ => ⟨(Kd.fresh' (Kd.R_lt (by (with_reducible repeat (first | apply Kd.R_alloc | apply Kd.R_drewN | apply Kd.R_drew)); exact HO323.out)) k_ hk_.2.1), (Kd.fresh' (Kd.R_lt (by (with_reducible repeat (first | apply Kd.R_alloc | apply Kd.R_drewN | apply Kd.R_drew)); exact HO326.out)) k_ hk_.2.1), (Kd.fresh' (Kd.N_lt (by (with_reducible repeat (first | apply Kd.N_alloc | apply Kd.N_drewN | apply Kd.N_drew)); exact HO331.out)) k_ hk_.2.1), (Kd.freshB (g := gb313) (o := .cells #[.int .i64 a2_0, .bool a2_1, .int .i64 a2_2] 48 (0, 0)) (by (with_reducible repeat (first | refine blk_drewN ?_ _ | refine blk_drew ?_ | refine blk_alloc ?_ _)); exact BK313.out) k_ hk_.2.1)⟩)) (below_size (by repeat (first | (with_reducible first | exact HB.out | apply below_alloc | apply pw_below_drewN | apply below_drew1 | refine below_set ?_ GE313.out) | exact HB.out)))); have n4_ := Aside0.mk (blk_below (g := gb313) (o := .cells #[.int .i64 a2_0, .bool a2_1, .int .i64 a2_2] 48 (0, 0)) (by (with_reducible repeat (first | refine blk_drewN ?_ _ | refine blk_drew ?_ | refine blk_alloc ?_ _)); exact BK313.out) hb); have n5_ := Aside0.mk (below_step (by repeat (first | (with_reducible first | exact HB.out | apply below_alloc | apply pw_below_drewN | apply below_drew1 | refine below_set ?_ GE313.out) | exact HB.out)) hb); clear HO323; clear HO326; clear HO331; clear BK313; clear HB; have HO323 := n0_; have HO326 := n1_; have HO331 := n2_; have HO335 := n3_; have BK313 := n4_; have HB := n5_; clear n0_ n1_ n2_ n3_ n4_ n5_; (try clear hb); (try clear hb2); (try clear hk); (try clear hi); (try clear ho0)))
    (try simp only [Act.put, List.setIfInBounds_toArray, List.set_cons_zero, List.set_cons_succ])
    go_cut [50] (fun v50 wc => ∃ (kq : Nat) (x50_11 : Bool), v50 = .bool x50_11 ∧ Aside0 (cohousinglaw36_CauseObserves.j0 kq l0 a3 t314 t328 t332 x50_11 a2_0 a2_1 a2_2 = some r) ∧ Aside0 (kq ≤ k) ∧ Aside0 (Kd.N (Kd.slice 4 Kd.bool) 23 wc w.heap.size (fun k_ => some k_ ≠ (v334 : Value).ownBlock ∧ k_ ≠ gb313) v330 t328) ∧ Aside0 (Kd.N (Kd.slice 4 Kd.bool) 23 wc w.heap.size (fun k_ => some k_ ≠ (v330 : Value).ownBlock ∧ k_ ≠ gb313) v334 t332) ∧ Aside0 (wc.heap[gb313]? = some (.cells #[.int .i64 a2_0, .bool a2_1, .int .i64 a2_2] 48 (0, 0))) ∧ Aside0 (Below w.heap.size w wc))
    case first =>
     have H := HC12.out
     clear HC12
     by_cases c28 : t329 = 0
     ·rw [if_pos c28] at H
      have c28b0 : (t329 == 0) = true := beq_iff_eq.mpr c28
      have c28b1 : (t329 != 0) = false := bne_eq_false_iff_eq.mpr c28
      clear c28
      (first | rw [c28b0] | (simp only [i64_w, i32_w]; rw [c28b0]) | skip)
      have H' := Aside0.mk H
      clear H
      go_wp2
      go_meet
      case rel => exact ⟨_, ((t333 != 0)), (by first | rfl | (simp; done) | (simp [*]; done)), H', ⟨by first | omega | exact Nat.le_refl _⟩, ⟨by (with_reducible repeat (first | apply Kd.N_alloc | apply Kd.N_drewN | apply Kd.N_drew)); exact Kd.N_mono HO331.out (fun _ hk => ⟨hk.2, hk.1.2.2⟩)⟩, ⟨by (with_reducible repeat (first | apply Kd.N_alloc | apply Kd.N_drewN | apply Kd.N_drew)); exact Kd.N_mono HO335.out (fun _ hk => ⟨hk.2.2.1, hk.2.2.2⟩)⟩, ⟨by (with_reducible repeat (first | refine blk_drewN ?_ _ | refine blk_drew ?_ | refine blk_alloc ?_ _)); exact BK313.out⟩, ⟨by repeat (first | (with_reducible first | exact HB.out | apply below_alloc | apply pw_below_drewN | apply below_drew1 | refine below_set ?_ GE313.out) | exact HB.out)⟩⟩
     ·rw [if_neg c28] at H
      have c28b0 : (t329 == 0) = false := beq_eq_false_iff_ne.mpr c28
      have c28b1 : (t329 != 0) = true := bne_iff_ne.mpr c28
      (first | rw [c28b0] | (simp only [i64_w, i32_w]; rw [c28b0]) | skip)
      have H' := Aside0.mk H
      clear H
      go_wp2
      go_meet
      case rel => exact ⟨_, (true), (by first | rfl | (simp; done) | (simp [*]; done)), H', ⟨by first | omega | exact Nat.le_refl _⟩, ⟨by (with_reducible repeat (first | apply Kd.N_alloc | apply Kd.N_drewN | apply Kd.N_drew)); exact Kd.N_mono HO331.out (fun _ hk => ⟨hk.2, hk.1.2.2⟩)⟩, ⟨by (with_reducible repeat (first | apply Kd.N_alloc | apply Kd.N_drewN | apply Kd.N_drew)); exact Kd.N_mono HO335.out (fun _ hk => ⟨hk.2.2.1, hk.2.2.2⟩)⟩, ⟨by (with_reducible repeat (first | refine blk_drewN ?_ _ | refine blk_drew ?_ | refine blk_alloc ?_ _)); exact BK313.out⟩, ⟨by repeat (first | (with_reducible first | exact HB.out | apply below_alloc | apply pw_below_drewN | apply below_drew1 | refine below_set ?_ GE313.out) | exact HB.out)⟩⟩
    case rest =>
     clear HC12
     try clear c1
     try clear c2
     try clear p2
     try clear c3
     try clear c6
     try clear c7
     try clear c9
     try clear c11
     try clear c18
     try clear c24
     try clear c28
     try clear c28b0
     try clear c28b1
     obtain ⟨kq, x50_11, rfl, HA, HJ11, HO_11, HO_13, BK313, HB⟩ := hcut
     cases kq with
     | zero => exact absurd HA.out (by simp [cohousinglaw36_CauseObserves.j0])
     | succ kj11 =>
      have H := HA.out
      clear HA
      simp only [cohousinglaw36_CauseObserves.j0] at H
      by_cases c29 : x50_11 = true
      ·subst c29
       have H1 : (some false) = some r := by rw [if_pos rfl] at H; exact H
       clear H
       have H := H1
       clear H1
       obtain rfl := Option.some.inj H
       go_wp2
       go_ret
       exact ⟨by first | rfl | (simp [errW_none, errW_some] <;> rfl) | (simp [*, errW_none, errW_some] <;> rfl), by repeat (first | (with_reducible first | exact HB.out | apply below_alloc | apply pw_below_drewN | apply below_drew1 | refine below_set ?_ GE313.out) | exact HB.out)⟩
      ·replace c29 := Bool.eq_false_iff.mpr c29
       subst c29
       have H1 : (cohousinglaw36_CauseObserves.l0 kj11 l0 a3 t314 t332 ([] : List (List Bool)) t328 (t328.length : Int) 0 a2_0 a2_1 a2_2) = some r := by rw [if_neg (show ¬ (false = true) by decide)] at H; exact H
       clear H
       have H := H1
       clear H1
       have H' := Aside0.mk H
       clear H
       obtain ⟨Ao30, co30, eo30⟩ := Kd.N_slice HO_11.out
       subst eo30
       go_wp2
       go_loopg [15, 53] kj11 (fun kq v15 v53 w' => ∃ (x15_2 : List (List Bool)) (x53_2 : Int), v53 = .int .i64 x53_2 ∧ Aside0 (cohousinglaw36_CauseObserves.l0 kq l0 a3 t314 t332 x15_2 t328 (t328.length : Int) x53_2 a2_0 a2_1 a2_2 = some r) ∧ Aside0 (kq ≤ kj11) ∧ Aside0 (Kd.N (Kd.slice 4 Kd.bool) 23 w' w.heap.size (fun k_ => some k_ ≠ (v15 : Value).ownBlock ∧ some k_ ≠ ((.slice Ao30 t328.length co30) : Value).ownBlock ∧ k_ ≠ gb313) v334 t332) ∧ Aside0 (Kd.N (Kd.slice 4 Kd.bool) 23 w' w.heap.size (fun k_ => some k_ ≠ (v334 : Value).ownBlock ∧ some k_ ≠ ((.slice Ao30 t328.length co30) : Value).ownBlock ∧ k_ ≠ gb313) v15 x15_2) ∧ Aside0 (Kd.N (Kd.slice 4 Kd.bool) 23 w' w.heap.size (fun k_ => some k_ ≠ (v334 : Value).ownBlock ∧ some k_ ≠ (v15 : Value).ownBlock ∧ k_ ≠ gb313) (.slice Ao30 t328.length co30) t328) ∧ Aside0 (w'.heap[gb313]? = some (.cells #[.int .i64 a2_0, .bool a2_1, .int .i64 a2_2] 48 (0, 0))) ∧ Aside0 (Below w.heap.size w w'))
       case atStart => exact ⟨(([] : List (List Bool))), (0), (by first | rfl | (simp; done) | (simp [*]; done)), H', ⟨Nat.le_refl _⟩, ⟨by (with_reducible repeat (first | apply Kd.N_alloc | apply Kd.N_drewN | apply Kd.N_drew)); exact Kd.N_mono HO_13.out (fun _ hk => ⟨(by simp [Value.ownBlock]), ⟨hk.1, hk.2⟩⟩)⟩, ⟨by first | exact Kd.S_nil _ _ _ _ _ | exact Kd.N_nil _ _ _ _ _ | exact Kd.V_nil _ _ _ _ _ | exact Kd.Q_nil _ _ _ _ _ | exact Kd.R_nil _ _ _ _ _⟩, ⟨by (with_reducible repeat (first | apply Kd.N_alloc | apply Kd.N_drewN | apply Kd.N_drew)); exact Kd.N_mono HO_11.out (fun _ hk => ⟨hk.1, ⟨(by simp [Value.ownBlock]), hk.2⟩⟩)⟩, ⟨by (with_reducible repeat (first | refine blk_drewN ?_ _ | refine blk_drew ?_ | refine blk_alloc ?_ _)); exact BK313.out⟩, ⟨by repeat (first | (with_reducible first | exact HB.out | apply below_alloc | apply pw_below_drewN | apply below_drew1 | refine below_set ?_ GE313.out) | exact HB.out)⟩⟩
       case round =>
        clear H'
        try clear c1
        try clear c2
        try clear p2
        try clear c3
        try clear c6
        try clear c7
        try clear c9
        try clear c11
        try clear c18
        try clear c24
        try clear c28
        try clear c28b0
        try clear c28b1
        try clear c29
        try clear p2
        obtain ⟨x15_2, x53_2, rfl, HA, HK2, HO_13, HO_15, HO_51, BK313, HB⟩ := hrel
        cases gk with
        | zero => exact absurd HA.out (by simp [cohousinglaw36_CauseObserves.l0])
        | succ k2 =>
         have H := HA.out
         clear HA
         simp only [cohousinglaw36_CauseObserves.l0] at H
         by_cases c31 : x53_2 < (t328.length : Int)
         ·rw [if_pos c31] at H
          have c31b0 : decide (x53_2 < (t328.length : Int)) = true := decide_eq_true c31
          clear c31
          by_cases c32 : 0 ≤ x53_2
          ·rw [if_pos c32] at H
           have c32b0 : decide (0 ≤ x53_2) = true := decide_eq_true c32
           clear c32
           by_cases c33 : x53_2 < (t328.length : Int)
           ·rw [if_pos c33] at H
            have c33b0 : decide (x53_2 < (t328.length : Int)) = true := decide_eq_true c33
            clear c33
            obtain ⟨y337, hy337⟩ : ∃ y_ : List (S48), y_ = (([(⟨a2_0, a2_1, a2_2⟩ : S48)] : List (S48))) := ⟨_, rfl⟩
            replace H : ((cohousinglaw36_holds.f k2 l0 (rd_L3 t328 x53_2) y337 a3).bind fun t340 => (if t340 = true then ((some (([rd_L3 t328 x53_2] : List (List Bool)) : List (List Bool))).bind fun y341 => (if x15_2.length + y341.length < 5864062014805 then (cohousinglaw36_CauseObserves.l0 k2 l0 a3 t314 t332 (x15_2 ++ y341) t328 (t328.length : Int) (wrap64 (x53_2 + 1)) a2_0 a2_1 a2_2) else (none))) else (cohousinglaw36_CauseObserves.l0 k2 l0 a3 t314 t332 x15_2 t328 (t328.length : Int) (wrap64 (x53_2 + 1)) a2_0 a2_1 a2_2))) = some r := by first | (rw [hy337]; with_reducible exact H) | (have H2_ := (Option.bind_some _ _).symm.trans H; rw [hy337]; with_reducible exact H2_) | (have H2_ := (Option.bind_some _ _).symm.trans H; with_reducible exact H2_) | with_reducible exact H | (rw [hy337]; exact H) | exact H
            have Ny337 := Aside0.mk hy337
            clear hy337
            replace H := Option.bind_eq_some_iff.mp H
            obtain ⟨t340, A340, H⟩ := H
            replace H : (if t340 = true then ((some (([rd_L3 t328 x53_2] : List (List Bool)) : List (List Bool))).bind fun y341 => (if x15_2.length + y341.length < 5864062014805 then (cohousinglaw36_CauseObserves.l0 k2 l0 a3 t314 t332 (x15_2 ++ y341) t328 (t328.length : Int) (wrap64 (x53_2 + 1)) a2_0 a2_1 a2_2) else (none))) else (cohousinglaw36_CauseObserves.l0 k2 l0 a3 t314 t332 x15_2 t328 (t328.length : Int) (wrap64 (x53_2 + 1)) a2_0 a2_1 a2_2)) = some r := H
            have A34 := Aside0.mk A340
            clear A340
            by_cases c35 : t340 = true
            ·subst c35
             have H1 : ((some (([rd_L3 t328 x53_2] : List (List Bool)) : List (List Bool))).bind fun y341 => (if x15_2.length + y341.length < 5864062014805 then (cohousinglaw36_CauseObserves.l0 k2 l0 a3 t314 t332 (x15_2 ++ y341) t328 (t328.length : Int) (wrap64 (x53_2 + 1)) a2_0 a2_1 a2_2) else (none))) = some r := by rw [if_pos rfl] at H; exact H
             clear H
             have H := H1
             clear H1
             obtain ⟨y341, hy341⟩ : ∃ y_ : List (List Bool), y_ = (([rd_L3 t328 x53_2] : List (List Bool))) := ⟨_, rfl⟩
             replace H : (if x15_2.length + y341.length < 5864062014805 then (cohousinglaw36_CauseObserves.l0 k2 l0 a3 t314 t332 (x15_2 ++ y341) t328 (t328.length : Int) (wrap64 (x53_2 + 1)) a2_0 a2_1 a2_2) else (none)) = some r := by first | (rw [hy341]; with_reducible exact H) | (have H2_ := (Option.bind_some _ _).symm.trans H; rw [hy341]; with_reducible exact H2_) | (have H2_ := (Option.bind_some _ _).symm.trans H; with_reducible exact H2_) | with_reducible exact H | (rw [hy341]; exact H) | exact H
             have Ny341 := Aside0.mk hy341
             clear hy341
             by_cases c36 : x15_2.length + y341.length < 5864062014805
             ·rw [if_pos c36] at H
              have LMc36 := Aside0.mk c36
              clear c36
              obtain ⟨y344, hy344⟩ : ∃ y_ : List (List Bool), y_ = (x15_2 ++ y341) := ⟨_, rfl⟩
              replace H : (cohousinglaw36_CauseObserves.l0 k2 l0 a3 t314 t332 y344 t328 (t328.length : Int) (wrap64 (x53_2 + 1)) a2_0 a2_1 a2_2) = some r := by first | (rw [hy344]; with_reducible exact H) | (have H2_ := (Option.bind_some _ _).symm.trans H; rw [hy344]; with_reducible exact H2_) | (have H2_ := (Option.bind_some _ _).symm.trans H; with_reducible exact H2_) | with_reducible exact H | (rw [hy344]; exact H) | exact H
              have Ny344 := Aside0.mk hy344
              clear hy344
              have H' := Aside0.mk H
              clear H
              have p336 : 0 ≤ (x53_2 : Int) := of_decide_eq_true (by first | (with_reducible assumption) | assumption)
              have q336 : x53_2 < (t328.length : Int) := of_decide_eq_true (by first | (with_reducible assumption) | assumption)
              obtain ⟨ad336, A336_0, c336_0, e336, hx336_0, hl336_0, hi336_0⟩ := at_L3 (Kd.N_reads' HO_51.out).2.2 x53_2 p336 q336
              cases e336
              obtain ⟨ce336, hce336, hMe336, hcc336⟩ := Kd.N_get HO_51.out [] x53_2 p336 (by first | exact q336 | exact of_decide_eq_true (by first | (with_reducible assumption) | assumption) | (have e_ := (Kd.N_reads' HO_51.out).1; omega))
              obtain ⟨ua336_0, uc336_0, rfl, ul336_0, ge336_0⟩ := Kd.FK_slice_open hMe336
              have hv336_0 := hcc336 0 _ rfl
              rw [Nat.add_zero, show ((Kd.slice 4 Kd.bool)).sz = 1 from rfl, Nat.mul_one] at hv336_0
              replace hv336_0 := Option.some.inj (hv336_0.symm.trans hx336_0)
              injection hv336_0 with hva_ hvn_ hvc_
              rw [hva_] at ge336_0
              rw [hvc_] at ul336_0
              have HL336_0 := Aside0.mk (show Kd.V Kd.bool 4 _ w.heap.size _ _ (rd_L3 t328 x53_2) from Kd.V_mk ul336_0 ge336_0)
              clear hva_ hvn_ hvc_ ge336_0 ul336_0
              clear hcc336 hce336
              have HR336_0 := Aside0.mk hi336_0
              have HC336_0 := Aside0.mk hl336_0
              clear hi336_0 hl336_0
              replace p336 := eq_true p336
              replace q336 := eq_true q336
              have hcz37_0 : wr.cell? ⟨gb313, 0, none⟩ = some (.int .i64 a2_0) := (blk_cell BK313.out 0).trans rfl
              have hcz37_1 : wr.cell? ⟨gb313, 1, none⟩ = some (.bool a2_1) := (blk_cell BK313.out 1).trans rfl
              have hcz37_2 : wr.cell? ⟨gb313, 2, none⟩ = some (.int .i64 a2_2) := (blk_cell BK313.out 2).trans rfl
              have hfz37_0 := blk_frozen BK313.out 0
              have hfz37_1 := blk_frozen BK313.out 1
              have hfz37_2 := blk_frozen BK313.out 2
              go_wp2_with (first | ((with_reducible refine gate_dst (N := 60) rfl ?_); refine Kd.R_lit k48 _ 48 ?hg (N := 60) ?hd (xs := ([(⟨a2_0, a2_1, a2_2⟩ : S48)] : List (S48))) (inner := [.int .i64 a2_0, .bool a2_1, .int .i64 a2_2]) (ok := fun _ => True) (okp := fun _ => True) ?hr ?hp (fun _ hk => hk) trivial (Below.refl _ _) (Nat.le_refl _) (by simp) ?_; (case hd => rfl); (case hg => rfl); (case hr => first | (go_simp; done) | (go_simp; rfl)); (case hp => exact (Reps.c3 (show Kd.M k48 _ _ _ (⟨a2_0, a2_1, a2_2⟩ : S48) [.int .i64 a2_0, .bool a2_1, .int .i64 a2_2] from (k48_mkM _ _ _ (⟨a2_0, a2_1, a2_2⟩ : S48) )) (Reps.none _ _))); intro v338 w38 ho39 hb hg_ hnew_; clear hg_ hnew_; (first | rw [← Ny337.out] at ho39 | (simp only [Int.reduceToNat] at ho39; rw [← Ny337.out] at ho39)); have n0_ := Aside0.mk (Kd.N_elder' (by (with_reducible repeat (first | apply Kd.N_alloc | apply Kd.N_drewN | apply Kd.N_drew)); exact HO_13.out) (Kd.R_base ho39) hb); have n1_ := Aside0.mk (Kd.N_elder' (by (with_reducible repeat (first | apply Kd.N_alloc | apply Kd.N_drewN | apply Kd.N_drew)); exact HO_15.out) (Kd.R_base ho39) hb); have n2_ := Aside0.mk (Kd.N_elder' (by (with_reducible repeat (first | apply Kd.N_alloc | apply Kd.N_drewN | apply Kd.N_drew)); exact HO_51.out) (Kd.R_base ho39) hb); have n3_ := Aside0.mk (Kd.V_elder' (by (with_reducible repeat (first | apply Kd.V_alloc | apply Kd.V_drewN | apply Kd.V_drew)); exact HL336_0.out) (Kd.R_base ho39) hb); have n4_ := Aside0.mk (Kd.R_lower (Kd.R_newB ho39 (g := gb313) (o := .cells #[.int .i64 a2_0, .bool a2_1, .int .i64 a2_2] 48 (0, 0)) (by (with_reducible repeat (first | refine blk_drewN ?_ _ | refine blk_drew ?_ | refine blk_alloc ?_ _)); exact BK313.out)) (below_size (by repeat (first | (with_reducible first | exact HB.out | apply below_alloc | apply pw_below_drewN | apply below_drew1 | refine below_set ?_ GE313.out) | exact HB.out)))); have n5_ := Aside0.mk (blk_below (g := gb313) (o := .cells #[.int .i64 a2_0, .bool a2_1, .int .i64 a2_2] 48 (0, 0)) (by (with_reducible repeat (first | refine blk_drewN ?_ _ | refine blk_drew ?_ | refine blk_alloc ?_ _)); exact BK313.out) hb); have n6_ := Aside0.mk (Kd.C_below (by repeat (first | (with_reducible exact HR336_0.out) | (with_reducible refine Kd.C_alloc ?_ _) | (with_reducible refine Kd.C_drewN ?_ _) | (with_reducible refine Kd.C_drew ?_) | exact HR336_0.out)) hb); have n7_ := Aside0.mk (below_step (by repeat (first | (with_reducible first | exact HB.out | apply below_alloc | apply pw_below_drewN | apply below_drew1 | refine below_set ?_ GE313.out) | exact HB.out)) hb); clear HO_13; clear HO_15; clear HO_51; clear HL336_0; clear BK313; clear HR336_0; clear HB; have HO_13 := n0_; have HO_15 := n1_; have HO_51 := n2_; have HL336_0 := n3_; have HO339 := n4_; have BK313 := n5_; have HR336_0 := n6_; have HB := n7_; clear n0_ n1_ n2_ n3_ n4_ n5_ n6_ n7_; clear hb ho39; obtain ⟨Ao40, co40, eo40⟩ := Kd.R_slice HO339.out; subst eo40) | ((with_reducible refine gate_callee (f := 27) rfl ?_); refine goesL_ (some 62) rfl rfl Try.func27 (by kernel_rfl) rfl #[.slice A0 l0.length c0, .slice A336_0 (rd_L3 t328 x53_2).length c336_0, .slice Ao40 y337.length co40, .int .i64 a3] rfl (by (try simp only [List.map_toArray, List.map_cons, List.map_nil]); first | done | rfl | (simp only [List.length_drop, List.length_take]; rfl)) ?_; (with_reducible refine (cohousinglaw36_holds.calls k2 _ _ l0 _ _ (rd_L3 t328 x53_2) _ _ y337 a3 true _ ?side1 ?side2 ?side3 ?side4 ?side5 ?side6 A34.out).mono ?_); (case side1 => repeat (first | exact (Kd.C_below HR0.out HB.out) | (with_reducible refine Kd.C_alloc ?_ _) | (with_reducible refine Kd.C_drewN ?_ _) | (with_reducible refine Kd.C_drew ?_))); (case side2 => exact HC0.out); (case side3 => repeat (first | exact (by repeat (first | (with_reducible exact HR336_0.out) | (with_reducible refine Kd.C_alloc ?_ _) | (with_reducible refine Kd.C_drewN ?_ _) | (with_reducible refine Kd.C_drew ?_) | exact HR336_0.out)) | (with_reducible refine Kd.C_alloc ?_ _) | (with_reducible refine Kd.C_drewN ?_ _) | (with_reducible refine Kd.C_drew ?_))); (case side4 => exact HC336_0.out); (case side5 => repeat (first | exact (Kd.R_reads' HO339.out).2.2 | (with_reducible refine Kd.C_alloc ?_ _) | (with_reducible refine Kd.C_drewN ?_ _) | (with_reducible refine Kd.C_drew ?_))); (case side6 => exact (Kd.R_reads' HO339.out).2.1); rintro e w41 ⟨rfl, hb⟩; refine ⟨_, rfl, ?_⟩; have n0_ := Aside0.mk (Kd.N_below (by (with_reducible repeat (first | apply Kd.N_alloc | apply Kd.N_drewN | apply Kd.N_drew)); exact HO_13.out) hb); have n1_ := Aside0.mk (Kd.N_below (by (with_reducible repeat (first | apply Kd.N_alloc | apply Kd.N_drewN | apply Kd.N_drew)); exact HO_15.out) hb); have n2_ := Aside0.mk (Kd.N_below (by (with_reducible repeat (first | apply Kd.N_alloc | apply Kd.N_drewN | apply Kd.N_drew)); exact HO_51.out) hb); have n3_ := Aside0.mk (Kd.V_below (by (with_reducible repeat (first | apply Kd.V_alloc | apply Kd.V_drewN | apply Kd.V_drew)); exact HL336_0.out) hb); have n4_ := Aside0.mk (Kd.R_below (by (with_reducible repeat (first | apply Kd.R_alloc | apply Kd.R_drewN | apply Kd.R_drew)); exact HO339.out) hb); have n5_ := Aside0.mk (blk_below (g := gb313) (o := .cells #[.int .i64 a2_0, .bool a2_1, .int .i64 a2_2] 48 (0, 0)) (by (with_reducible repeat (first | refine blk_drewN ?_ _ | refine blk_drew ?_ | refine blk_alloc ?_ _)); exact BK313.out) hb); have n6_ := Aside0.mk (Kd.C_below (by repeat (first | (with_reducible exact HR336_0.out) | (with_reducible refine Kd.C_alloc ?_ _) | (with_reducible refine Kd.C_drewN ?_ _) | (with_reducible refine Kd.C_drew ?_) | exact HR336_0.out)) hb); have n7_ := Aside0.mk (below_step (by repeat (first | (with_reducible first | exact HB.out | apply below_alloc | apply pw_below_drewN | apply below_drew1 | refine below_set ?_ GE313.out) | exact HB.out)) hb); clear HO_13; clear HO_15; clear HO_51; clear HL336_0; clear HO339; clear BK313; clear HR336_0; clear HB; have HO_13 := n0_; have HO_15 := n1_; have HO_51 := n2_; have HL336_0 := n3_; have HO339 := n4_; have BK313 := n5_; have HR336_0 := n6_; have HB := n7_; clear n0_ n1_ n2_ n3_ n4_ n5_ n6_ n7_; (try clear hb); (try clear hb2); (try clear hk); (try clear hi)) | ((with_reducible refine gate_dst (N := 65) rfl ?_); refine Kd.N_lit (Kd.slice 4 Kd.bool) _ 23 ?hg (N' := 65) ?hd (xs := ([rd_L3 t328 x53_2] : List (List Bool))) (inner := [.slice A336_0 (rd_L3 t328 x53_2).length c336_0]) (ok := (fun k_ => some k_ ≠ (v334 : Value).ownBlock ∧ some k_ ≠ (u15 : Value).ownBlock ∧ some k_ ≠ (.slice (some ad336) t328.length co30 : Value).ownBlock ∧ some k_ ≠ (.slice Ao40 y337.length co40 : Value).ownBlock ∧ k_ ≠ gb313)) (okp := (fun k_ => some k_ ≠ (v334 : Value).ownBlock ∧ some k_ ≠ (u15 : Value).ownBlock ∧ some k_ ≠ (.slice (some ad336) t328.length co30 : Value).ownBlock ∧ some k_ ≠ (.slice Ao40 y337.length co40 : Value).ownBlock ∧ k_ ≠ gb313)) ?hr ?hp (fun _ hk => hk) ((show ∀ k_, w41.heap.size ≤ k_ → (fun k_ => some k_ ≠ (v334 : Value).ownBlock ∧ some k_ ≠ (u15 : Value).ownBlock ∧ some k_ ≠ (.slice (some ad336) t328.length co30 : Value).ownBlock ∧ some k_ ≠ (.slice Ao40 y337.length co40 : Value).ownBlock ∧ k_ ≠ gb313) k_ from fun k_ hk => ⟨Kd.fresh' (Kd.N_lt (by (with_reducible repeat (first | apply Kd.N_alloc | apply Kd.N_drewN | apply Kd.N_drew)); exact HO_13.out)) k_ hk, Kd.fresh' (Kd.N_lt (by (with_reducible repeat (first | apply Kd.N_alloc | apply Kd.N_drewN | apply Kd.N_drew)); exact HO_15.out)) k_ hk, Kd.fresh' (Kd.N_lt (by (with_reducible repeat (first | apply Kd.N_alloc | apply Kd.N_drewN | apply Kd.N_drew)); exact HO_51.out)) k_ hk, Kd.fresh' (Kd.R_lt (by (with_reducible repeat (first | apply Kd.R_alloc | apply Kd.R_drewN | apply Kd.R_drew)); exact HO339.out)) k_ hk, Kd.freshB (g := gb313) (o := .cells #[.int .i64 a2_0, .bool a2_1, .int .i64 a2_2] 48 (0, 0)) (by (with_reducible repeat (first | refine blk_drewN ?_ _ | refine blk_drew ?_ | refine blk_alloc ?_ _)); exact BK313.out) k_ hk⟩) _ (Nat.le_refl _)) (Below.refl _ _) (Nat.le_refl _) (by simp) ?_; (case hd => rfl); (case hg => rfl); (case hr => first | (go_simp; done) | (go_simp; rfl)); (case hp => exact (Reps.one (show Kd.FK (Kd.slice 4 Kd.bool) _ _ (rd_L3 t328 x53_2) [.slice A336_0 (rd_L3 t328 x53_2).length c336_0] from (Kd.FK_slice_mk (Kd.V_reads' (Kd.V_mono (ok' := (fun k_ => some k_ ≠ (v334 : Value).ownBlock ∧ some k_ ≠ (u15 : Value).ownBlock ∧ some k_ ≠ (.slice (some ad336) t328.length co30 : Value).ownBlock ∧ some k_ ≠ (.slice Ao40 y337.length co40 : Value).ownBlock ∧ k_ ≠ gb313)) (HL336_0.out) (fun k_ hk => ⟨hk.1.1.1, ⟨hk.1.1.2.1, ⟨hk.1.2, ⟨hk.2, hk.1.1.2.2⟩⟩⟩⟩))).2.1 (Kd.V_F (Kd.V_mono (ok' := (fun k_ => some k_ ≠ (v334 : Value).ownBlock ∧ some k_ ≠ (u15 : Value).ownBlock ∧ some k_ ≠ (.slice (some ad336) t328.length co30 : Value).ownBlock ∧ some k_ ≠ (.slice Ao40 y337.length co40 : Value).ownBlock ∧ k_ ≠ gb313)) (HL336_0.out) (fun k_ hk => ⟨hk.1.1.1, ⟨hk.1.1.2.1, ⟨hk.1.2, ⟨hk.2, hk.1.1.2.2⟩⟩⟩⟩))))) (Reps.none _ _))); intro v342 w42 ho43 hb hg_ hnew_; clear hg_ hnew_; (first | rw [← Ny341.out] at ho43 | (simp only [Int.reduceToNat] at ho43; rw [← Ny341.out] at ho43)); have n0_ := Aside0.mk (Kd.N_elder' (by (with_reducible repeat (first | apply Kd.N_alloc | apply Kd.N_drewN | apply Kd.N_drew)); exact HO_13.out) (Kd.N_base ho43) hb); have n1_ := Aside0.mk (Kd.N_elder' (by (with_reducible repeat (first | apply Kd.N_alloc | apply Kd.N_drewN | apply Kd.N_drew)); exact HO_15.out) (Kd.N_base ho43) hb); have n2_ := Aside0.mk (Kd.N_elder' (by (with_reducible repeat (first | apply Kd.N_alloc | apply Kd.N_drewN | apply Kd.N_drew)); exact HO_51.out) (Kd.N_base ho43) hb); have n3_ := Aside0.mk (Kd.V_elder' (by (with_reducible repeat (first | apply Kd.V_alloc | apply Kd.V_drewN | apply Kd.V_drew)); exact HL336_0.out) (Kd.N_base ho43) hb); have n4_ := Aside0.mk (Kd.R_below (by (with_reducible repeat (first | apply Kd.R_alloc | apply Kd.R_drewN | apply Kd.R_drew)); exact HO339.out) hb); have n5_ := Aside0.mk (Kd.N_lower ho43 (below_size (by repeat (first | (with_reducible first | exact HB.out | apply below_alloc | apply pw_below_drewN | apply below_drew1 | refine below_set ?_ GE313.out) | exact HB.out)))); have n6_ := Aside0.mk (blk_below (g := gb313) (o := .cells #[.int .i64 a2_0, .bool a2_1, .int .i64 a2_2] 48 (0, 0)) (by (with_reducible repeat (first | refine blk_drewN ?_ _ | refine blk_drew ?_ | refine blk_alloc ?_ _)); exact BK313.out) hb); have n7_ := Aside0.mk (Kd.C_below (by repeat (first | (with_reducible exact HR336_0.out) | (with_reducible refine Kd.C_alloc ?_ _) | (with_reducible refine Kd.C_drewN ?_ _) | (with_reducible refine Kd.C_drew ?_) | exact HR336_0.out)) hb); have n8_ := Aside0.mk (below_step (by repeat (first | (with_reducible first | exact HB.out | apply below_alloc | apply pw_below_drewN | apply below_drew1 | refine below_set ?_ GE313.out) | exact HB.out)) hb); clear HO_13; clear HO_15; clear HO_51; clear HL336_0; clear HO339; clear BK313; clear HR336_0; clear HB; have HO_13 := n0_; have HO_15 := n1_; have HO_51 := n2_; have HL336_0 := n3_; have HO339 := n4_; have HO343 := n5_; have BK313 := n6_; have HR336_0 := n7_; have HB := n8_; clear n0_ n1_ n2_ n3_ n4_ n5_ n6_ n7_ n8_; clear hb ho43; obtain ⟨Ao45, co45, eo45⟩ := Kd.N_slice HO343.out; subst eo45) | ((with_reducible refine gate_builtin (b := .append) (xs := #[.tmp 63, .tmp 65]) rfl ?_); at_builtin; refine Kd.N_append_rows (Kd.slice 4 Kd.bool) (w0 := w) w.heap.size rfl (.tmp 63) (.tmp 65) 32 23 (.slice none 0 0) 24 rfl Try.underlying32 info23 rfl (by decide) (by omega) u15 x15_2 y341 _ _ _ (fun k_ => some k_ ≠ (v334 : Value).ownBlock ∧ some k_ ≠ (.slice (some ad336) t328.length co30 : Value).ownBlock ∧ some k_ ≠ (.slice Ao40 y337.length co40 : Value).ownBlock ∧ k_ ≠ gb313) (fun k_ => ((fun k_ => some k_ ≠ (v334 : Value).ownBlock ∧ some k_ ≠ (.slice (some ad336) t328.length co30 : Value).ownBlock ∧ some k_ ≠ (.slice Ao40 y337.length co40 : Value).ownBlock ∧ k_ ≠ gb313)) k_ ∧ some k_ ≠ (u15 : Value).ownBlock) rfl rfl ?aO ?aR (fun _ hk => hk) ?aF ?aB ?aS ?aL ?_; (case aR => exact (by skip; exact Kd.N_F (Kd.N_mono (ok' := (fun k_ => ((fun k_ => some k_ ≠ (v334 : Value).ownBlock ∧ some k_ ≠ (.slice (some ad336) t328.length co30 : Value).ownBlock ∧ some k_ ≠ (.slice Ao40 y337.length co40 : Value).ownBlock ∧ k_ ≠ gb313)) k_ ∧ some k_ ≠ (u15 : Value).ownBlock)) (HO343.out) (fun k_ hk => ⟨⟨hk.1, ⟨hk.2.2.1, ⟨hk.2.2.2.1, hk.2.2.2.2⟩⟩⟩, hk.2.1⟩)))); (case aB => exact (by repeat (first | (with_reducible first | exact HB.out | apply below_alloc | apply pw_below_drewN | apply below_drew1 | refine below_set ?_ GE313.out) | exact HB.out))); (case aF => exact (fun k_ hk => ⟨Kd.fresh' (Kd.N_lt (by (with_reducible repeat (first | apply Kd.N_alloc | apply Kd.N_drewN | apply Kd.N_drew)); exact HO_13.out)) k_ hk, Kd.fresh' (Kd.N_lt (by (with_reducible repeat (first | apply Kd.N_alloc | apply Kd.N_drewN | apply Kd.N_drew)); exact HO_51.out)) k_ hk, Kd.fresh' (Kd.R_lt (by (with_reducible repeat (first | apply Kd.R_alloc | apply Kd.R_drewN | apply Kd.R_drew)); exact HO339.out)) k_ hk, Kd.freshB (g := gb313) (o := .cells #[.int .i64 a2_0, .bool a2_1, .int .i64 a2_2] 48 (0, 0)) (by (with_reducible repeat (first | refine blk_drewN ?_ _ | refine blk_drew ?_ | refine blk_alloc ?_ _)); exact BK313.out) k_ hk⟩)); (case aO => exact (by (with_reducible repeat (first | apply Kd.N_alloc | apply Kd.N_drewN | apply Kd.N_drew)); exact Kd.N_mono HO_15.out (fun _ hk => ⟨hk.1.1.1, ⟨hk.1.1.2.1, ⟨hk.1.2, hk.1.1.2.2⟩⟩⟩))); (case aS => exact (below_size (by repeat (first | (with_reducible first | exact HB.out | apply below_alloc | apply pw_below_drewN | apply below_drew1 | refine below_set ?_ GE313.out) | exact HB.out)))); (case aL => have := LMc36.out; omega); intro v345 w44 ho hb hg hat; rw [← Ny344.out] at ho; have n0_ := Aside0.mk (Kd.N_afterv (ok := (fun k_ => some k_ ≠ (.slice (some ad336) t328.length co30 : Value).ownBlock ∧ some k_ ≠ (.slice Ao40 y337.length co40 : Value).ownBlock ∧ some k_ ≠ (.slice Ao45 y341.length co45 : Value).ownBlock ∧ k_ ≠ gb313)) (by (with_reducible repeat (first | apply Kd.N_alloc | apply Kd.N_drewN | apply Kd.N_drew)); exact Kd.N_mono HO_13.out (fun _ hk => ⟨⟨hk.1.1.2.1, ⟨hk.1.2, ⟨hk.2, hk.1.1.2.2⟩⟩⟩, hk.1.1.1⟩)) hg hat); have n1_ := Aside0.mk (Kd.N_afterv (ok := (fun k_ => some k_ ≠ (v334 : Value).ownBlock ∧ some k_ ≠ (.slice Ao40 y337.length co40 : Value).ownBlock ∧ some k_ ≠ (.slice Ao45 y341.length co45 : Value).ownBlock ∧ k_ ≠ gb313)) (by (with_reducible repeat (first | apply Kd.N_alloc | apply Kd.N_drewN | apply Kd.N_drew)); exact Kd.N_mono HO_51.out (fun _ hk => ⟨⟨hk.1.1.1, ⟨hk.1.2, ⟨hk.2, hk.1.1.2.2⟩⟩⟩, hk.1.1.2.1⟩)) hg hat); have n2_ := Aside0.mk (blk_grown (g := gb313) (o := .cells #[.int .i64 a2_0, .bool a2_1, .int .i64 a2_2] 48 (0, 0)) (by (with_reducible repeat (first | refine blk_drewN ?_ _ | refine blk_drew ?_ | refine blk_alloc ?_ _)); exact BK313.out) hg (Kd.N_ne HO_15.out BK313.out (by decide))); have n3_ := Aside0.mk (Kd.V_afterv (ok := (fun k_ => some k_ ≠ (v334 : Value).ownBlock ∧ some k_ ≠ (.slice (some ad336) t328.length co30 : Value).ownBlock ∧ some k_ ≠ (.slice Ao40 y337.length co40 : Value).ownBlock ∧ some k_ ≠ (.slice Ao45 y341.length co45 : Value).ownBlock ∧ k_ ≠ gb313)) (by (with_reducible repeat (first | apply Kd.V_alloc | apply Kd.V_drewN | apply Kd.V_drew)); exact Kd.V_mono HL336_0.out (fun _ hk => ⟨⟨hk.1.1.1.1, ⟨hk.1.1.2, ⟨hk.1.2, ⟨hk.2, hk.1.1.1.2.2⟩⟩⟩⟩, hk.1.1.1.2.1⟩)) hg hat); have n4_ := Aside0.mk (Kd.R_over' (by (with_reducible repeat (first | apply Kd.R_alloc | apply Kd.R_drewN | apply Kd.R_drew)); exact HO339.out) (Kd.N_typed (by (with_reducible repeat (first | apply Kd.N_alloc | apply Kd.N_drewN | apply Kd.N_drew)); exact HO_15.out)) (by decide) hg); have n5_ := Aside0.mk (Kd.N_afterv (ok := (fun k_ => some k_ ≠ (v334 : Value).ownBlock ∧ some k_ ≠ (.slice (some ad336) t328.length co30 : Value).ownBlock ∧ some k_ ≠ (.slice Ao40 y337.length co40 : Value).ownBlock ∧ k_ ≠ gb313)) (by (with_reducible repeat (first | apply Kd.N_alloc | apply Kd.N_drewN | apply Kd.N_drew)); exact Kd.N_mono HO343.out (fun _ hk => ⟨⟨hk.1, ⟨hk.2.2.1, ⟨hk.2.2.2.1, hk.2.2.2.2⟩⟩⟩, hk.2.1⟩)) hg hat); have n6_ := Aside0.mk (hb); have n7_ := Aside0.mk (ho); clear HO_13; clear HO_51; clear BK313; clear HL336_0; clear HO339; clear HO343; clear HB; clear HO_15; have HO_13 := n0_; have HO_51 := n1_; have BK313 := n2_; have HL336_0 := n3_; have HO339 := n4_; have HO343 := n5_; have HB := n6_; have HO346 := n7_; clear n0_ n1_ n2_ n3_ n4_ n5_ n6_ n7_; clear ho hb hg hat))
              go_roundg k2
              case measure => have := HJ11.out; have := HK2.out; omega
              case rel => exact ⟨(y344), (wrap64 (x53_2 + 1)), (by first | rfl | (simp; done) | (simp [*]; done)), H', ⟨by have := HJ11.out; have := HK2.out; omega⟩, ⟨by (with_reducible repeat (first | apply Kd.N_alloc | apply Kd.N_drewN | apply Kd.N_drew)); exact Kd.N_mono HO_13.out (fun _ hk => ⟨hk.2, ⟨hk.1.1, hk.1.2.2.2⟩⟩)⟩, ⟨by (with_reducible repeat (first | apply Kd.N_alloc | apply Kd.N_drewN | apply Kd.N_drew)); exact Kd.N_mono HO346.out (fun _ hk => ⟨hk.1, ⟨hk.2.1, hk.2.2.2⟩⟩)⟩, ⟨by (with_reducible repeat (first | apply Kd.N_alloc | apply Kd.N_drewN | apply Kd.N_drew)); exact Kd.N_mono HO_51.out (fun _ hk => ⟨hk.1.1, ⟨hk.2, hk.1.2.2.2⟩⟩)⟩, ⟨by (with_reducible repeat (first | refine blk_drewN ?_ _ | refine blk_drew ?_ | refine blk_alloc ?_ _)); exact BK313.out⟩, ⟨by repeat (first | (with_reducible first | exact HB.out | apply below_alloc | apply pw_below_drewN | apply below_drew1 | refine below_set ?_ GE313.out) | exact HB.out)⟩⟩
             ·rw [if_neg c36] at H
              exact absurd H (by simp)
            ·replace c35 := Bool.eq_false_iff.mpr c35
             subst c35
             have H1 : (cohousinglaw36_CauseObserves.l0 k2 l0 a3 t314 t332 x15_2 t328 (t328.length : Int) (wrap64 (x53_2 + 1)) a2_0 a2_1 a2_2) = some r := by rw [if_neg (show ¬ (false = true) by decide)] at H; exact H
             clear H
             have H := H1
             clear H1
             have H' := Aside0.mk H
             clear H
             have p336 : 0 ≤ (x53_2 : Int) := of_decide_eq_true (by first | (with_reducible assumption) | assumption)
             have q336 : x53_2 < (t328.length : Int) := of_decide_eq_true (by first | (with_reducible assumption) | assumption)
             obtain ⟨ad336, A336_0, c336_0, e336, hx336_0, hl336_0, hi336_0⟩ := at_L3 (Kd.N_reads' HO_51.out).2.2 x53_2 p336 q336
             cases e336
             obtain ⟨ce336, hce336, hMe336, hcc336⟩ := Kd.N_get HO_51.out [] x53_2 p336 (by first | exact q336 | exact of_decide_eq_true (by first | (with_reducible assumption) | assumption) | (have e_ := (Kd.N_reads' HO_51.out).1; omega))
             obtain ⟨ua336_0, uc336_0, rfl, ul336_0, ge336_0⟩ := Kd.FK_slice_open hMe336
             have hv336_0 := hcc336 0 _ rfl
             rw [Nat.add_zero, show ((Kd.slice 4 Kd.bool)).sz = 1 from rfl, Nat.mul_one] at hv336_0
             replace hv336_0 := Option.some.inj (hv336_0.symm.trans hx336_0)
             injection hv336_0 with hva_ hvn_ hvc_
             rw [hva_] at ge336_0
             rw [hvc_] at ul336_0
             have HL336_0 := Aside0.mk (show Kd.V Kd.bool 4 _ w.heap.size _ _ (rd_L3 t328 x53_2) from Kd.V_mk ul336_0 ge336_0)
             clear hva_ hvn_ hvc_ ge336_0 ul336_0
             clear hcc336 hce336
             have HR336_0 := Aside0.mk hi336_0
             have HC336_0 := Aside0.mk hl336_0
             clear hi336_0 hl336_0
             replace p336 := eq_true p336
             replace q336 := eq_true q336
             have hcz46_0 : wr.cell? ⟨gb313, 0, none⟩ = some (.int .i64 a2_0) := (blk_cell BK313.out 0).trans rfl
             have hcz46_1 : wr.cell? ⟨gb313, 1, none⟩ = some (.bool a2_1) := (blk_cell BK313.out 1).trans rfl
             have hcz46_2 : wr.cell? ⟨gb313, 2, none⟩ = some (.int .i64 a2_2) := (blk_cell BK313.out 2).trans rfl
             have hfz46_0 := blk_frozen BK313.out 0
             have hfz46_1 := blk_frozen BK313.out 1
             have hfz46_2 := blk_frozen BK313.out 2
             go_wp2_with (first | ((with_reducible refine gate_dst (N := 60) rfl ?_); refine Kd.R_lit k48 _ 48 ?hg (N := 60) ?hd (xs := ([(⟨a2_0, a2_1, a2_2⟩ : S48)] : List (S48))) (inner := [.int .i64 a2_0, .bool a2_1, .int .i64 a2_2]) (ok := fun _ => True) (okp := fun _ => True) ?hr ?hp (fun _ hk => hk) trivial (Below.refl _ _) (Nat.le_refl _) (by simp) ?_; (case hd => rfl); (case hg => rfl); (case hr => first | (go_simp; done) | (go_simp; rfl)); (case hp => exact (Reps.c3 (show Kd.M k48 _ _ _ (⟨a2_0, a2_1, a2_2⟩ : S48) [.int .i64 a2_0, .bool a2_1, .int .i64 a2_2] from (k48_mkM _ _ _ (⟨a2_0, a2_1, a2_2⟩ : S48) )) (Reps.none _ _))); intro v338 w47 ho48 hb hg_ hnew_; clear hg_ hnew_; (first | rw [← Ny337.out] at ho48 | (simp only [Int.reduceToNat] at ho48; rw [← Ny337.out] at ho48)); have n0_ := Aside0.mk (Kd.N_elder' (by (with_reducible repeat (first | apply Kd.N_alloc | apply Kd.N_drewN | apply Kd.N_drew)); exact HO_13.out) (Kd.R_base ho48) hb); have n1_ := Aside0.mk (Kd.N_elder' (by (with_reducible repeat (first | apply Kd.N_alloc | apply Kd.N_drewN | apply Kd.N_drew)); exact HO_15.out) (Kd.R_base ho48) hb); have n2_ := Aside0.mk (Kd.N_elder' (by (with_reducible repeat (first | apply Kd.N_alloc | apply Kd.N_drewN | apply Kd.N_drew)); exact HO_51.out) (Kd.R_base ho48) hb); have n3_ := Aside0.mk (Kd.V_elder' (by (with_reducible repeat (first | apply Kd.V_alloc | apply Kd.V_drewN | apply Kd.V_drew)); exact HL336_0.out) (Kd.R_base ho48) hb); have n4_ := Aside0.mk (Kd.R_lower (Kd.R_newB ho48 (g := gb313) (o := .cells #[.int .i64 a2_0, .bool a2_1, .int .i64 a2_2] 48 (0, 0)) (by (with_reducible repeat (first | refine blk_drewN ?_ _ | refine blk_drew ?_ | refine blk_alloc ?_ _)); exact BK313.out)) (below_size (by repeat (first | (with_reducible first | exact HB.out | apply below_alloc | apply pw_below_drewN | apply below_drew1 | refine below_set ?_ GE313.out) | exact HB.out)))); have n5_ := Aside0.mk (blk_below (g := gb313) (o := .cells #[.int .i64 a2_0, .bool a2_1, .int .i64 a2_2] 48 (0, 0)) (by (with_reducible repeat (first | refine blk_drewN ?_ _ | refine blk_drew ?_ | refine blk_alloc ?_ _)); exact BK313.out) hb); have n6_ := Aside0.mk (Kd.C_below (by repeat (first | (with_reducible exact HR336_0.out) | (with_reducible refine Kd.C_alloc ?_ _) | (with_reducible refine Kd.C_drewN ?_ _) | (with_reducible refine Kd.C_drew ?_) | exact HR336_0.out)) hb); have n7_ := Aside0.mk (below_step (by repeat (first | (with_reducible first | exact HB.out | apply below_alloc | apply pw_below_drewN | apply below_drew1 | refine below_set ?_ GE313.out) | exact HB.out)) hb); clear HO_13; clear HO_15; clear HO_51; clear HL336_0; clear BK313; clear HR336_0; clear HB; have HO_13 := n0_; have HO_15 := n1_; have HO_51 := n2_; have HL336_0 := n3_; have HO339 := n4_; have BK313 := n5_; have HR336_0 := n6_; have HB := n7_; clear n0_ n1_ n2_ n3_ n4_ n5_ n6_ n7_; clear hb ho48; obtain ⟨Ao49, co49, eo49⟩ := Kd.R_slice HO339.out; subst eo49) | ((with_reducible refine gate_callee (f := 27) rfl ?_); refine goesL_ (some 62) rfl rfl Try.func27 (by kernel_rfl) rfl #[.slice A0 l0.length c0, .slice A336_0 (rd_L3 t328 x53_2).length c336_0, .slice Ao49 y337.length co49, .int .i64 a3] rfl (by (try simp only [List.map_toArray, List.map_cons, List.map_nil]); first | done | rfl | (simp only [List.length_drop, List.length_take]; rfl)) ?_; (with_reducible refine (cohousinglaw36_holds.calls k2 _ _ l0 _ _ (rd_L3 t328 x53_2) _ _ y337 a3 false _ ?side1 ?side2 ?side3 ?side4 ?side5 ?side6 A34.out).mono ?_); (case side1 => repeat (first | exact (Kd.C_below HR0.out HB.out) | (with_reducible refine Kd.C_alloc ?_ _) | (with_reducible refine Kd.C_drewN ?_ _) | (with_reducible refine Kd.C_drew ?_))); (case side2 => exact HC0.out); (case side3 => repeat (first | exact (by repeat (first | (with_reducible exact HR336_0.out) | (with_reducible refine Kd.C_alloc ?_ _) | (with_reducible refine Kd.C_drewN ?_ _) | (with_reducible refine Kd.C_drew ?_) | exact HR336_0.out)) | (with_reducible refine Kd.C_alloc ?_ _) | (with_reducible refine Kd.C_drewN ?_ _) | (with_reducible refine Kd.C_drew ?_))); (case side4 => exact HC336_0.out); (case side5 => repeat (first | exact (Kd.R_reads' HO339.out).2.2 | (with_reducible refine Kd.C_alloc ?_ _) | (with_reducible refine Kd.C_drewN ?_ _) | (with_reducible refine Kd.C_drew ?_))); (case side6 => exact (Kd.R_reads' HO339.out).2.1); rintro e w50 ⟨rfl, hb⟩; refine ⟨_, rfl, ?_⟩; have n0_ := Aside0.mk (Kd.N_below (by (with_reducible repeat (first | apply Kd.N_alloc | apply Kd.N_drewN | apply Kd.N_drew)); exact HO_13.out) hb); have n1_ := Aside0.mk (Kd.N_below (by (with_reducible repeat (first | apply Kd.N_alloc | apply Kd.N_drewN | apply Kd.N_drew)); exact HO_15.out) hb); have n2_ := Aside0.mk (Kd.N_below (by (with_reducible repeat (first | apply Kd.N_alloc | apply Kd.N_drewN | apply Kd.N_drew)); exact HO_51.out) hb); have n3_ := Aside0.mk (Kd.V_below (by (with_reducible repeat (first | apply Kd.V_alloc | apply Kd.V_drewN | apply Kd.V_drew)); exact HL336_0.out) hb); have n4_ := Aside0.mk (Kd.R_below (by (with_reducible repeat (first | apply Kd.R_alloc | apply Kd.R_drewN | apply Kd.R_drew)); exact HO339.out) hb); have n5_ := Aside0.mk (blk_below (g := gb313) (o := .cells #[.int .i64 a2_0, .bool a2_1, .int .i64 a2_2] 48 (0, 0)) (by (with_reducible repeat (first | refine blk_drewN ?_ _ | refine blk_drew ?_ | refine blk_alloc ?_ _)); exact BK313.out) hb); have n6_ := Aside0.mk (Kd.C_below (by repeat (first | (with_reducible exact HR336_0.out) | (with_reducible refine Kd.C_alloc ?_ _) | (with_reducible refine Kd.C_drewN ?_ _) | (with_reducible refine Kd.C_drew ?_) | exact HR336_0.out)) hb); have n7_ := Aside0.mk (below_step (by repeat (first | (with_reducible first | exact HB.out | apply below_alloc | apply pw_below_drewN | apply below_drew1 | refine below_set ?_ GE313.out) | exact HB.out)) hb); clear HO_13; clear HO_15; clear HO_51; clear HL336_0; clear HO339; clear BK313; clear HR336_0; clear HB; have HO_13 := n0_; have HO_15 := n1_; have HO_51 := n2_; have HL336_0 := n3_; have HO339 := n4_; have BK313 := n5_; have HR336_0 := n6_; have HB := n7_; clear n0_ n1_ n2_ n3_ n4_ n5_ n6_ n7_; (try clear hb); (try clear hb2); (try clear hk); (try clear hi)))
             go_roundg k2
             case measure => have := HJ11.out; have := HK2.out; omega
             case rel => exact ⟨(x15_2), (wrap64 (x53_2 + 1)), (by first | rfl | (simp; done) | (simp [*]; done)), H', ⟨by have := HJ11.out; have := HK2.out; omega⟩, ⟨by (with_reducible repeat (first | apply Kd.N_alloc | apply Kd.N_drewN | apply Kd.N_drew)); exact Kd.N_mono HO_13.out (fun _ hk => ⟨hk.1.1, ⟨hk.1.2.1, hk.1.2.2⟩⟩)⟩, ⟨by (with_reducible repeat (first | apply Kd.N_alloc | apply Kd.N_drewN | apply Kd.N_drew)); exact Kd.N_mono HO_15.out (fun _ hk => ⟨hk.1.1, ⟨hk.1.2.1, hk.1.2.2⟩⟩)⟩, ⟨by (with_reducible repeat (first | apply Kd.N_alloc | apply Kd.N_drewN | apply Kd.N_drew)); exact Kd.N_mono HO_51.out (fun _ hk => ⟨hk.1.1, ⟨hk.1.2.1, hk.1.2.2⟩⟩)⟩, ⟨by (with_reducible repeat (first | refine blk_drewN ?_ _ | refine blk_drew ?_ | refine blk_alloc ?_ _)); exact BK313.out⟩, ⟨by repeat (first | (with_reducible first | exact HB.out | apply below_alloc | apply pw_below_drewN | apply below_drew1 | refine below_set ?_ GE313.out) | exact HB.out)⟩⟩
           ·rw [if_neg c33] at H
            exact absurd H (by simp)
          ·rw [if_neg c32] at H
           exact absurd H (by simp)
         ·rw [if_neg c31] at H
          have c31b0 : decide (x53_2 < (t328.length : Int)) = false := decide_eq_false c31
          clear c31
          by_cases c51 : t314 = true
          ·subst c51
           have H1 : ((cohousingref36_SameStates.f k2 t332 x15_2).bind fun t347 => (some t347)) = some r := by rw [if_pos rfl] at H; exact H
           clear H
           have H := H1
           clear H1
           replace H := Option.bind_eq_some_iff.mp H
           obtain ⟨t347, A520, H⟩ := H
           replace H : (some t347) = some r := H
           have A52 := Aside0.mk A520
           clear A520
           obtain rfl := Option.some.inj H
           obtain ⟨Ao53, co53, eo53⟩ := Kd.N_slice HO_13.out
           subst eo53
           obtain ⟨Ao54, co54, eo54⟩ := Kd.N_slice HO_15.out
           subst eo54
           go_wp2_with (first | (go_at_call 20; (with_reducible refine (cohousingref36_SameStates.calls k2 _ _ t332 _ _ x15_2 t347 _ ?side1 ?side2 ?side3 ?side4 A52.out).mono ?_); (case side1 => repeat (first | exact (Kd.N_reads' HO_13.out).2.2 | (with_reducible refine Kd.C_alloc ?_ _) | (with_reducible refine Kd.C_drewN ?_ _) | (with_reducible refine Kd.C_drew ?_))); (case side2 => exact (Kd.N_reads' HO_13.out).2.1); (case side3 => repeat (first | exact (Kd.N_reads' HO_15.out).2.2 | (with_reducible refine Kd.C_alloc ?_ _) | (with_reducible refine Kd.C_drewN ?_ _) | (with_reducible refine Kd.C_drew ?_))); (case side4 => exact (Kd.N_reads' HO_15.out).2.1); rintro e w' ⟨rfl, ⟨nd, rfl⟩⟩))
           go_ret
           exact ⟨by first | rfl | (simp [errW_none, errW_some] <;> rfl) | (simp [*, errW_none, errW_some] <;> rfl), by repeat (first | (with_reducible first | exact HB.out | apply below_alloc | apply pw_below_drewN | apply below_drew1 | refine below_set ?_ GE313.out) | exact HB.out)⟩
          ·replace c51 := Bool.eq_false_iff.mpr c51
           subst c51
           have H1 : (some false) = some r := by rw [if_neg (show ¬ (false = true) by decide)] at H; exact H
           clear H
           have H := H1
           clear H1
           obtain rfl := Option.some.inj H
           go_wp2
           go_ret
           exact ⟨by first | rfl | (simp [errW_none, errW_some] <;> rfl) | (simp [*, errW_none, errW_some] <;> rfl), by repeat (first | (with_reducible first | exact HB.out | apply below_alloc | apply pw_below_drewN | apply below_drew1 | refine below_set ?_ GE313.out) | exact HB.out)⟩
   ·replace c9 := Bool.eq_false_iff.mpr c9
    subst c9
    have H1 : (some t314) = some r := by rw [if_neg (show ¬ (false = true) by decide)] at H; exact H
    clear H
    have H := H1
    clear H1
    obtain rfl := Option.some.inj H
    go_enter Try.func6, Try.ntmps6
    try go_wp2_with (first | ((with_reducible refine gate_dst (N := 6) rfl ?_); refine box_event ?hg (N := 6) ?hd (cs := #[.int .i64 a2_0, .bool a2_1, .int .i64 a2_2]) (t := 48) ?hr ?_; (case hd => rfl); (case hg => rfl); (case hr => first | (go_simp; done) | (go_simp; rfl)); intro gb313 hg w55 hbox hb; have n0_ := Aside0.mk (below_step (by repeat (first | (with_reducible first | exact HB.out | apply below_alloc | apply pw_below_drewN | apply below_drew1) | exact HB.out)) hb); have n1_ := Aside0.mk (hbox); have n2_ := Aside0.mk ((by rw [hg]; exact (below_size (by repeat (first | (with_reducible first | exact HB.out | apply below_alloc | apply pw_below_drewN | apply below_drew1) | exact HB.out))) : w.heap.size ≤ gb313)); have n3_ := Aside0.mk ((by rw [hg]; exact (below_size (by repeat (first | (with_reducible first | exact HB.out | apply below_alloc | apply pw_below_drewN | apply below_drew1) | exact HB.out))) : w.heap.size ≤ gb313)); clear HB; have HB := n0_; have BK313 := n1_; have GW313 := n2_; have GE313 := n3_; clear n0_ n1_ n2_ n3_; clear hb hbox hg) | ((with_reducible refine gate_callee (f := 11) rfl ?_); refine goesL_ (some 18) rfl rfl Try.func11 (by kernel_rfl) rfl #[] rfl (by (try simp only [List.map_toArray, List.map_cons, List.map_nil]); first | done | rfl | (simp only [List.length_drop, List.length_take]; rfl)) ?_; (with_reducible refine (cohousinglaw36_head.calls  t314 _ A5.out).mono ?_); rintro e w56 ⟨rfl, hb⟩; refine ⟨_, rfl, ?_⟩; have n0_ := Aside0.mk (blk_below (g := gb313) (o := .cells #[.int .i64 a2_0, .bool a2_1, .int .i64 a2_2] 48 (0, 0)) (by (with_reducible repeat (first | refine blk_drewN ?_ _ | refine blk_drew ?_ | refine blk_alloc ?_ _)); exact BK313.out) hb); have n1_ := Aside0.mk (below_step (by repeat (first | (with_reducible first | exact HB.out | apply below_alloc | apply pw_below_drewN | apply below_drew1 | refine below_set ?_ GE313.out) | exact HB.out)) hb); clear BK313; clear HB; have BK313 := n0_; have HB := n1_; clear n0_ n1_; (try clear hb); (try clear hb2); (try clear hk); (try clear hi)))
    have n0_ := Aside0.mk (blk_drew BK313.out)
    have n1_ := Aside0.mk (below_drew1 HB.out)
    clear BK313
    clear HB
    have BK313 := n0_
    have HB := n1_
    clear n0_ n1_
    refine start_ (n := 7) (S := fun w' => w'.cell? ⟨gb313, 0, none⟩ = some (.int .i64 a2_0) ∧ w'.cell? ⟨gb313, 1, none⟩ = some (.bool a2_1) ∧ w'.cell? ⟨gb313, 2, none⟩ = some (.int .i64 a2_2)) (ds := []) #[false, false, false, false, false, false, false] (by kernel_rfl) rfl rfl ⟨(blk_cell BK313.out 0).trans rfl, (blk_cell BK313.out 1).trans rfl, (blk_cell BK313.out 2).trans rfl⟩ (fun hHeld => ?_)
    generalize w56.drew = w57 at BK313 HB hHeld ⊢
    refine pure_ (i := 1) (N := some 20) (v := ?_) (a' := ?_) #[false, true, false, false, false, false, false] rfl rfl (by kernel_rfl) (fun _ _ _ h => h) (Or.inl ⟨by rfl, ?_⟩) ?_ ?_
    rotate_left
    ·intro w'
     go_simp
     with_reducible rfl
    rotate_left
    ·simp only [Act.put, List.setIfInBounds_toArray, List.set_cons_zero, List.set_cons_succ, i64_w, i32_w]
     rfl
    refine take_ (i := 3) (N := some 22) (v := ?_) (a' := ?_) #[false, true, false, true, false, false, false] rfl rfl (by kernel_rfl) (fun _ _ _ h => h) (Or.inl ⟨by rfl, ?_⟩) hHeld ?_ ?_
    rotate_left
    ·rintro w' ⟨s0, s1, s2⟩
     go_simp
     with_reducible rfl
    rotate_left
    ·simp only [Act.put, List.setIfInBounds_toArray, List.set_cons_zero, List.set_cons_succ, i64_w, i32_w]
     rfl
    refine join_ (σ := Value × Value × Value) 2 #[true, true, true, true, true, false, false] (fun s_ => [(19, s_.1), (21, s_.2.1), (23, s_.2.2)]) (fun s_ w' => (w'.cell? ⟨gb313, 0, none⟩ = some (.int .i64 a2_0) ∧ w'.cell? ⟨gb313, 1, none⟩ = some (.bool a2_1) ∧ w'.cell? ⟨gb313, 2, none⟩ = some (.int .i64 a2_2)) ∧ (Kd.R k48 48 w' w.heap.size (fun k_ => some k_ ≠ (s_.2.2 : Value).ownBlock ∧ k_ ≠ gb313) s_.2.1 y318) ∧ (Kd.R k48 48 w' w.heap.size (fun k_ => some k_ ≠ (s_.2.1 : Value).ownBlock ∧ k_ ≠ gb313) s_.2.2 y321) ∧ (w'.heap[gb313]? = some (.cells #[.int .i64 a2_0, .bool a2_1, .int .i64 a2_2] 48 (0, 0))) ∧ (Below w.heap.size w w')) ?_ ?_
    rotate_left
    ·intro hCont
     refine two_ (i := 0) (j := 4) (Ni := some 19) (Nj := some 23) #[true, true, false, true, false, false, false] #[false, true, false, true, true, false, false] rfl rfl rfl rfl (by kernel_rfl) (by decide) (by decide) (fun K hK => ?_) (fun K hK => ?_)
     ·skip
      refine Kd.R_lit_step k48 _ 48 ?hg (N := 19) ?hd (xs := ([] : List (S48))) (inner := []) (ok := fun _ => True) (okp := fun _ => True) ?hr ?hp (fun _ hk => hk) trivial (Below.refl _ _) (Nat.le_refl _) (by simp) ?_; (case hd => rfl); (case hg => rfl); (case hr => first | (go_simp; done) | (go_simp; rfl)); (case hp => exact (Reps.none _ _))
      intro v316 w58 ho59 hb hg_ hnew_
      clear hg_ hnew_
      (first | rw [← Ny315.out] at ho59 | (simp only [Int.reduceToNat] at ho59; rw [← Ny315.out] at ho59))
      have n0_ := Aside0.mk (Kd.R_lower (Kd.R_newB ho59 (g := gb313) (o := .cells #[.int .i64 a2_0, .bool a2_1, .int .i64 a2_2] 48 (0, 0)) (by (with_reducible repeat (first | refine blk_drewN ?_ _ | refine blk_drew ?_ | refine blk_alloc ?_ _)); exact BK313.out)) (below_size (by repeat (first | (with_reducible first | exact HB.out | apply below_alloc | apply pw_below_drewN | apply below_drew1 | refine below_set ?_ GE313.out) | exact HB.out))))
      have n1_ := Aside0.mk (blk_below (g := gb313) (o := .cells #[.int .i64 a2_0, .bool a2_1, .int .i64 a2_2] 48 (0, 0)) (by (with_reducible repeat (first | refine blk_drewN ?_ _ | refine blk_drew ?_ | refine blk_alloc ?_ _)); exact BK313.out) hb)
      have n2_ := Aside0.mk (below_step (by repeat (first | (with_reducible first | exact HB.out | apply below_alloc | apply pw_below_drewN | apply below_drew1 | refine below_set ?_ GE313.out) | exact HB.out)) hb)
      clear BK313
      clear HB
      have HO317 := n0_
      have BK313 := n1_
      have HB := n2_
      clear n0_ n1_ n2_
      clear hb ho59
      refine hK.out _ _ ⟨(blk_cell BK313.out 0).trans rfl, (blk_cell BK313.out 1).trans rfl, (blk_cell BK313.out 2).trans rfl⟩ (fun hHeld => ?_)
      clear hK K
      refine norm_ (a' := ?_) ?_ ?_
      rotate_left
      ·show Act.put _ (some 19) _ = _
       simp only [Act.put, List.setIfInBounds_toArray, List.set_cons_zero, List.set_cons_succ, i64_w, i32_w]
       rfl
      refine two_ (i := 2) (j := 4) (Ni := some 21) (Nj := some 23) #[true, true, true, true, false, false, false] #[true, true, false, true, true, false, false] rfl rfl rfl rfl (by kernel_rfl) (by decide) (by decide) (fun K hK => ?_) (fun K hK => ?_)
      ·skip
       refine Kd.R_append_rows_step k48 (w0 := w) w.heap.size (by rfl) (.tmp 19) (.tmp 20) 24 48 (.agg #[(.int .i64 0), (.bool false), (.int .i64 0)]) 24 rfl Try.underlying24 info48 rfl (by decide) (by omega) v316 y315 l1 _ _ _ (fun k_ => k_ ≠ gb313) (fun _ => False) rfl rfl ?aO ?aR (fun _ _ h => h) (fun _ h => h.elim) ?aF ?aB ?aS ?aL ?_
       (case aR => repeat (first | exact (Kd.C_below HR1.out HB.out) | (with_reducible refine Kd.C_alloc ?_ _) | (with_reducible refine Kd.C_drewN ?_ _) | (with_reducible refine Kd.C_drew ?_)))
       (case aB => exact (by repeat (first | (with_reducible first | exact HB.out | apply below_alloc | apply pw_below_drewN | apply below_drew1 | refine below_set ?_ GE313.out) | exact HB.out)))
       (case aF => exact (fun k_ hk => Kd.freshB (g := gb313) (o := .cells #[.int .i64 a2_0, .bool a2_1, .int .i64 a2_2] 48 (0, 0)) (by (with_reducible repeat (first | refine blk_drewN ?_ _ | refine blk_drew ?_ | refine blk_alloc ?_ _)); exact BK313.out) k_ hk))
       (case aO => exact (by (with_reducible repeat (first | apply Kd.R_alloc | apply Kd.R_drewN | apply Kd.R_drew)); exact Kd.R_mono HO317.out (fun _ hk => hk.2)))
       (case aS => exact (below_size (by repeat (first | (with_reducible first | exact HB.out | apply below_alloc | apply pw_below_drewN | apply below_drew1 | refine below_set ?_ GE313.out) | exact HB.out))))
       (case aL => have := LMc6.out; omega)
       intro v319 w60 ho hb hg hat
       rw [← Ny318.out] at ho
       have n0_ := Aside0.mk (blk_grown (g := gb313) (o := .cells #[.int .i64 a2_0, .bool a2_1, .int .i64 a2_2] 48 (0, 0)) (by (with_reducible repeat (first | refine blk_drewN ?_ _ | refine blk_drew ?_ | refine blk_alloc ?_ _)); exact BK313.out) hg (Kd.R_away HO317.out (fun _ hk => hk.2)))
       have n1_ := Aside0.mk (hb)
       have n2_ := Aside0.mk (ho)
       clear BK313
       clear HB
       clear HO317
       have BK313 := n0_
       have HB := n1_
       have HO320 := n2_
       clear n0_ n1_ n2_
       clear ho hb hg hat
       refine hK.out _ _ ⟨(blk_cell BK313.out 0).trans rfl, (blk_cell BK313.out 1).trans rfl, (blk_cell BK313.out 2).trans rfl⟩ (fun hHeld => ?_)
       clear hK K
       refine norm_ (a' := ?_) ?_ ?_
       rotate_left
       ·show Act.put _ (some 21) _ = _
        simp only [Act.put, List.setIfInBounds_toArray, List.set_cons_zero, List.set_cons_succ, i64_w, i32_w]
        rfl
       refine one_ (i := 4) (N := some 23) #[true, true, true, true, true, false, false] rfl rfl (by kernel_rfl) (by decide) (fun K hK => ?_)
       refine Kd.R_lit_step k48 _ 48 ?hg (N := 23) ?hd (xs := ([(⟨a2_0, a2_1, a2_2⟩ : S48)] : List (S48))) (inner := [.int .i64 a2_0, .bool a2_1, .int .i64 a2_2]) (ok := fun _ => True) (okp := fun _ => True) ?hr ?hp (fun _ hk => hk) trivial (Below.refl _ _) (Nat.le_refl _) (by simp) ?_; (case hd => rfl); (case hg => rfl); (case hr => first | (go_simp; done) | (go_simp; rfl)); (case hp => exact (Reps.c3 (show Kd.M k48 _ _ _ (⟨a2_0, a2_1, a2_2⟩ : S48) [.int .i64 a2_0, .bool a2_1, .int .i64 a2_2] from (k48_mkM _ _ _ (⟨a2_0, a2_1, a2_2⟩ : S48) )) (Reps.none _ _)))
       intro v322 w61 ho62 hb hg_ hnew_
       clear hg_ hnew_
       (first | rw [← Ny321.out] at ho62 | (simp only [Int.reduceToNat] at ho62; rw [← Ny321.out] at ho62))
       have n0_ := Aside0.mk (Kd.R_elder' (by (with_reducible repeat (first | apply Kd.R_alloc | apply Kd.R_drewN | apply Kd.R_drew)); exact HO320.out) (Kd.R_base ho62) hb)
       have n1_ := Aside0.mk (Kd.R_lower (Kd.R_newB (Kd.R_new' ho62 (Kd.R_lt (by (with_reducible repeat (first | apply Kd.R_alloc | apply Kd.R_drewN | apply Kd.R_drew)); exact HO320.out))) (g := gb313) (o := .cells #[.int .i64 a2_0, .bool a2_1, .int .i64 a2_2] 48 (0, 0)) (by (with_reducible repeat (first | refine blk_drewN ?_ _ | refine blk_drew ?_ | refine blk_alloc ?_ _)); exact BK313.out)) (below_size (by repeat (first | (with_reducible first | exact HB.out | apply below_alloc | apply pw_below_drewN | apply below_drew1 | refine below_set ?_ GE313.out) | exact HB.out))))
       have n2_ := Aside0.mk (blk_below (g := gb313) (o := .cells #[.int .i64 a2_0, .bool a2_1, .int .i64 a2_2] 48 (0, 0)) (by (with_reducible repeat (first | refine blk_drewN ?_ _ | refine blk_drew ?_ | refine blk_alloc ?_ _)); exact BK313.out) hb)
       have n3_ := Aside0.mk (below_step (by repeat (first | (with_reducible first | exact HB.out | apply below_alloc | apply pw_below_drewN | apply below_drew1 | refine below_set ?_ GE313.out) | exact HB.out)) hb)
       clear HO320
       clear BK313
       clear HB
       have HO320 := n0_
       have HO323 := n1_
       have BK313 := n2_
       have HB := n3_
       clear n0_ n1_ n2_ n3_
       clear hb ho62
       refine hK.out _ _ ⟨(blk_cell BK313.out 0).trans rfl, (blk_cell BK313.out 1).trans rfl, (blk_cell BK313.out 2).trans rfl⟩ (fun hHeld => ?_)
       clear hK K
       refine norm_ (a' := ?_) ?_ ?_
       rotate_left
       ·show Act.put _ (some 23) _ = _
        simp only [Act.put, List.setIfInBounds_toArray, List.set_cons_zero, List.set_cons_succ, i64_w, i32_w]
        rfl
       exact norm_ (by simp only [putAll, Act.put, List.setIfInBounds_toArray, List.set_cons_zero, List.set_cons_succ]) (hCont (v316, v319, v322) _ ⟨hHeld, (by (with_reducible repeat (first | apply Kd.R_alloc | apply Kd.R_drewN | apply Kd.R_drew)); exact Kd.R_mono HO320.out (fun _ hk => ⟨hk.2, hk.1⟩)), (by (with_reducible repeat (first | apply Kd.R_alloc | apply Kd.R_drewN | apply Kd.R_drew)); exact Kd.R_mono HO323.out (fun _ hk => ⟨hk.1.2, hk.2⟩)), (by (with_reducible repeat (first | refine blk_drewN ?_ _ | refine blk_drew ?_ | refine blk_alloc ?_ _)); exact BK313.out), (by repeat (first | (with_reducible first | exact HB.out | apply below_alloc | apply pw_below_drewN | apply below_drew1 | refine below_set ?_ GE313.out) | exact HB.out))⟩)
      ·skip
       refine Kd.R_lit_step k48 _ 48 ?hg (N := 23) ?hd (xs := ([(⟨a2_0, a2_1, a2_2⟩ : S48)] : List (S48))) (inner := [.int .i64 a2_0, .bool a2_1, .int .i64 a2_2]) (ok := fun _ => True) (okp := fun _ => True) ?hr ?hp (fun _ hk => hk) trivial (Below.refl _ _) (Nat.le_refl _) (by simp) ?_; (case hd => rfl); (case hg => rfl); (case hr => first | (go_simp; done) | (go_simp; rfl)); (case hp => exact (Reps.c3 (show Kd.M k48 _ _ _ (⟨a2_0, a2_1, a2_2⟩ : S48) [.int .i64 a2_0, .bool a2_1, .int .i64 a2_2] from (k48_mkM _ _ _ (⟨a2_0, a2_1, a2_2⟩ : S48) )) (Reps.none _ _)))
       intro v322 w60 ho61 hb hg_ hnew_
       clear hg_ hnew_
       (first | rw [← Ny321.out] at ho61 | (simp only [Int.reduceToNat] at ho61; rw [← Ny321.out] at ho61))
       have n0_ := Aside0.mk (Kd.R_elder' (by (with_reducible repeat (first | apply Kd.R_alloc | apply Kd.R_drewN | apply Kd.R_drew)); exact HO317.out) (Kd.R_base ho61) hb)
       have n1_ := Aside0.mk (Kd.R_lower (Kd.R_newB (Kd.R_new' ho61 (Kd.R_lt (by (with_reducible repeat (first | apply Kd.R_alloc | apply Kd.R_drewN | apply Kd.R_drew)); exact HO317.out))) (g := gb313) (o := .cells #[.int .i64 a2_0, .bool a2_1, .int .i64 a2_2] 48 (0, 0)) (by (with_reducible repeat (first | refine blk_drewN ?_ _ | refine blk_drew ?_ | refine blk_alloc ?_ _)); exact BK313.out)) (below_size (by repeat (first | (with_reducible first | exact HB.out | apply below_alloc | apply pw_below_drewN | apply below_drew1 | refine below_set ?_ GE313.out) | exact HB.out))))
       have n2_ := Aside0.mk (blk_below (g := gb313) (o := .cells #[.int .i64 a2_0, .bool a2_1, .int .i64 a2_2] 48 (0, 0)) (by (with_reducible repeat (first | refine blk_drewN ?_ _ | refine blk_drew ?_ | refine blk_alloc ?_ _)); exact BK313.out) hb)
       have n3_ := Aside0.mk (below_step (by repeat (first | (with_reducible first | exact HB.out | apply below_alloc | apply pw_below_drewN | apply below_drew1 | refine below_set ?_ GE313.out) | exact HB.out)) hb)
       clear HO317
       clear BK313
       clear HB
       have HO317 := n0_
       have HO323 := n1_
       have BK313 := n2_
       have HB := n3_
       clear n0_ n1_ n2_ n3_
       clear hb ho61
       refine hK.out _ _ ⟨(blk_cell BK313.out 0).trans rfl, (blk_cell BK313.out 1).trans rfl, (blk_cell BK313.out 2).trans rfl⟩ (fun hHeld => ?_)
       clear hK K
       refine norm_ (a' := ?_) ?_ ?_
       rotate_left
       ·show Act.put _ (some 23) _ = _
        simp only [Act.put, List.setIfInBounds_toArray, List.set_cons_zero, List.set_cons_succ, i64_w, i32_w]
        rfl
       refine one_ (i := 2) (N := some 21) #[true, true, true, true, true, false, false] rfl rfl (by kernel_rfl) (by decide) (fun K hK => ?_)
       refine Kd.R_append_rows_step k48 (w0 := w) w.heap.size (by rfl) (.tmp 19) (.tmp 20) 24 48 (.agg #[(.int .i64 0), (.bool false), (.int .i64 0)]) 24 rfl Try.underlying24 info48 rfl (by decide) (by omega) v316 y315 l1 _ _ _ (fun k_ => some k_ ≠ (v322 : Value).ownBlock ∧ k_ ≠ gb313) (fun _ => False) rfl rfl ?aO ?aR (fun _ _ h => h) (fun _ h => h.elim) ?aF ?aB ?aS ?aL ?_
       (case aR => repeat (first | exact (Kd.C_below HR1.out HB.out) | (with_reducible refine Kd.C_alloc ?_ _) | (with_reducible refine Kd.C_drewN ?_ _) | (with_reducible refine Kd.C_drew ?_)))
       (case aB => exact (by repeat (first | (with_reducible first | exact HB.out | apply below_alloc | apply pw_below_drewN | apply below_drew1 | refine below_set ?_ GE313.out) | exact HB.out)))
       (case aF => exact (fun k_ hk => ⟨Kd.fresh' (Kd.R_lt (by (with_reducible repeat (first | apply Kd.R_alloc | apply Kd.R_drewN | apply Kd.R_drew)); exact HO323.out)) k_ hk, Kd.freshB (g := gb313) (o := .cells #[.int .i64 a2_0, .bool a2_1, .int .i64 a2_2] 48 (0, 0)) (by (with_reducible repeat (first | refine blk_drewN ?_ _ | refine blk_drew ?_ | refine blk_alloc ?_ _)); exact BK313.out) k_ hk⟩))
       (case aO => exact (by (with_reducible repeat (first | apply Kd.R_alloc | apply Kd.R_drewN | apply Kd.R_drew)); exact Kd.R_mono HO317.out (fun _ hk => ⟨hk.2, hk.1.2⟩)))
       (case aS => exact (below_size (by repeat (first | (with_reducible first | exact HB.out | apply below_alloc | apply pw_below_drewN | apply below_drew1 | refine below_set ?_ GE313.out) | exact HB.out))))
       (case aL => have := LMc6.out; omega)
       intro v319 w62 ho hb hg hat
       rw [← Ny318.out] at ho
       have n0_ := Aside0.mk (blk_grown (g := gb313) (o := .cells #[.int .i64 a2_0, .bool a2_1, .int .i64 a2_2] 48 (0, 0)) (by (with_reducible repeat (first | refine blk_drewN ?_ _ | refine blk_drew ?_ | refine blk_alloc ?_ _)); exact BK313.out) hg (Kd.R_away HO317.out (fun _ hk => hk.1.2)))
       have n1_ := Aside0.mk (Kd.R_after (ok := (fun k_ => k_ ≠ gb313)) (by (with_reducible repeat (first | apply Kd.R_alloc | apply Kd.R_drewN | apply Kd.R_drew)); exact Kd.R_mono HO323.out (fun _ hk => ⟨hk.2, hk.1.2⟩)) hg hat)
       have n2_ := Aside0.mk (hb)
       have n3_ := Aside0.mk (ho)
       clear BK313
       clear HO323
       clear HB
       clear HO317
       have BK313 := n0_
       have HO323 := n1_
       have HB := n2_
       have HO320 := n3_
       clear n0_ n1_ n2_ n3_
       clear ho hb hg hat
       refine hK.out _ _ ⟨(blk_cell BK313.out 0).trans rfl, (blk_cell BK313.out 1).trans rfl, (blk_cell BK313.out 2).trans rfl⟩ (fun hHeld => ?_)
       clear hK K
       refine norm_ (a' := ?_) ?_ ?_
       rotate_left
       ·show Act.put _ (some 21) _ = _
        simp only [Act.put, List.setIfInBounds_toArray, List.set_cons_zero, List.set_cons_succ, i64_w, i32_w]
        rfl
       exact norm_ (by simp only [putAll, Act.put, List.setIfInBounds_toArray, List.set_cons_zero, List.set_cons_succ]) (hCont (v316, v319, v322) _ ⟨hHeld, (by (with_reducible repeat (first | apply Kd.R_alloc | apply Kd.R_drewN | apply Kd.R_drew)); exact HO320.out), (by (with_reducible repeat (first | apply Kd.R_alloc | apply Kd.R_drewN | apply Kd.R_drew)); exact Kd.R_mono HO323.out (fun _ hk => ⟨hk.2, hk.1⟩)), (by (with_reducible repeat (first | refine blk_drewN ?_ _ | refine blk_drew ?_ | refine blk_alloc ?_ _)); exact BK313.out), (by repeat (first | (with_reducible first | exact HB.out | apply below_alloc | apply pw_below_drewN | apply below_drew1 | refine below_set ?_ GE313.out) | exact HB.out))⟩)
     ·skip
      refine Kd.R_lit_step k48 _ 48 ?hg (N := 23) ?hd (xs := ([(⟨a2_0, a2_1, a2_2⟩ : S48)] : List (S48))) (inner := [.int .i64 a2_0, .bool a2_1, .int .i64 a2_2]) (ok := fun _ => True) (okp := fun _ => True) ?hr ?hp (fun _ hk => hk) trivial (Below.refl _ _) (Nat.le_refl _) (by simp) ?_; (case hd => rfl); (case hg => rfl); (case hr => first | (go_simp; done) | (go_simp; rfl)); (case hp => exact (Reps.c3 (show Kd.M k48 _ _ _ (⟨a2_0, a2_1, a2_2⟩ : S48) [.int .i64 a2_0, .bool a2_1, .int .i64 a2_2] from (k48_mkM _ _ _ (⟨a2_0, a2_1, a2_2⟩ : S48) )) (Reps.none _ _)))
      intro v322 w58 ho59 hb hg_ hnew_
      clear hg_ hnew_
      (first | rw [← Ny321.out] at ho59 | (simp only [Int.reduceToNat] at ho59; rw [← Ny321.out] at ho59))
      have n0_ := Aside0.mk (Kd.R_lower (Kd.R_newB ho59 (g := gb313) (o := .cells #[.int .i64 a2_0, .bool a2_1, .int .i64 a2_2] 48 (0, 0)) (by (with_reducible repeat (first | refine blk_drewN ?_ _ | refine blk_drew ?_ | refine blk_alloc ?_ _)); exact BK313.out)) (below_size (by repeat (first | (with_reducible first | exact HB.out | apply below_alloc | apply pw_below_drewN | apply below_drew1 | refine below_set ?_ GE313.out) | exact HB.out))))
      have n1_ := Aside0.mk (blk_below (g := gb313) (o := .cells #[.int .i64 a2_0, .bool a2_1, .int .i64 a2_2] 48 (0, 0)) (by (with_reducible repeat (first | refine blk_drewN ?_ _ | refine blk_drew ?_ | refine blk_alloc ?_ _)); exact BK313.out) hb)
      have n2_ := Aside0.mk (below_step (by repeat (first | (with_reducible first | exact HB.out | apply below_alloc | apply pw_below_drewN | apply below_drew1 | refine below_set ?_ GE313.out) | exact HB.out)) hb)
      clear BK313
      clear HB
      have HO323 := n0_
      have BK313 := n1_
      have HB := n2_
      clear n0_ n1_ n2_
      clear hb ho59
      refine hK.out _ _ ⟨(blk_cell BK313.out 0).trans rfl, (blk_cell BK313.out 1).trans rfl, (blk_cell BK313.out 2).trans rfl⟩ (fun hHeld => ?_)
      clear hK K
      refine norm_ (a' := ?_) ?_ ?_
      rotate_left
      ·show Act.put _ (some 23) _ = _
       simp only [Act.put, List.setIfInBounds_toArray, List.set_cons_zero, List.set_cons_succ, i64_w, i32_w]
       rfl
      refine one_ (i := 0) (N := some 19) #[true, true, false, true, true, false, false] rfl rfl (by kernel_rfl) (by decide) (fun K hK => ?_)
      refine Kd.R_lit_step k48 _ 48 ?hg (N := 19) ?hd (xs := ([] : List (S48))) (inner := []) (ok := fun _ => True) (okp := fun _ => True) ?hr ?hp (fun _ hk => hk) trivial (Below.refl _ _) (Nat.le_refl _) (by simp) ?_; (case hd => rfl); (case hg => rfl); (case hr => first | (go_simp; done) | (go_simp; rfl)); (case hp => exact (Reps.none _ _))
      intro v316 w60 ho61 hb hg_ hnew_
      clear hg_ hnew_
      (first | rw [← Ny315.out] at ho61 | (simp only [Int.reduceToNat] at ho61; rw [← Ny315.out] at ho61))
      have n0_ := Aside0.mk (Kd.R_elder' (by (with_reducible repeat (first | apply Kd.R_alloc | apply Kd.R_drewN | apply Kd.R_drew)); exact HO323.out) (Kd.R_base ho61) hb)
      have n1_ := Aside0.mk (Kd.R_lower (Kd.R_newB (Kd.R_new' ho61 (Kd.R_lt (by (with_reducible repeat (first | apply Kd.R_alloc | apply Kd.R_drewN | apply Kd.R_drew)); exact HO323.out))) (g := gb313) (o := .cells #[.int .i64 a2_0, .bool a2_1, .int .i64 a2_2] 48 (0, 0)) (by (with_reducible repeat (first | refine blk_drewN ?_ _ | refine blk_drew ?_ | refine blk_alloc ?_ _)); exact BK313.out)) (below_size (by repeat (first | (with_reducible first | exact HB.out | apply below_alloc | apply pw_below_drewN | apply below_drew1 | refine below_set ?_ GE313.out) | exact HB.out))))
      have n2_ := Aside0.mk (blk_below (g := gb313) (o := .cells #[.int .i64 a2_0, .bool a2_1, .int .i64 a2_2] 48 (0, 0)) (by (with_reducible repeat (first | refine blk_drewN ?_ _ | refine blk_drew ?_ | refine blk_alloc ?_ _)); exact BK313.out) hb)
      have n3_ := Aside0.mk (below_step (by repeat (first | (with_reducible first | exact HB.out | apply below_alloc | apply pw_below_drewN | apply below_drew1 | refine below_set ?_ GE313.out) | exact HB.out)) hb)
      clear HO323
      clear BK313
      clear HB
      have HO323 := n0_
      have HO317 := n1_
      have BK313 := n2_
      have HB := n3_
      clear n0_ n1_ n2_ n3_
      clear hb ho61
      refine hK.out _ _ ⟨(blk_cell BK313.out 0).trans rfl, (blk_cell BK313.out 1).trans rfl, (blk_cell BK313.out 2).trans rfl⟩ (fun hHeld => ?_)
      clear hK K
      refine norm_ (a' := ?_) ?_ ?_
      rotate_left
      ·show Act.put _ (some 19) _ = _
       simp only [Act.put, List.setIfInBounds_toArray, List.set_cons_zero, List.set_cons_succ, i64_w, i32_w]
       rfl
      refine one_ (i := 2) (N := some 21) #[true, true, true, true, true, false, false] rfl rfl (by kernel_rfl) (by decide) (fun K hK => ?_)
      refine Kd.R_append_rows_step k48 (w0 := w) w.heap.size (by rfl) (.tmp 19) (.tmp 20) 24 48 (.agg #[(.int .i64 0), (.bool false), (.int .i64 0)]) 24 rfl Try.underlying24 info48 rfl (by decide) (by omega) v316 y315 l1 _ _ _ (fun k_ => some k_ ≠ (v322 : Value).ownBlock ∧ k_ ≠ gb313) (fun _ => False) rfl rfl ?aO ?aR (fun _ _ h => h) (fun _ h => h.elim) ?aF ?aB ?aS ?aL ?_
      (case aR => repeat (first | exact (Kd.C_below HR1.out HB.out) | (with_reducible refine Kd.C_alloc ?_ _) | (with_reducible refine Kd.C_drewN ?_ _) | (with_reducible refine Kd.C_drew ?_)))
      (case aB => exact (by repeat (first | (with_reducible first | exact HB.out | apply below_alloc | apply pw_below_drewN | apply below_drew1 | refine below_set ?_ GE313.out) | exact HB.out)))
      (case aF => exact (fun k_ hk => ⟨Kd.fresh' (Kd.R_lt (by (with_reducible repeat (first | apply Kd.R_alloc | apply Kd.R_drewN | apply Kd.R_drew)); exact HO323.out)) k_ hk, Kd.freshB (g := gb313) (o := .cells #[.int .i64 a2_0, .bool a2_1, .int .i64 a2_2] 48 (0, 0)) (by (with_reducible repeat (first | refine blk_drewN ?_ _ | refine blk_drew ?_ | refine blk_alloc ?_ _)); exact BK313.out) k_ hk⟩))
      (case aO => exact (by (with_reducible repeat (first | apply Kd.R_alloc | apply Kd.R_drewN | apply Kd.R_drew)); exact Kd.R_mono HO317.out (fun _ hk => ⟨hk.1.2, hk.2⟩)))
      (case aS => exact (below_size (by repeat (first | (with_reducible first | exact HB.out | apply below_alloc | apply pw_below_drewN | apply below_drew1 | refine below_set ?_ GE313.out) | exact HB.out))))
      (case aL => have := LMc6.out; omega)
      intro v319 w62 ho hb hg hat
      rw [← Ny318.out] at ho
      have n0_ := Aside0.mk (blk_grown (g := gb313) (o := .cells #[.int .i64 a2_0, .bool a2_1, .int .i64 a2_2] 48 (0, 0)) (by (with_reducible repeat (first | refine blk_drewN ?_ _ | refine blk_drew ?_ | refine blk_alloc ?_ _)); exact BK313.out) hg (Kd.R_away HO317.out (fun _ hk => hk.2)))
      have n1_ := Aside0.mk (Kd.R_after (ok := (fun k_ => k_ ≠ gb313)) (by (with_reducible repeat (first | apply Kd.R_alloc | apply Kd.R_drewN | apply Kd.R_drew)); exact Kd.R_mono HO323.out (fun _ hk => ⟨hk.1.2, hk.2⟩)) hg hat)
      have n2_ := Aside0.mk (hb)
      have n3_ := Aside0.mk (ho)
      clear BK313
      clear HO323
      clear HB
      clear HO317
      have BK313 := n0_
      have HO323 := n1_
      have HB := n2_
      have HO320 := n3_
      clear n0_ n1_ n2_ n3_
      clear ho hb hg hat
      refine hK.out _ _ ⟨(blk_cell BK313.out 0).trans rfl, (blk_cell BK313.out 1).trans rfl, (blk_cell BK313.out 2).trans rfl⟩ (fun hHeld => ?_)
      clear hK K
      refine norm_ (a' := ?_) ?_ ?_
      rotate_left
      ·show Act.put _ (some 21) _ = _
       simp only [Act.put, List.setIfInBounds_toArray, List.set_cons_zero, List.set_cons_succ, i64_w, i32_w]
       rfl
      exact norm_ (by simp only [putAll, Act.put, List.setIfInBounds_toArray, List.set_cons_zero, List.set_cons_succ]) (hCont (v316, v319, v322) _ ⟨hHeld, (by (with_reducible repeat (first | apply Kd.R_alloc | apply Kd.R_drewN | apply Kd.R_drew)); exact HO320.out), (by (with_reducible repeat (first | apply Kd.R_alloc | apply Kd.R_drewN | apply Kd.R_drew)); exact Kd.R_mono HO323.out (fun _ hk => ⟨hk.2, hk.1⟩)), (by (with_reducible repeat (first | refine blk_drewN ?_ _ | refine blk_drew ?_ | refine blk_alloc ?_ _)); exact BK313.out), (by repeat (first | (with_reducible first | exact HB.out | apply below_alloc | apply pw_below_drewN | apply below_drew1 | refine below_set ?_ GE313.out) | exact HB.out))⟩)
    rintro ⟨v316, v319, v322⟩ w63 ⟨hS_, h0_, h1_, h2_, h3_⟩
    have n0_ : Aside0 (Kd.R k48 48 w63 w.heap.size (fun k_ => some k_ ≠ (v322 : Value).ownBlock ∧ k_ ≠ gb313) v319 y318) := ⟨h0_⟩
    have n1_ : Aside0 (Kd.R k48 48 w63 w.heap.size (fun k_ => some k_ ≠ (v319 : Value).ownBlock ∧ k_ ≠ gb313) v322 y321) := ⟨h1_⟩
    have n2_ : Aside0 (w63.heap[gb313]? = some (.cells #[.int .i64 a2_0, .bool a2_1, .int .i64 a2_2] 48 (0, 0))) := ⟨h2_⟩
    have n3_ : Aside0 (Below w.heap.size w w63) := ⟨h3_⟩
    clear BK313
    clear HB
    clear h0_ h1_ h2_ h3_
    have HO320 := n0_
    have HO323 := n1_
    have BK313 := n2_
    have HB := n3_
    clear n0_ n1_ n2_ n3_
    have hHeld : w63.cell? ⟨gb313, 0, none⟩ = some (.int .i64 a2_0) ∧ w63.cell? ⟨gb313, 1, none⟩ = some (.bool a2_1) ∧ w63.cell? ⟨gb313, 2, none⟩ = some (.int .i64 a2_2) := hS_
    obtain ⟨Ao65, co65, eo65⟩ := Kd.R_slice HO323.out
    (first | subst eo65 | (injection eo65 with f1_ f2_ f3_; have f4_ := f1_.symm; have f5_ := f3_.symm; clear f1_ f2_ f3_; subst f4_; subst f5_))
    refine norm_ (a' := ?_) ?_ ?_
    rotate_left
    ·simp only [putAll, Act.put, List.setIfInBounds_toArray, List.set_cons_zero, List.set_cons_succ]
     rfl
    refine one_ (i := 5) (N := some 24) #[true, true, true, true, true, true, false] rfl rfl (by kernel_rfl) (by decide) (fun K hK => ?_)
    refine Kd.R_append_rows_step k48 (w0 := w) w.heap.size (by rfl) (.tmp 21) (.tmp 23) 24 48 (.agg #[(.int .i64 0), (.bool false), (.int .i64 0)]) 24 rfl Try.underlying24 info48 rfl (by decide) (by omega) v319 y318 y321 _ _ _ (fun k_ => some k_ ≠ (.slice Ao65 y321.length co65 : Value).ownBlock ∧ k_ ≠ gb313) (fun _ => False) rfl rfl ?aO ?aR (fun _ _ h => h) (fun _ h => h.elim) ?aF ?aB ?aS ?aL ?_
    (case aR => repeat (first | exact (Kd.R_reads' HO323.out).2.2 | (with_reducible refine Kd.C_alloc ?_ _) | (with_reducible refine Kd.C_drewN ?_ _) | (with_reducible refine Kd.C_drew ?_)))
    (case aB => exact (by repeat (first | (with_reducible first | exact HB.out | apply below_alloc | apply pw_below_drewN | apply below_drew1 | refine below_set ?_ GE313.out) | exact HB.out)))
    (case aF => exact (fun k_ hk => ⟨Kd.fresh' (Kd.R_lt (by (with_reducible repeat (first | apply Kd.R_alloc | apply Kd.R_drewN | apply Kd.R_drew)); exact HO323.out)) k_ hk, Kd.freshB (g := gb313) (o := .cells #[.int .i64 a2_0, .bool a2_1, .int .i64 a2_2] 48 (0, 0)) (by (with_reducible repeat (first | refine blk_drewN ?_ _ | refine blk_drew ?_ | refine blk_alloc ?_ _)); exact BK313.out) k_ hk⟩))
    (case aO => exact (by (with_reducible repeat (first | apply Kd.R_alloc | apply Kd.R_drewN | apply Kd.R_drew)); exact HO320.out))
    (case aS => exact (below_size (by repeat (first | (with_reducible first | exact HB.out | apply below_alloc | apply pw_below_drewN | apply below_drew1 | refine below_set ?_ GE313.out) | exact HB.out))))
    (case aL => have := LMc7.out; omega)
    intro v325 w64 ho hb hg hat
    rw [← Ny324.out] at ho
    have n0_ := Aside0.mk (blk_grown (g := gb313) (o := .cells #[.int .i64 a2_0, .bool a2_1, .int .i64 a2_2] 48 (0, 0)) (by (with_reducible repeat (first | refine blk_drewN ?_ _ | refine blk_drew ?_ | refine blk_alloc ?_ _)); exact BK313.out) hg (Kd.R_away HO320.out (fun _ hk => hk.2)))
    have n1_ := Aside0.mk (Kd.R_after (ok := (fun k_ => k_ ≠ gb313)) (by (with_reducible repeat (first | apply Kd.R_alloc | apply Kd.R_drewN | apply Kd.R_drew)); exact Kd.R_mono HO323.out (fun _ hk => ⟨hk.2, hk.1⟩)) hg hat)
    have n2_ := Aside0.mk (hb)
    have n3_ := Aside0.mk (ho)
    clear BK313
    clear HO323
    clear HB
    clear HO320
    have BK313 := n0_
    have HO323 := n1_
    have HB := n2_
    have HO326 := n3_
    clear n0_ n1_ n2_ n3_
    clear ho hb hg hat
    refine hK.out _ _ ⟨(blk_cell BK313.out 0).trans rfl, (blk_cell BK313.out 1).trans rfl, (blk_cell BK313.out 2).trans rfl⟩ (fun hHeld => ?_)
    clear hK K
    refine norm_ (a' := ?_) ?_ ?_
    rotate_left
    ·show Act.put _ (some 24) _ = _
     simp only [Act.put, List.setIfInBounds_toArray, List.set_cons_zero, List.set_cons_succ, i64_w, i32_w]
     rfl
    refine pure_ (i := 6) (N := some 10) (v := ?_) (a' := ?_) #[true, true, true, true, true, true, true] rfl rfl (by kernel_rfl) (fun _ _ _ h => h) (Or.inl ⟨by rfl, ?_⟩) ?_ ?_
    rotate_left
    ·intro w'
     go_simp
     with_reducible rfl
    rotate_left
    ·simp only [Act.put, List.setIfInBounds_toArray, List.set_cons_zero, List.set_cons_succ, i64_w, i32_w]
     rfl
    refine done_ (by kernel_rfl) ?_
    obtain ⟨Ao66, co66, eo66⟩ := Kd.R_slice HO326.out
    subst eo66
    try go_wp2_with (first | ((with_reducible refine gate_callee (f := 24) rfl ?_); refine goesL_ (some 28) rfl rfl Try.func24 (by kernel_rfl) rfl #[.slice A0 l0.length c0, .slice Ao66 y324.length co66, .int .i64 a3] rfl (by (try simp only [List.map_toArray, List.map_cons, List.map_nil]); first | done | rfl | (simp only [List.length_drop, List.length_take]; rfl)) ?_; (with_reducible refine (cohousinglaw36_usable.calls k _ _ l0 _ _ y324 a3 false _ ?side1 ?side2 ?side3 ?side4 A8.out).mono ?_); (case side1 => repeat (first | exact (Kd.C_below HR0.out HB.out) | (with_reducible refine Kd.C_alloc ?_ _) | (with_reducible refine Kd.C_drewN ?_ _) | (with_reducible refine Kd.C_drew ?_))); (case side2 => exact HC0.out); (case side3 => repeat (first | exact (Kd.R_reads' HO326.out).2.2 | (with_reducible refine Kd.C_alloc ?_ _) | (with_reducible refine Kd.C_drewN ?_ _) | (with_reducible refine Kd.C_drew ?_))); (case side4 => exact (Kd.R_reads' HO326.out).2.1); rintro e w67 ⟨rfl, hb⟩; refine ⟨_, rfl, ?_⟩; have n0_ := Aside0.mk (Kd.R_below (by (with_reducible repeat (first | apply Kd.R_alloc | apply Kd.R_drewN | apply Kd.R_drew)); exact HO323.out) hb); have n1_ := Aside0.mk (Kd.R_below (by (with_reducible repeat (first | apply Kd.R_alloc | apply Kd.R_drewN | apply Kd.R_drew)); exact HO326.out) hb); have n2_ := Aside0.mk (blk_below (g := gb313) (o := .cells #[.int .i64 a2_0, .bool a2_1, .int .i64 a2_2] 48 (0, 0)) (by (with_reducible repeat (first | refine blk_drewN ?_ _ | refine blk_drew ?_ | refine blk_alloc ?_ _)); exact BK313.out) hb); have n3_ := Aside0.mk (below_step (by repeat (first | (with_reducible first | exact HB.out | apply below_alloc | apply pw_below_drewN | apply below_drew1 | refine below_set ?_ GE313.out) | exact HB.out)) hb); clear HO323; clear HO326; clear BK313; clear HB; have HO323 := n0_; have HO326 := n1_; have BK313 := n2_; have HB := n3_; clear n0_ n1_ n2_ n3_; (try clear hb); (try clear hb2); (try clear hk); (try clear hi)))
    go_ret
    exact ⟨by first | rfl | (simp [errW_none, errW_some] <;> rfl) | (simp [*, errW_none, errW_some] <;> rfl), by repeat (first | (with_reducible first | exact HB.out | apply below_alloc | apply pw_below_drewN | apply below_drew1 | refine below_set ?_ GE313.out) | exact HB.out)⟩
  ·rw [if_neg c7] at H
   exact absurd H (by simp)
 ·rw [if_neg c6] at H
  exact absurd H (by simp)

end Go.Proofs.Ytjdhnhfglpogmaa.P
