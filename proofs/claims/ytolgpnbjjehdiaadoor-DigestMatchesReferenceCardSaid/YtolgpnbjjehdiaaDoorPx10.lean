-- Written by a program of this session out of the translation (wip/pp: the kit's print, turned). Not trusted: Lean checks it.
import Derived.Test.YtolgpnbjjehdiaaDoorPx0
import Derived.Test.YtolgpnbjjehdiaaDoorPx1
import Derived.Test.YtolgpnbjjehdiaaDoorPx2
import Derived.Test.YtolgpnbjjehdiaaDoorPx3
import Derived.Test.YtolgpnbjjehdiaaDoorPx5
import Derived.Test.YtolgpnbjjehdiaaDoorPx6
import Derived.Test.YtolgpnbjjehdiaaDoorPx7
import Derived.Test.YtolgpnbjjehdiaaDoorPx8
import Derived.Test.YtolgpnbjjehdiaaDoorPx9
import Derived.Test.YtolgpnbjjehdiaaDoorXhead6
import Derived.Test.YtolgpnbjjehdiaaDoorXints
namespace Go.Proofs.YtolgpnbjjehdiaaDoor.P
open Go.RowKit Go.Proofs.YtolgpnbjjehdiaaDoorW.PrintWords Go.Proofs.YtolgpnbjjehdiaaDoorW.PrintLast Go.Proofs.YtolgpnbjjehdiaaDoorW.PrintMore
attribute [local go_sem] max2_int min2_int max_two min_two max_three min_three max_four min_four   -- for this text's walks alone
set_option linter.unusedVariables false
set_option linter.unusedSimpArgs false

/-! ### cohousinglaw06_DigestMatchesReference: function 3 -/
mutual
def cohousinglaw06_DigestMatchesReference.j0 : Nat → List Int → List Int → List Int → Int → Int → Int → Int → List Int → Bool → Bool → Option (Bool)
 | 0, _, _, _, _, _, _, _, _, _, _ => none
 | k + 1, x0, x1, x2, x3, x4, x5, x6, x7, x17, x42 => if x42 = true then (some x17) else (if x17 = true then ((digest_Sum.f k x0).bind fun t257 => ((cohousingref06_Sum.f k x0).bind fun t258 => (if t257 = t258 then ((digest_Ints.f x1).bind fun t259 => ((cohousingref06_Ints.f k x1).bind fun t260 => (cohousinglaw06_DigestMatchesReference.j1 k x2 x3 x4 x5 x6 x7 (t259 == t260)))) else (cohousinglaw06_DigestMatchesReference.j1 k x2 x3 x4 x5 x6 x7 false)))) else (cohousinglaw06_DigestMatchesReference.j1 k x2 x3 x4 x5 x6 x7 false))
def cohousinglaw06_DigestMatchesReference.j1 : Nat → List Int → Int → Int → Int → Int → List Int → Bool → Option (Bool)
 | 0, _, _, _, _, _, _, _ => none
 | k + 1, x2, x3, x4, x5, x6, x7, x17 => (digest_Root.f k x2).bind fun bt261 => ((cohousingref06_Root.f k x2).bind fun bt263 => (if x17 = true then (if bt261.1 = bt263.1 then (cohousinglaw06_DigestMatchesReference.j2 k x2 x3 x4 x5 x6 x7 (bt261.2 == bt263.2) bt263.1) else (cohousinglaw06_DigestMatchesReference.j2 k x2 x3 x4 x5 x6 x7 false bt263.1)) else (cohousinglaw06_DigestMatchesReference.j2 k x2 x3 x4 x5 x6 x7 false bt263.1)))
def cohousinglaw06_DigestMatchesReference.j2 : Nat → List Int → Int → Int → Int → Int → List Int → Bool → Int → Option (Bool)
 | 0, _, _, _, _, _, _, _, _ => none
 | k + 1, x2, x3, x4, x5, x6, x7, x17, x20 => (digest_Path.f k x2 x3).bind fun bt265 => ((cohousingref06_Path.f k x2 x3).bind fun bt269 => (if x17 = true then ((cohousingref06_Same.f k bt265.1 bt269.1).bind fun t273 => (if t273 = true then (cohousinglaw06_DigestMatchesReference.j3 k x2 x3 x4 x5 x6 x7 (bt265.2 == bt269.2) x20 bt269.1) else (cohousinglaw06_DigestMatchesReference.j3 k x2 x3 x4 x5 x6 x7 false x20 bt269.1))) else (cohousinglaw06_DigestMatchesReference.j3 k x2 x3 x4 x5 x6 x7 false x20 bt269.1)))
def cohousinglaw06_DigestMatchesReference.j3 : Nat → List Int → Int → Int → Int → Int → List Int → Bool → Int → List Int → Option (Bool)
 | 0, _, _, _, _, _, _, _, _, _ => none
 | k + 1, x2, x3, x4, x5, x6, x7, x17, x20, x23 => if x17 = true then ((digest_Check.f k x5 x6 x3 x4 x7).bind fun t274 => ((cohousingref06_Check.f k x5 x6 x3 x4 x7).bind fun t275 => (if (t274 == t275) = true then ((digest_Check.f k x20 x6 x3 (x2.length : Int) x23).bind fun t276 => ((cohousingref06_Check.f k x20 x6 x3 (x2.length : Int) x23).bind fun t277 => (some (t276 == t277)))) else (some false)))) else (some false)
end
def cohousinglaw06_DigestMatchesReference.f (k : Nat) (l0 : List Int) (l1 : List Int) (l2 : List Int) (a3 : Int) (a4 : Int) (a5 : Int) (a6 : Int) (l7 : List Int) : Option (Bool) := (cohousinglaw06_head.f).bind fun t256 => (if (l0.length : Int) > 300 then (cohousinglaw06_DigestMatchesReference.j0 k l0 l1 l2 a3 a4 a5 a6 l7 t256 true) else (if (l1.length : Int) > 300 then (cohousinglaw06_DigestMatchesReference.j0 k l0 l1 l2 a3 a4 a5 a6 l7 t256 true) else (if (l2.length : Int) > 1100 then (cohousinglaw06_DigestMatchesReference.j0 k l0 l1 l2 a3 a4 a5 a6 l7 t256 true) else (cohousinglaw06_DigestMatchesReference.j0 k l0 l1 l2 a3 a4 a5 a6 l7 t256 (decide ((l7.length : Int) > 20))))))
theorem cohousinglaw06_DigestMatchesReference.mono_l : ∀ k, (∀ y0 y1 y2 y3 y4 y5 y6 y7 y8 y9, LeO (cohousinglaw06_DigestMatchesReference.j0 k y0 y1 y2 y3 y4 y5 y6 y7 y8 y9) (cohousinglaw06_DigestMatchesReference.j0 (k + 1) y0 y1 y2 y3 y4 y5 y6 y7 y8 y9)) ∧ (∀ y0 y1 y2 y3 y4 y5 y6, LeO (cohousinglaw06_DigestMatchesReference.j1 k y0 y1 y2 y3 y4 y5 y6) (cohousinglaw06_DigestMatchesReference.j1 (k + 1) y0 y1 y2 y3 y4 y5 y6)) ∧ (∀ y0 y1 y2 y3 y4 y5 y6 y7, LeO (cohousinglaw06_DigestMatchesReference.j2 k y0 y1 y2 y3 y4 y5 y6 y7) (cohousinglaw06_DigestMatchesReference.j2 (k + 1) y0 y1 y2 y3 y4 y5 y6 y7)) ∧ (∀ y0 y1 y2 y3 y4 y5 y6 y7 y8, LeO (cohousinglaw06_DigestMatchesReference.j3 k y0 y1 y2 y3 y4 y5 y6 y7 y8) (cohousinglaw06_DigestMatchesReference.j3 (k + 1) y0 y1 y2 y3 y4 y5 y6 y7 y8))
 | 0 => ⟨fun _ _ _ _ _ _ _ _ _ _ r h => by simp [cohousinglaw06_DigestMatchesReference.j0] at h, fun _ _ _ _ _ _ _ r h => by simp [cohousinglaw06_DigestMatchesReference.j1] at h, fun _ _ _ _ _ _ _ _ r h => by simp [cohousinglaw06_DigestMatchesReference.j2] at h, fun _ _ _ _ _ _ _ _ _ r h => by simp [cohousinglaw06_DigestMatchesReference.j3] at h⟩
 | k + 1 => by
  obtain ⟨ih0, ih1, ih2, ih3⟩ := cohousinglaw06_DigestMatchesReference.mono_l k
  refine ⟨?_, ?_, ?_, ?_⟩
  ·intro y0 y1 y2 y3 y4 y5 y6 y7 y8 y9
   unfold cohousinglaw06_DigestMatchesReference.j0
   repeat' first
   | (with_reducible exact ih0 _ _ _ _ _ _ _ _ _ _)
   | (with_reducible exact ih1 _ _ _ _ _ _ _)
   | (with_reducible exact ih2 _ _ _ _ _ _ _ _)
   | (with_reducible exact ih3 _ _ _ _ _ _ _ _ _)
   | (with_reducible exact cohousingref06_Check.mono _ _ _ _ _ _)
   | (with_reducible exact cohousingref06_Ints.mono _ _)
   | (with_reducible exact cohousingref06_Path.mono _ _ _)
   | (with_reducible exact cohousingref06_Root.mono _ _)
   | (with_reducible exact cohousingref06_Same.mono _ _ _)
   | (with_reducible exact cohousingref06_Sum.mono _ _)
   | (with_reducible exact digest_Check.mono _ _ _ _ _ _)
   | (with_reducible exact digest_Path.mono _ _ _)
   | (with_reducible exact digest_Root.mono _ _)
   | (with_reducible exact digest_Sum.mono _ _)
   | (with_reducible exact LeO.refl _)
   | (with_reducible exact LeO.none _)
   | (with_reducible refine LeO.ite ?_ ?_)
   | (with_reducible refine LeO.bind ?_ (fun _ => ?_))
   | exact ih0 _ _ _ _ _ _ _ _ _ _
   | exact ih1 _ _ _ _ _ _ _
   | exact ih2 _ _ _ _ _ _ _ _
   | exact ih3 _ _ _ _ _ _ _ _ _
   | exact cohousingref06_Check.mono _ _ _ _ _ _
   | exact cohousingref06_Ints.mono _ _
   | exact cohousingref06_Path.mono _ _ _
   | exact cohousingref06_Root.mono _ _
   | exact cohousingref06_Same.mono _ _ _
   | exact cohousingref06_Sum.mono _ _
   | exact digest_Check.mono _ _ _ _ _ _
   | exact digest_Path.mono _ _ _
   | exact digest_Root.mono _ _
   | exact digest_Sum.mono _ _
   | exact LeO.none _
   | refine LeO.ite ?_ ?_
   | refine LeO.bind ?_ (fun _ => ?_)
  ·intro y0 y1 y2 y3 y4 y5 y6
   unfold cohousinglaw06_DigestMatchesReference.j1
   repeat' first
   | (with_reducible exact ih0 _ _ _ _ _ _ _ _ _ _)
   | (with_reducible exact ih1 _ _ _ _ _ _ _)
   | (with_reducible exact ih2 _ _ _ _ _ _ _ _)
   | (with_reducible exact ih3 _ _ _ _ _ _ _ _ _)
   | (with_reducible exact cohousingref06_Check.mono _ _ _ _ _ _)
   | (with_reducible exact cohousingref06_Ints.mono _ _)
   | (with_reducible exact cohousingref06_Path.mono _ _ _)
   | (with_reducible exact cohousingref06_Root.mono _ _)
   | (with_reducible exact cohousingref06_Same.mono _ _ _)
   | (with_reducible exact cohousingref06_Sum.mono _ _)
   | (with_reducible exact digest_Check.mono _ _ _ _ _ _)
   | (with_reducible exact digest_Path.mono _ _ _)
   | (with_reducible exact digest_Root.mono _ _)
   | (with_reducible exact digest_Sum.mono _ _)
   | (with_reducible exact LeO.refl _)
   | (with_reducible exact LeO.none _)
   | (with_reducible refine LeO.ite ?_ ?_)
   | (with_reducible refine LeO.bind ?_ (fun _ => ?_))
   | exact ih0 _ _ _ _ _ _ _ _ _ _
   | exact ih1 _ _ _ _ _ _ _
   | exact ih2 _ _ _ _ _ _ _ _
   | exact ih3 _ _ _ _ _ _ _ _ _
   | exact cohousingref06_Check.mono _ _ _ _ _ _
   | exact cohousingref06_Ints.mono _ _
   | exact cohousingref06_Path.mono _ _ _
   | exact cohousingref06_Root.mono _ _
   | exact cohousingref06_Same.mono _ _ _
   | exact cohousingref06_Sum.mono _ _
   | exact digest_Check.mono _ _ _ _ _ _
   | exact digest_Path.mono _ _ _
   | exact digest_Root.mono _ _
   | exact digest_Sum.mono _ _
   | exact LeO.none _
   | refine LeO.ite ?_ ?_
   | refine LeO.bind ?_ (fun _ => ?_)
  ·intro y0 y1 y2 y3 y4 y5 y6 y7
   unfold cohousinglaw06_DigestMatchesReference.j2
   repeat' first
   | (with_reducible exact ih0 _ _ _ _ _ _ _ _ _ _)
   | (with_reducible exact ih1 _ _ _ _ _ _ _)
   | (with_reducible exact ih2 _ _ _ _ _ _ _ _)
   | (with_reducible exact ih3 _ _ _ _ _ _ _ _ _)
   | (with_reducible exact cohousingref06_Check.mono _ _ _ _ _ _)
   | (with_reducible exact cohousingref06_Ints.mono _ _)
   | (with_reducible exact cohousingref06_Path.mono _ _ _)
   | (with_reducible exact cohousingref06_Root.mono _ _)
   | (with_reducible exact cohousingref06_Same.mono _ _ _)
   | (with_reducible exact cohousingref06_Sum.mono _ _)
   | (with_reducible exact digest_Check.mono _ _ _ _ _ _)
   | (with_reducible exact digest_Path.mono _ _ _)
   | (with_reducible exact digest_Root.mono _ _)
   | (with_reducible exact digest_Sum.mono _ _)
   | (with_reducible exact LeO.refl _)
   | (with_reducible exact LeO.none _)
   | (with_reducible refine LeO.ite ?_ ?_)
   | (with_reducible refine LeO.bind ?_ (fun _ => ?_))
   | exact ih0 _ _ _ _ _ _ _ _ _ _
   | exact ih1 _ _ _ _ _ _ _
   | exact ih2 _ _ _ _ _ _ _ _
   | exact ih3 _ _ _ _ _ _ _ _ _
   | exact cohousingref06_Check.mono _ _ _ _ _ _
   | exact cohousingref06_Ints.mono _ _
   | exact cohousingref06_Path.mono _ _ _
   | exact cohousingref06_Root.mono _ _
   | exact cohousingref06_Same.mono _ _ _
   | exact cohousingref06_Sum.mono _ _
   | exact digest_Check.mono _ _ _ _ _ _
   | exact digest_Path.mono _ _ _
   | exact digest_Root.mono _ _
   | exact digest_Sum.mono _ _
   | exact LeO.none _
   | refine LeO.ite ?_ ?_
   | refine LeO.bind ?_ (fun _ => ?_)
  ·intro y0 y1 y2 y3 y4 y5 y6 y7 y8
   unfold cohousinglaw06_DigestMatchesReference.j3
   repeat' first
   | (with_reducible exact ih0 _ _ _ _ _ _ _ _ _ _)
   | (with_reducible exact ih1 _ _ _ _ _ _ _)
   | (with_reducible exact ih2 _ _ _ _ _ _ _ _)
   | (with_reducible exact ih3 _ _ _ _ _ _ _ _ _)
   | (with_reducible exact cohousingref06_Check.mono _ _ _ _ _ _)
   | (with_reducible exact cohousingref06_Ints.mono _ _)
   | (with_reducible exact cohousingref06_Path.mono _ _ _)
   | (with_reducible exact cohousingref06_Root.mono _ _)
   | (with_reducible exact cohousingref06_Same.mono _ _ _)
   | (with_reducible exact cohousingref06_Sum.mono _ _)
   | (with_reducible exact digest_Check.mono _ _ _ _ _ _)
   | (with_reducible exact digest_Path.mono _ _ _)
   | (with_reducible exact digest_Root.mono _ _)
   | (with_reducible exact digest_Sum.mono _ _)
   | (with_reducible exact LeO.refl _)
   | (with_reducible exact LeO.none _)
   | (with_reducible refine LeO.ite ?_ ?_)
   | (with_reducible refine LeO.bind ?_ (fun _ => ?_))
   | exact ih0 _ _ _ _ _ _ _ _ _ _
   | exact ih1 _ _ _ _ _ _ _
   | exact ih2 _ _ _ _ _ _ _ _
   | exact ih3 _ _ _ _ _ _ _ _ _
   | exact cohousingref06_Check.mono _ _ _ _ _ _
   | exact cohousingref06_Ints.mono _ _
   | exact cohousingref06_Path.mono _ _ _
   | exact cohousingref06_Root.mono _ _
   | exact cohousingref06_Same.mono _ _ _
   | exact cohousingref06_Sum.mono _ _
   | exact digest_Check.mono _ _ _ _ _ _
   | exact digest_Path.mono _ _ _
   | exact digest_Root.mono _ _
   | exact digest_Sum.mono _ _
   | exact LeO.none _
   | refine LeO.ite ?_ ?_
   | refine LeO.bind ?_ (fun _ => ?_)
theorem cohousinglaw06_DigestMatchesReference.mono : ∀ a0 a1 a2 a3 a4 a5 a6 a7 k, LeO (cohousinglaw06_DigestMatchesReference.f k a0 a1 a2 a3 a4 a5 a6 a7) (cohousinglaw06_DigestMatchesReference.f (k + 1) a0 a1 a2 a3 a4 a5 a6 a7) := by
 intro a0 a1 a2 a3 a4 a5 a6 a7 k
 obtain ⟨ih0, ih1, ih2, ih3⟩ := cohousinglaw06_DigestMatchesReference.mono_l k
 unfold cohousinglaw06_DigestMatchesReference.f
 repeat' first
   | (with_reducible exact ih0 _ _ _ _ _ _ _ _ _ _)
   | (with_reducible exact ih1 _ _ _ _ _ _ _)
   | (with_reducible exact ih2 _ _ _ _ _ _ _ _)
   | (with_reducible exact ih3 _ _ _ _ _ _ _ _ _)
   | (with_reducible exact cohousingref06_Check.mono _ _ _ _ _ _)
   | (with_reducible exact cohousingref06_Ints.mono _ _)
   | (with_reducible exact cohousingref06_Path.mono _ _ _)
   | (with_reducible exact cohousingref06_Root.mono _ _)
   | (with_reducible exact cohousingref06_Same.mono _ _ _)
   | (with_reducible exact cohousingref06_Sum.mono _ _)
   | (with_reducible exact digest_Check.mono _ _ _ _ _ _)
   | (with_reducible exact digest_Path.mono _ _ _)
   | (with_reducible exact digest_Root.mono _ _)
   | (with_reducible exact digest_Sum.mono _ _)
   | (with_reducible exact LeO.refl _)
   | (with_reducible exact LeO.none _)
   | (with_reducible refine LeO.ite ?_ ?_)
   | (with_reducible refine LeO.bind ?_ (fun _ => ?_))
   | exact ih0 _ _ _ _ _ _ _ _ _ _
   | exact ih1 _ _ _ _ _ _ _
   | exact ih2 _ _ _ _ _ _ _ _
   | exact ih3 _ _ _ _ _ _ _ _ _
   | exact cohousingref06_Check.mono _ _ _ _ _ _
   | exact cohousingref06_Ints.mono _ _
   | exact cohousingref06_Path.mono _ _ _
   | exact cohousingref06_Root.mono _ _
   | exact cohousingref06_Same.mono _ _ _
   | exact cohousingref06_Sum.mono _ _
   | exact digest_Check.mono _ _ _ _ _ _
   | exact digest_Path.mono _ _ _
   | exact digest_Root.mono _ _
   | exact digest_Sum.mono _ _
   | exact LeO.none _
   | refine LeO.ite ?_ ?_
   | refine LeO.bind ?_ (fun _ => ?_)
set_option maxHeartbeats 8000000 in
set_option maxRecDepth 100000 in
theorem cohousinglaw06_DigestMatchesReference.calls (k : Nat) (A0 : Option Addr) (c0 : Nat) (l0 : List Int) (A1 : Option Addr) (c1 : Nat) (l1 : List Int) (A2 : Option Addr) (c2 : Nat) (l2 : List Int) (a3 : Int) (a4 : Int) (a5 : Int) (a6 : Int) (A7 : Option Addr) (c7 : Nat) (l7 : List Int) (r : Bool) (w : World) (hr0 : Kd.C (Kd.int .u8) w A0 l0.length l0) (hc0 : l0.length ≤ c0) (hr1 : Kd.C (Kd.int .i64) w A1 l1.length l1) (hc1 : l1.length ≤ c1) (hr2 : Kd.C (Kd.int .u64) w A2 l2.length l2) (hc2 : l2.length ≤ c2) (hr7 : Kd.C (Kd.int .u64) w A7 l7.length l7) (hc7 : l7.length ≤ c7) (hT : TabOk w) (h : cohousinglaw06_DigestMatchesReference.f k l0 l1 l2 a3 a4 a5 a6 l7 = some r) :
  Calls Tryd.prog 3 #[.slice A0 l0.length c0, .slice A1 l1.length c1, .slice A2 l2.length c2, .int .i64 a3, .int .i64 a4, .int .u64 a5, .int .u64 a6, .slice A7 l7.length c7] w fun e w' => e = .returned (.bool r) ∧ Below w.heap.size w w' := by
 have HR0 := Aside0.mk hr0
 have HC0 := Aside0.mk hc0
 clear hr0 hc0
 have HR1 := Aside0.mk hr1
 have HC1 := Aside0.mk hc1
 clear hr1 hc1
 have HR2 := Aside0.mk hr2
 have HC2 := Aside0.mk hc2
 clear hr2 hc2
 have HR7 := Aside0.mk hr7
 have HC7 := Aside0.mk hc7
 clear hr7 hc7
 have HT := Aside0.mk hT
 clear hT
 have HB := Aside0.mk (Below.refl w.heap.size w)
 have H : ((cohousinglaw06_head.f).bind fun t256 => (if (l0.length : Int) > 300 then (cohousinglaw06_DigestMatchesReference.j0 k l0 l1 l2 a3 a4 a5 a6 l7 t256 true) else (if (l1.length : Int) > 300 then (cohousinglaw06_DigestMatchesReference.j0 k l0 l1 l2 a3 a4 a5 a6 l7 t256 true) else (if (l2.length : Int) > 1100 then (cohousinglaw06_DigestMatchesReference.j0 k l0 l1 l2 a3 a4 a5 a6 l7 t256 true) else (cohousinglaw06_DigestMatchesReference.j0 k l0 l1 l2 a3 a4 a5 a6 l7 t256 (decide ((l7.length : Int) > 20))))))) = some r := h
 clear h
 replace H := Option.bind_eq_some_iff.mp H
 obtain ⟨t256, A90, H⟩ := H
 replace H : (if (l0.length : Int) > 300 then (cohousinglaw06_DigestMatchesReference.j0 k l0 l1 l2 a3 a4 a5 a6 l7 t256 true) else (if (l1.length : Int) > 300 then (cohousinglaw06_DigestMatchesReference.j0 k l0 l1 l2 a3 a4 a5 a6 l7 t256 true) else (if (l2.length : Int) > 1100 then (cohousinglaw06_DigestMatchesReference.j0 k l0 l1 l2 a3 a4 a5 a6 l7 t256 true) else (cohousinglaw06_DigestMatchesReference.j0 k l0 l1 l2 a3 a4 a5 a6 l7 t256 (decide ((l7.length : Int) > 20)))))) = some r := H
 have A9 := Aside0.mk A90
 clear A90
 have HC10 := Aside0.mk H
 clear H
 go_enter Tryd.func3, Tryd.ntmps3
 go_upto_region 2 with (first | ((with_reducible refine gate_callee (f := 10) rfl ?_); refine goesL_ (some 24) rfl rfl Tryd.func10 (by kernel_rfl) rfl #[] rfl (by (try simp only [List.map_toArray, List.map_cons, List.map_nil]); first | done | rfl | (simp only [List.length_drop, List.length_take]; rfl)) ?_; (with_reducible refine (cohousinglaw06_head.calls  t256 _ ?side1 A9.out).mono ?_); (case side1 => exact TabOk.below HT.out (by repeat (first | (with_reducible first | exact HB.out | apply below_alloc | apply pw_below_drewN | apply below_drew1) | exact HB.out))); rintro e w11 ⟨rfl, hb⟩; refine ⟨_, rfl, ?_⟩; have n0_ := Aside0.mk (below_step (by repeat (first | (with_reducible first | exact HB.out | apply below_alloc | apply pw_below_drewN | apply below_drew1) | exact HB.out)) hb); clear HB; have HB := n0_; clear n0_; (try clear hb); (try clear hb2); (try clear hk); (try clear hi)))
 (try simp only [Act.put, List.setIfInBounds_toArray, List.set_cons_zero, List.set_cons_succ])
 go_cut [42] (fun v42 wc => ∃ (kq : Nat) (x42_9 : Bool), v42 = .bool x42_9 ∧ Aside0 (cohousinglaw06_DigestMatchesReference.j0 kq l0 l1 l2 a3 a4 a5 a6 l7 t256 x42_9 = some r) ∧ Aside0 (kq ≤ k) ∧ Aside0 (Below w.heap.size w wc))
 case first =>
  have H := HC10.out
  clear HC10
  by_cases c12 : (l0.length : Int) > 300
  ·rw [if_pos c12] at H
   have c12b0 : decide (300 < (l0.length : Int)) = true := decide_eq_true c12
   have c12b1 : decide (300 < l0.length) = true := decide_eq_true (by omega)
   clear c12
   (first | rw [c12b0] | (simp only [i64_w, i32_w]; rw [c12b0]) | skip)
   have H' := Aside0.mk H
   clear H
   go_wp2
   go_meet
   case rel => exact ⟨_, (true), (by first | rfl | (simp; done) | (simp [*]; done)), H', ⟨by first | omega | exact Nat.le_refl _⟩, ⟨by repeat (first | (with_reducible first | exact HB.out | apply below_alloc | apply pw_below_drewN | apply below_drew1) | exact HB.out)⟩⟩
  ·rw [if_neg c12] at H
   have c12b0 : decide (300 < (l0.length : Int)) = false := decide_eq_false c12
   have c12b1 : decide (300 < l0.length) = false := decide_eq_false (by omega)
   clear c12
   (first | rw [c12b0] | (simp only [i64_w, i32_w]; rw [c12b0]) | skip)
   by_cases c13 : (l1.length : Int) > 300
   ·rw [if_pos c13] at H
    have c13b0 : decide (300 < (l1.length : Int)) = true := decide_eq_true c13
    have c13b1 : decide (300 < l1.length) = true := decide_eq_true (by omega)
    clear c13
    have H' := Aside0.mk H
    clear H
    go_wp2
    go_meet
    case rel => exact ⟨_, (true), (by first | rfl | (simp; done) | (simp [*]; done)), H', ⟨by first | omega | exact Nat.le_refl _⟩, ⟨by repeat (first | (with_reducible first | exact HB.out | apply below_alloc | apply pw_below_drewN | apply below_drew1) | exact HB.out)⟩⟩
   ·rw [if_neg c13] at H
    have c13b0 : decide (300 < (l1.length : Int)) = false := decide_eq_false c13
    have c13b1 : decide (300 < l1.length) = false := decide_eq_false (by omega)
    clear c13
    by_cases c14 : (l2.length : Int) > 1100
    ·rw [if_pos c14] at H
     have c14b0 : decide (1100 < (l2.length : Int)) = true := decide_eq_true c14
     have c14b1 : decide (1100 < l2.length) = true := decide_eq_true (by omega)
     clear c14
     have H' := Aside0.mk H
     clear H
     go_wp2
     go_meet
     case rel => exact ⟨_, (true), (by first | rfl | (simp; done) | (simp [*]; done)), H', ⟨by first | omega | exact Nat.le_refl _⟩, ⟨by repeat (first | (with_reducible first | exact HB.out | apply below_alloc | apply pw_below_drewN | apply below_drew1) | exact HB.out)⟩⟩
    ·rw [if_neg c14] at H
     have c14b0 : decide (1100 < (l2.length : Int)) = false := decide_eq_false c14
     have c14b1 : decide (1100 < l2.length) = false := decide_eq_false (by omega)
     clear c14
     have H' := Aside0.mk H
     clear H
     go_wp2
     go_meet
     case rel => exact ⟨_, (decide ((l7.length : Int) > 20)), (by first | rfl | (simp; done) | (simp [*]; done)), H', ⟨by first | omega | exact Nat.le_refl _⟩, ⟨by repeat (first | (with_reducible first | exact HB.out | apply below_alloc | apply pw_below_drewN | apply below_drew1) | exact HB.out)⟩⟩
 case rest =>
  clear HC10
  try clear c1
  try clear c2
  try clear p2
  try clear c3
  try clear c7
  try clear c10
  try clear c12
  try clear c12b0
  try clear c12b1
  try clear c13
  try clear c13b0
  try clear c13b1
  try clear c14
  try clear c14b0
  try clear c14b1
  obtain ⟨kq, x42_9, rfl, HA, HJ9, HB⟩ := hcut
  cases kq with
  | zero => exact absurd HA.out (by simp [cohousinglaw06_DigestMatchesReference.j0])
  | succ kj9 =>
   have H := HA.out
   clear HA
   simp only [cohousinglaw06_DigestMatchesReference.j0] at H
   by_cases c15 : x42_9 = true
   ·subst c15
    have H1 : (some t256) = some r := by rw [if_pos rfl] at H; exact H
    clear H
    have H := H1
    clear H1
    obtain rfl := Option.some.inj H
    go_wp2
    go_ret
    exact ⟨by first | rfl | (simp [errW_none, errW_some] <;> rfl) | (simp [*, errW_none, errW_some] <;> rfl), by repeat (first | (with_reducible first | exact HB.out | apply below_alloc | apply pw_below_drewN | apply below_drew1) | exact HB.out)⟩
   ·replace c15 := Bool.eq_false_iff.mpr c15
    subst c15
    have H1 : (if t256 = true then ((digest_Sum.f kj9 l0).bind fun t257 => ((cohousingref06_Sum.f kj9 l0).bind fun t258 => (if t257 = t258 then ((digest_Ints.f l1).bind fun t259 => ((cohousingref06_Ints.f kj9 l1).bind fun t260 => (cohousinglaw06_DigestMatchesReference.j1 kj9 l2 a3 a4 a5 a6 l7 (t259 == t260)))) else (cohousinglaw06_DigestMatchesReference.j1 kj9 l2 a3 a4 a5 a6 l7 false)))) else (cohousinglaw06_DigestMatchesReference.j1 kj9 l2 a3 a4 a5 a6 l7 false)) = some r := by rw [if_neg (show ¬ (false = true) by decide)] at H; exact H
    clear H
    have H := H1
    clear H1
    have HC16 := Aside0.mk H
    clear H
    go_upto_region 4 with (fail)
    go_cut [17] (fun v17 wc => ∃ (kq : Nat) (x17_15 : Bool), v17 = .bool x17_15 ∧ Aside0 (cohousinglaw06_DigestMatchesReference.j1 kq l2 a3 a4 a5 a6 l7 x17_15 = some r) ∧ Aside0 (kq ≤ kj9) ∧ Aside0 (Below w.heap.size w wc))
    case first =>
     have H := HC16.out
     clear HC16
     by_cases c17 : t256 = true
     ·subst c17
      have H1 : ((digest_Sum.f kj9 l0).bind fun t257 => ((cohousingref06_Sum.f kj9 l0).bind fun t258 => (if t257 = t258 then ((digest_Ints.f l1).bind fun t259 => ((cohousingref06_Ints.f kj9 l1).bind fun t260 => (cohousinglaw06_DigestMatchesReference.j1 kj9 l2 a3 a4 a5 a6 l7 (t259 == t260)))) else (cohousinglaw06_DigestMatchesReference.j1 kj9 l2 a3 a4 a5 a6 l7 false)))) = some r := by rw [if_pos rfl] at H; exact H
      clear H
      have H := H1
      clear H1
      replace H := Option.bind_eq_some_iff.mp H
      obtain ⟨t257, A180, H⟩ := H
      replace H : ((cohousingref06_Sum.f kj9 l0).bind fun t258 => (if t257 = t258 then ((digest_Ints.f l1).bind fun t259 => ((cohousingref06_Ints.f kj9 l1).bind fun t260 => (cohousinglaw06_DigestMatchesReference.j1 kj9 l2 a3 a4 a5 a6 l7 (t259 == t260)))) else (cohousinglaw06_DigestMatchesReference.j1 kj9 l2 a3 a4 a5 a6 l7 false))) = some r := H
      have A18 := Aside0.mk A180
      clear A180
      replace H := Option.bind_eq_some_iff.mp H
      obtain ⟨t258, A190, H⟩ := H
      replace H : (if t257 = t258 then ((digest_Ints.f l1).bind fun t259 => ((cohousingref06_Ints.f kj9 l1).bind fun t260 => (cohousinglaw06_DigestMatchesReference.j1 kj9 l2 a3 a4 a5 a6 l7 (t259 == t260)))) else (cohousinglaw06_DigestMatchesReference.j1 kj9 l2 a3 a4 a5 a6 l7 false)) = some r := H
      have A19 := Aside0.mk A190
      clear A190
      by_cases c20 : t257 = t258
      ·rw [if_pos c20] at H
       have c20b0 : (t257 == t258) = true := beq_iff_eq.mpr c20
       have c20b1 : (t257 != t258) = false := bne_eq_false_iff_eq.mpr c20
       clear c20
       (first | rw [c20b0] | (simp only [i64_w, i32_w]; rw [c20b0]) | skip)
       replace H := Option.bind_eq_some_iff.mp H
       obtain ⟨t259, A210, H⟩ := H
       replace H : ((cohousingref06_Ints.f kj9 l1).bind fun t260 => (cohousinglaw06_DigestMatchesReference.j1 kj9 l2 a3 a4 a5 a6 l7 (t259 == t260))) = some r := H
       have A21 := Aside0.mk A210
       clear A210
       replace H := Option.bind_eq_some_iff.mp H
       obtain ⟨t260, A220, H⟩ := H
       replace H : (cohousinglaw06_DigestMatchesReference.j1 kj9 l2 a3 a4 a5 a6 l7 (t259 == t260)) = some r := H
       have A22 := Aside0.mk A220
       clear A220
       have H' := Aside0.mk H
       clear H
       go_wp2_with (first | (go_at_call 11; (with_reducible refine (digest_Sum.calls kj9 _ _ l0 t257 _ ?side1 ?side2 A18.out).mono ?_); (case side1 => repeat (first | exact (Kd.C_below HR0.out HB.out) | (with_reducible refine Kd.C_alloc ?_ _) | (with_reducible refine Kd.C_drewN ?_ _) | (with_reducible refine Kd.C_drew ?_))); (case side2 => exact HC0.out); rintro e w' ⟨rfl, ⟨nd, rfl⟩⟩) | (go_at_call 12; (with_reducible refine (cohousingref06_Sum.calls kj9 _ _ l0 t258 _ ?side1 ?side2 A19.out).mono ?_); (case side1 => repeat (first | exact (Kd.C_below HR0.out (by repeat (first | (with_reducible first | exact HB.out | apply below_alloc | apply pw_below_drewN | apply below_drew1) | exact HB.out))) | (with_reducible refine Kd.C_alloc ?_ _) | (with_reducible refine Kd.C_drewN ?_ _) | (with_reducible refine Kd.C_drew ?_))); (case side2 => exact HC0.out); rintro e w' ⟨rfl, ⟨nd, rfl⟩⟩) | (go_at_call 13; (with_reducible refine (digest_Ints.calls _ _ l1 t259 _ ?side1 ?side2 ?side3 A21.out).mono ?_); (case side1 => repeat (first | exact (Kd.C_below HR1.out (by repeat (first | (with_reducible first | exact HB.out | apply below_alloc | apply pw_below_drewN | apply below_drew1) | exact HB.out))) | (with_reducible refine Kd.C_alloc ?_ _) | (with_reducible refine Kd.C_drewN ?_ _) | (with_reducible refine Kd.C_drew ?_))); (case side2 => exact HC1.out); (case side3 => exact TabOk.below HT.out (by repeat (first | (with_reducible first | exact HB.out | apply below_alloc | apply pw_below_drewN | apply below_drew1) | exact HB.out))); rintro e w23 ⟨rfl, hb⟩; have n0_ := Aside0.mk (below_step (by repeat (first | (with_reducible first | exact HB.out | apply below_alloc | apply pw_below_drewN | apply below_drew1) | exact HB.out)) hb); clear HB; have HB := n0_; clear n0_; (try clear hb); (try clear hb2); (try clear hk); (try clear hi)) | (go_at_call 14; (with_reducible refine (cohousingref06_Ints.calls kj9 _ _ l1 t260 _ ?side1 ?side2 A22.out).mono ?_); (case side1 => repeat (first | exact (Kd.C_below HR1.out HB.out) | (with_reducible refine Kd.C_alloc ?_ _) | (with_reducible refine Kd.C_drewN ?_ _) | (with_reducible refine Kd.C_drew ?_))); (case side2 => exact HC1.out); rintro e w24 ⟨rfl, hb⟩; have n0_ := Aside0.mk (below_step (by repeat (first | (with_reducible first | exact HB.out | apply below_alloc | apply pw_below_drewN | apply below_drew1) | exact HB.out)) hb); clear HB; have HB := n0_; clear n0_; (try clear hb); (try clear hb2); (try clear hk); (try clear hi)))
       go_meet
       case rel => exact ⟨_, ((t259 == t260)), (by first | rfl | (simp; done) | (simp [*]; done)), H', ⟨by have := HJ9.out; first | omega | exact Nat.le_refl _⟩, ⟨by repeat (first | (with_reducible first | exact HB.out | apply below_alloc | apply pw_below_drewN | apply below_drew1) | exact HB.out)⟩⟩
      ·rw [if_neg c20] at H
       have c20b0 : (t257 == t258) = false := beq_eq_false_iff_ne.mpr c20
       have c20b1 : (t257 != t258) = true := bne_iff_ne.mpr c20
       (first | rw [c20b0] | (simp only [i64_w, i32_w]; rw [c20b0]) | skip)
       have H' := Aside0.mk H
       clear H
       go_wp2_with (first | (go_at_call 11; (with_reducible refine (digest_Sum.calls kj9 _ _ l0 t257 _ ?side1 ?side2 A18.out).mono ?_); (case side1 => repeat (first | exact (Kd.C_below HR0.out HB.out) | (with_reducible refine Kd.C_alloc ?_ _) | (with_reducible refine Kd.C_drewN ?_ _) | (with_reducible refine Kd.C_drew ?_))); (case side2 => exact HC0.out); rintro e w' ⟨rfl, ⟨nd, rfl⟩⟩) | (go_at_call 12; (with_reducible refine (cohousingref06_Sum.calls kj9 _ _ l0 t258 _ ?side1 ?side2 A19.out).mono ?_); (case side1 => repeat (first | exact (Kd.C_below HR0.out (by repeat (first | (with_reducible first | exact HB.out | apply below_alloc | apply pw_below_drewN | apply below_drew1) | exact HB.out))) | (with_reducible refine Kd.C_alloc ?_ _) | (with_reducible refine Kd.C_drewN ?_ _) | (with_reducible refine Kd.C_drew ?_))); (case side2 => exact HC0.out); rintro e w' ⟨rfl, ⟨nd, rfl⟩⟩))
       go_meet
       case rel => exact ⟨_, (false), (by first | rfl | (simp; done) | (simp [*]; done)), H', ⟨by have := HJ9.out; first | omega | exact Nat.le_refl _⟩, ⟨by repeat (first | (with_reducible first | exact HB.out | apply below_alloc | apply pw_below_drewN | apply below_drew1) | exact HB.out)⟩⟩
     ·replace c17 := Bool.eq_false_iff.mpr c17
      subst c17
      have H1 : (cohousinglaw06_DigestMatchesReference.j1 kj9 l2 a3 a4 a5 a6 l7 false) = some r := by rw [if_neg (show ¬ (false = true) by decide)] at H; exact H
      clear H
      have H := H1
      clear H1
      have H' := Aside0.mk H
      clear H
      go_wp2
      go_meet
      case rel => exact ⟨_, (false), (by first | rfl | (simp; done) | (simp [*]; done)), H', ⟨by have := HJ9.out; first | omega | exact Nat.le_refl _⟩, ⟨by repeat (first | (with_reducible first | exact HB.out | apply below_alloc | apply pw_below_drewN | apply below_drew1) | exact HB.out)⟩⟩
    case rest =>
     clear HC16
     try clear c1
     try clear c2
     try clear p2
     try clear c3
     try clear c7
     try clear c10
     try clear c12
     try clear c12b0
     try clear c12b1
     try clear c13
     try clear c13b0
     try clear c13b1
     try clear c14
     try clear c14b0
     try clear c14b1
     try clear c15
     try clear c17
     try clear c20
     try clear c20b0
     try clear c20b1
     try clear p2
     obtain ⟨kq, x17_15, rfl, HA, HJ15, HB⟩ := hcut
     cases kq with
     | zero => exact absurd HA.out (by simp [cohousinglaw06_DigestMatchesReference.j1])
     | succ kj15 =>
      have H := HA.out
      clear HA
      simp only [cohousinglaw06_DigestMatchesReference.j1] at H
      replace H := Option.bind_eq_some_iff.mp H
      obtain ⟨⟨t261, t262⟩, A250, H⟩ := H
      replace H : ((cohousingref06_Root.f kj15 l2).bind fun bt263 => (if x17_15 = true then (if t261 = bt263.1 then (cohousinglaw06_DigestMatchesReference.j2 kj15 l2 a3 a4 a5 a6 l7 (t262 == bt263.2) bt263.1) else (cohousinglaw06_DigestMatchesReference.j2 kj15 l2 a3 a4 a5 a6 l7 false bt263.1)) else (cohousinglaw06_DigestMatchesReference.j2 kj15 l2 a3 a4 a5 a6 l7 false bt263.1))) = some r := H
      have A25 := Aside0.mk A250
      clear A250
      replace H := Option.bind_eq_some_iff.mp H
      obtain ⟨⟨t263, t264⟩, A260, H⟩ := H
      replace H : (if x17_15 = true then (if t261 = t263 then (cohousinglaw06_DigestMatchesReference.j2 kj15 l2 a3 a4 a5 a6 l7 (t262 == t264) t263) else (cohousinglaw06_DigestMatchesReference.j2 kj15 l2 a3 a4 a5 a6 l7 false t263)) else (cohousinglaw06_DigestMatchesReference.j2 kj15 l2 a3 a4 a5 a6 l7 false t263)) = some r := H
      have A26 := Aside0.mk A260
      clear A260
      have HC27 := Aside0.mk H
      clear H
      go_upto_region 7 with (first | ((with_reducible refine gate_callee (f := 15) rfl ?_); refine goesL_ (some 61) rfl rfl Tryd.func15 (by kernel_rfl) rfl #[.slice A2 l2.length c2] rfl (by (try simp only [List.map_toArray, List.map_cons, List.map_nil]); first | done | rfl | (simp only [List.length_drop, List.length_take]; rfl)) ?_; (with_reducible refine (digest_Root.calls kj15 _ _ l2 t261 t262 _ ?side1 ?side2 A25.out).mono ?_); (case side1 => repeat (first | exact (Kd.C_below HR2.out HB.out) | (with_reducible refine Kd.C_alloc ?_ _) | (with_reducible refine Kd.C_drewN ?_ _) | (with_reducible refine Kd.C_drew ?_))); (case side2 => exact HC2.out); rintro e w28 ⟨rfl, hb⟩; refine ⟨_, rfl, ?_⟩; have n0_ := Aside0.mk (below_step (by repeat (first | (with_reducible first | exact HB.out | apply below_alloc | apply pw_below_drewN | apply below_drew1) | exact HB.out)) hb); clear HB; have HB := n0_; clear n0_; (try clear hb); (try clear hb2); (try clear hk); (try clear hi)) | ((with_reducible refine gate_callee (f := 16) rfl ?_); refine goesL_ (some 66) rfl rfl Tryd.func16 (by kernel_rfl) rfl #[.slice A2 l2.length c2] rfl (by (try simp only [List.map_toArray, List.map_cons, List.map_nil]); first | done | rfl | (simp only [List.length_drop, List.length_take]; rfl)) ?_; (with_reducible refine (cohousingref06_Root.calls kj15 _ _ l2 t263 t264 _ ?side1 ?side2 A26.out).mono ?_); (case side1 => repeat (first | exact (Kd.C_below HR2.out HB.out) | (with_reducible refine Kd.C_alloc ?_ _) | (with_reducible refine Kd.C_drewN ?_ _) | (with_reducible refine Kd.C_drew ?_))); (case side2 => exact HC2.out); rintro e w29 ⟨rfl, hb⟩; refine ⟨_, rfl, ?_⟩; have n0_ := Aside0.mk (below_step (by repeat (first | (with_reducible first | exact HB.out | apply below_alloc | apply pw_below_drewN | apply below_drew1) | exact HB.out)) hb); clear HB; have HB := n0_; clear n0_; (try clear hb); (try clear hb2); (try clear hk); (try clear hi)))
      (try simp only [Act.put, List.setIfInBounds_toArray, List.set_cons_zero, List.set_cons_succ])
      go_cut [17] (fun v17 wc => ∃ (kq : Nat) (x17_26 : Bool), v17 = .bool x17_26 ∧ Aside0 (cohousinglaw06_DigestMatchesReference.j2 kq l2 a3 a4 a5 a6 l7 x17_26 t263 = some r) ∧ Aside0 (kq ≤ kj15) ∧ Aside0 (Below w.heap.size w wc))
      case first =>
       have H := HC27.out
       clear HC27
       by_cases c30 : x17_15 = true
       ·subst c30
        have H1 : (if t261 = t263 then (cohousinglaw06_DigestMatchesReference.j2 kj15 l2 a3 a4 a5 a6 l7 (t262 == t264) t263) else (cohousinglaw06_DigestMatchesReference.j2 kj15 l2 a3 a4 a5 a6 l7 false t263)) = some r := by rw [if_pos rfl] at H; exact H
        clear H
        have H := H1
        clear H1
        by_cases c31 : t261 = t263
        ·rw [if_pos c31] at H
         have c31b0 : (t261 == t263) = true := beq_iff_eq.mpr c31
         have c31b1 : (t261 != t263) = false := bne_eq_false_iff_eq.mpr c31
         clear c31
         (first | rw [c31b0] | (simp only [i64_w, i32_w]; rw [c31b0]) | skip)
         have H' := Aside0.mk H
         clear H
         go_wp2
         go_meet
         case rel => exact ⟨_, ((t262 == t264)), (by first | rfl | (simp; done) | (simp [*]; done)), H', ⟨by have := HJ9.out; have := HJ15.out; first | omega | exact Nat.le_refl _⟩, ⟨by repeat (first | (with_reducible first | exact HB.out | apply below_alloc | apply pw_below_drewN | apply below_drew1) | exact HB.out)⟩⟩
        ·rw [if_neg c31] at H
         have c31b0 : (t261 == t263) = false := beq_eq_false_iff_ne.mpr c31
         have c31b1 : (t261 != t263) = true := bne_iff_ne.mpr c31
         (first | rw [c31b0] | (simp only [i64_w, i32_w]; rw [c31b0]) | skip)
         have H' := Aside0.mk H
         clear H
         go_wp2
         go_meet
         case rel => exact ⟨_, (false), (by first | rfl | (simp; done) | (simp [*]; done)), H', ⟨by have := HJ9.out; have := HJ15.out; first | omega | exact Nat.le_refl _⟩, ⟨by repeat (first | (with_reducible first | exact HB.out | apply below_alloc | apply pw_below_drewN | apply below_drew1) | exact HB.out)⟩⟩
       ·replace c30 := Bool.eq_false_iff.mpr c30
        subst c30
        have H1 : (cohousinglaw06_DigestMatchesReference.j2 kj15 l2 a3 a4 a5 a6 l7 false t263) = some r := by rw [if_neg (show ¬ (false = true) by decide)] at H; exact H
        clear H
        have H := H1
        clear H1
        have H' := Aside0.mk H
        clear H
        go_wp2
        go_meet
        case rel => exact ⟨_, (false), (by first | rfl | (simp; done) | (simp [*]; done)), H', ⟨by have := HJ9.out; have := HJ15.out; first | omega | exact Nat.le_refl _⟩, ⟨by repeat (first | (with_reducible first | exact HB.out | apply below_alloc | apply pw_below_drewN | apply below_drew1) | exact HB.out)⟩⟩
      case rest =>
       clear HC27
       try clear c1
       try clear c2
       try clear p2
       try clear c3
       try clear c7
       try clear c10
       try clear c12
       try clear c12b0
       try clear c12b1
       try clear c13
       try clear c13b0
       try clear c13b1
       try clear c14
       try clear c14b0
       try clear c14b1
       try clear c15
       try clear c16
       try clear c17
       try clear c20
       try clear c20b0
       try clear c20b1
       try clear c30
       try clear c31
       try clear c31b0
       try clear c31b1
       try clear p2
       obtain ⟨kq, x17_26, rfl, HA, HJ26, HB⟩ := hcut
       cases kq with
       | zero => exact absurd HA.out (by simp [cohousinglaw06_DigestMatchesReference.j2])
       | succ kj26 =>
        have H := HA.out
        clear HA
        simp only [cohousinglaw06_DigestMatchesReference.j2] at H
        replace H := Option.bind_eq_some_iff.mp H
        obtain ⟨⟨t265, t266⟩, A320, H⟩ := H
        replace H : ((cohousingref06_Path.f kj26 l2 a3).bind fun bt269 => (if x17_26 = true then ((cohousingref06_Same.f kj26 t265 bt269.1).bind fun t273 => (if t273 = true then (cohousinglaw06_DigestMatchesReference.j3 kj26 l2 a3 a4 a5 a6 l7 (t266 == bt269.2) t263 bt269.1) else (cohousinglaw06_DigestMatchesReference.j3 kj26 l2 a3 a4 a5 a6 l7 false t263 bt269.1))) else (cohousinglaw06_DigestMatchesReference.j3 kj26 l2 a3 a4 a5 a6 l7 false t263 bt269.1))) = some r := H
        have A32 := Aside0.mk A320
        clear A320
        replace H := Option.bind_eq_some_iff.mp H
        obtain ⟨⟨t269, t270⟩, A330, H⟩ := H
        replace H : (if x17_26 = true then ((cohousingref06_Same.f kj26 t265 t269).bind fun t273 => (if t273 = true then (cohousinglaw06_DigestMatchesReference.j3 kj26 l2 a3 a4 a5 a6 l7 (t266 == t270) t263 t269) else (cohousinglaw06_DigestMatchesReference.j3 kj26 l2 a3 a4 a5 a6 l7 false t263 t269))) else (cohousinglaw06_DigestMatchesReference.j3 kj26 l2 a3 a4 a5 a6 l7 false t263 t269)) = some r := H
        have A33 := Aside0.mk A330
        clear A330
        have HC34 := Aside0.mk H
        clear H
        go_upto_region 10 with (first | ((with_reducible refine gate_callee (f := 17) rfl ?_); refine goesL_ (some 83) rfl rfl Tryd.func17 (by kernel_rfl) rfl #[.slice A2 l2.length c2, .int .i64 a3] rfl (by (try simp only [List.map_toArray, List.map_cons, List.map_nil]); first | done | rfl | (simp only [List.length_drop, List.length_take]; rfl)) ?_; (with_reducible refine (digest_Path.calls kj26 _ _ l2 a3 t265 t266 _ ?side1 ?side2 A32.out).mono ?_); (case side1 => repeat (first | exact (Kd.C_below HR2.out HB.out) | (with_reducible refine Kd.C_alloc ?_ _) | (with_reducible refine Kd.C_drewN ?_ _) | (with_reducible refine Kd.C_drew ?_))); (case side2 => exact HC2.out); rintro e w35 ⟨v267, rfl, ho0, hb⟩; refine ⟨_, rfl, ?_⟩; have n0_ := Aside0.mk (Kd.R_lower ho0 (below_size (by repeat (first | (with_reducible first | exact HB.out | apply below_alloc | apply pw_below_drewN | apply below_drew1) | exact HB.out)))); have n1_ := Aside0.mk (below_step (by repeat (first | (with_reducible first | exact HB.out | apply below_alloc | apply pw_below_drewN | apply below_drew1) | exact HB.out)) hb); clear HB; have HO268 := n0_; have HB := n1_; clear n0_ n1_; (try clear hb); (try clear hb2); (try clear hk); (try clear hi); (try clear ho0)) | ((with_reducible refine gate_callee (f := 18) rfl ?_); refine goesL_ (some 89) rfl rfl Tryd.func18 (by kernel_rfl) rfl #[.slice A2 l2.length c2, .int .i64 a3] rfl (by (try simp only [List.map_toArray, List.map_cons, List.map_nil]); first | done | rfl | (simp only [List.length_drop, List.length_take]; rfl)) ?_; (with_reducible refine (cohousingref06_Path.calls kj26 _ _ l2 a3 t269 t270 _ ?side1 ?side2 A33.out).mono ?_); (case side1 => repeat (first | exact (Kd.C_below HR2.out HB.out) | (with_reducible refine Kd.C_alloc ?_ _) | (with_reducible refine Kd.C_drewN ?_ _) | (with_reducible refine Kd.C_drew ?_))); (case side2 => exact HC2.out); rintro e w36 ⟨v271, rfl, ho0, hb⟩; refine ⟨_, rfl, ?_⟩; have n0_ := Aside0.mk (Kd.R_elder' (by (with_reducible repeat (first | apply Kd.R_alloc | apply Kd.R_drewN | apply Kd.R_drew)); exact HO268.out) (Kd.R_base ho0) hb); have n1_ := Aside0.mk (Kd.R_lower (Kd.R_new' ho0 (Kd.R_lt (by (with_reducible repeat (first | apply Kd.R_alloc | apply Kd.R_drewN | apply Kd.R_drew)); exact HO268.out))) (below_size (by repeat (first | (with_reducible first | exact HB.out | apply below_alloc | apply pw_below_drewN | apply below_drew1) | exact HB.out)))); have n2_ := Aside0.mk (below_step (by repeat (first | (with_reducible first | exact HB.out | apply below_alloc | apply pw_below_drewN | apply below_drew1) | exact HB.out)) hb); clear HO268; clear HB; have HO268 := n0_; have HO272 := n1_; have HB := n2_; clear n0_ n1_ n2_; (try clear hb); (try clear hb2); (try clear hk); (try clear hi); (try clear ho0)))
        (try simp only [Act.put, List.setIfInBounds_toArray, List.set_cons_zero, List.set_cons_succ])
        go_cut [17] (fun v17 wc => ∃ (kq : Nat) (x17_33 : Bool), v17 = .bool x17_33 ∧ Aside0 (cohousinglaw06_DigestMatchesReference.j3 kq l2 a3 a4 a5 a6 l7 x17_33 t263 t269 = some r) ∧ Aside0 (kq ≤ kj26) ∧ Aside0 (Kd.R (Kd.int .u64) 25 wc w.heap.size (fun _ => True) v271 t269) ∧ Aside0 (Below w.heap.size w wc))
        case first =>
         have H := HC34.out
         clear HC34
         by_cases c37 : x17_26 = true
         ·subst c37
          have H1 : ((cohousingref06_Same.f kj26 t265 t269).bind fun t273 => (if t273 = true then (cohousinglaw06_DigestMatchesReference.j3 kj26 l2 a3 a4 a5 a6 l7 (t266 == t270) t263 t269) else (cohousinglaw06_DigestMatchesReference.j3 kj26 l2 a3 a4 a5 a6 l7 false t263 t269))) = some r := by rw [if_pos rfl] at H; exact H
          clear H
          have H := H1
          clear H1
          replace H := Option.bind_eq_some_iff.mp H
          obtain ⟨t273, A380, H⟩ := H
          replace H : (if t273 = true then (cohousinglaw06_DigestMatchesReference.j3 kj26 l2 a3 a4 a5 a6 l7 (t266 == t270) t263 t269) else (cohousinglaw06_DigestMatchesReference.j3 kj26 l2 a3 a4 a5 a6 l7 false t263 t269)) = some r := H
          have A38 := Aside0.mk A380
          clear A380
          by_cases c39 : t273 = true
          ·subst c39
           have H1 : (cohousinglaw06_DigestMatchesReference.j3 kj26 l2 a3 a4 a5 a6 l7 (t266 == t270) t263 t269) = some r := by rw [if_pos rfl] at H; exact H
           clear H
           have H := H1
           clear H1
           have H' := Aside0.mk H
           clear H
           obtain ⟨Ao40, co40, eo40⟩ := Kd.R_slice HO268.out
           subst eo40
           obtain ⟨Ao41, co41, eo41⟩ := Kd.R_slice HO272.out
           subst eo41
           go_wp2_with (first | (go_at_call 19; (with_reducible refine (cohousingref06_Same.calls kj26 _ _ t265 _ _ t269 true _ ?side1 ?side2 ?side3 ?side4 A38.out).mono ?_); (case side1 => repeat (first | exact (Kd.R_reads' HO268.out).2.2 | (with_reducible refine Kd.C_alloc ?_ _) | (with_reducible refine Kd.C_drewN ?_ _) | (with_reducible refine Kd.C_drew ?_))); (case side2 => exact (Kd.R_reads' HO268.out).2.1); (case side3 => repeat (first | exact (Kd.R_reads' HO272.out).2.2 | (with_reducible refine Kd.C_alloc ?_ _) | (with_reducible refine Kd.C_drewN ?_ _) | (with_reducible refine Kd.C_drew ?_))); (case side4 => exact (Kd.R_reads' HO272.out).2.1); rintro e w' ⟨rfl, ⟨nd, rfl⟩⟩))
           go_meet
           case rel => exact ⟨_, ((t266 == t270)), (by first | rfl | (simp; done) | (simp [*]; done)), H', ⟨by have := HJ9.out; have := HJ15.out; have := HJ26.out; first | omega | exact Nat.le_refl _⟩, ⟨by (with_reducible repeat (first | apply Kd.R_alloc | apply Kd.R_drewN | apply Kd.R_drew)); exact Kd.R_mono HO272.out (fun _ hk => trivial)⟩, ⟨by repeat (first | (with_reducible first | exact HB.out | apply below_alloc | apply pw_below_drewN | apply below_drew1) | exact HB.out)⟩⟩
          ·replace c39 := Bool.eq_false_iff.mpr c39
           subst c39
           have H1 : (cohousinglaw06_DigestMatchesReference.j3 kj26 l2 a3 a4 a5 a6 l7 false t263 t269) = some r := by rw [if_neg (show ¬ (false = true) by decide)] at H; exact H
           clear H
           have H := H1
           clear H1
           have H' := Aside0.mk H
           clear H
           obtain ⟨Ao42, co42, eo42⟩ := Kd.R_slice HO268.out
           subst eo42
           obtain ⟨Ao43, co43, eo43⟩ := Kd.R_slice HO272.out
           subst eo43
           go_wp2_with (first | (go_at_call 19; (with_reducible refine (cohousingref06_Same.calls kj26 _ _ t265 _ _ t269 false _ ?side1 ?side2 ?side3 ?side4 A38.out).mono ?_); (case side1 => repeat (first | exact (Kd.R_reads' HO268.out).2.2 | (with_reducible refine Kd.C_alloc ?_ _) | (with_reducible refine Kd.C_drewN ?_ _) | (with_reducible refine Kd.C_drew ?_))); (case side2 => exact (Kd.R_reads' HO268.out).2.1); (case side3 => repeat (first | exact (Kd.R_reads' HO272.out).2.2 | (with_reducible refine Kd.C_alloc ?_ _) | (with_reducible refine Kd.C_drewN ?_ _) | (with_reducible refine Kd.C_drew ?_))); (case side4 => exact (Kd.R_reads' HO272.out).2.1); rintro e w' ⟨rfl, ⟨nd, rfl⟩⟩))
           go_meet
           case rel => exact ⟨_, (false), (by first | rfl | (simp; done) | (simp [*]; done)), H', ⟨by have := HJ9.out; have := HJ15.out; have := HJ26.out; first | omega | exact Nat.le_refl _⟩, ⟨by (with_reducible repeat (first | apply Kd.R_alloc | apply Kd.R_drewN | apply Kd.R_drew)); exact Kd.R_mono HO272.out (fun _ hk => trivial)⟩, ⟨by repeat (first | (with_reducible first | exact HB.out | apply below_alloc | apply pw_below_drewN | apply below_drew1) | exact HB.out)⟩⟩
         ·replace c37 := Bool.eq_false_iff.mpr c37
          subst c37
          have H1 : (cohousinglaw06_DigestMatchesReference.j3 kj26 l2 a3 a4 a5 a6 l7 false t263 t269) = some r := by rw [if_neg (show ¬ (false = true) by decide)] at H; exact H
          clear H
          have H := H1
          clear H1
          have H' := Aside0.mk H
          clear H
          go_wp2
          go_meet
          case rel => exact ⟨_, (false), (by first | rfl | (simp; done) | (simp [*]; done)), H', ⟨by have := HJ9.out; have := HJ15.out; have := HJ26.out; first | omega | exact Nat.le_refl _⟩, ⟨by (with_reducible repeat (first | apply Kd.R_alloc | apply Kd.R_drewN | apply Kd.R_drew)); exact Kd.R_mono HO272.out (fun _ hk => trivial)⟩, ⟨by repeat (first | (with_reducible first | exact HB.out | apply below_alloc | apply pw_below_drewN | apply below_drew1) | exact HB.out)⟩⟩
        case rest =>
         clear HC34
         try clear c1
         try clear c2
         try clear p2
         try clear c3
         try clear c7
         try clear c10
         try clear c12
         try clear c12b0
         try clear c12b1
         try clear c13
         try clear c13b0
         try clear c13b1
         try clear c14
         try clear c14b0
         try clear c14b1
         try clear c15
         try clear c16
         try clear c17
         try clear c18
         try clear c20
         try clear c20b0
         try clear c20b1
         try clear c30
         try clear c31
         try clear c31b0
         try clear c31b1
         try clear c37
         try clear c39
         try clear p2
         obtain ⟨kq, x17_33, rfl, HA, HJ33, HO_23, HB⟩ := hcut
         cases kq with
         | zero => exact absurd HA.out (by simp [cohousinglaw06_DigestMatchesReference.j3])
         | succ kj33 =>
          have H := HA.out
          clear HA
          simp only [cohousinglaw06_DigestMatchesReference.j3] at H
          by_cases c44 : x17_33 = true
          ·subst c44
           have H1 : ((digest_Check.f kj33 a5 a6 a3 a4 l7).bind fun t274 => ((cohousingref06_Check.f kj33 a5 a6 a3 a4 l7).bind fun t275 => (if (t274 == t275) = true then ((digest_Check.f kj33 t263 a6 a3 (l2.length : Int) t269).bind fun t276 => ((cohousingref06_Check.f kj33 t263 a6 a3 (l2.length : Int) t269).bind fun t277 => (some (t276 == t277)))) else (some false)))) = some r := by rw [if_pos rfl] at H; exact H
           clear H
           have H := H1
           clear H1
           replace H := Option.bind_eq_some_iff.mp H
           obtain ⟨t274, A450, H⟩ := H
           replace H : ((cohousingref06_Check.f kj33 a5 a6 a3 a4 l7).bind fun t275 => (if (t274 == t275) = true then ((digest_Check.f kj33 t263 a6 a3 (l2.length : Int) t269).bind fun t276 => ((cohousingref06_Check.f kj33 t263 a6 a3 (l2.length : Int) t269).bind fun t277 => (some (t276 == t277)))) else (some false))) = some r := H
           have A45 := Aside0.mk A450
           clear A450
           replace H := Option.bind_eq_some_iff.mp H
           obtain ⟨t275, A460, H⟩ := H
           replace H : (if (t274 == t275) = true then ((digest_Check.f kj33 t263 a6 a3 (l2.length : Int) t269).bind fun t276 => ((cohousingref06_Check.f kj33 t263 a6 a3 (l2.length : Int) t269).bind fun t277 => (some (t276 == t277)))) else (some false)) = some r := H
           have A46 := Aside0.mk A460
           clear A460
           by_cases c47 : (t274 == t275) = true
           ·rw [if_pos c47] at H
            have c47b0 : (t274 == t275) = true := c47
            (try (have c47b1 : decide (t274 = t275) = true := by simpa using c47))
            (try (have c47b2 : (t274 == t275) = true := by simpa using c47))
            clear c47
            replace H := Option.bind_eq_some_iff.mp H
            obtain ⟨t276, A480, H⟩ := H
            replace H : ((cohousingref06_Check.f kj33 t263 a6 a3 (l2.length : Int) t269).bind fun t277 => (some (t276 == t277))) = some r := H
            have A48 := Aside0.mk A480
            clear A480
            replace H := Option.bind_eq_some_iff.mp H
            obtain ⟨t277, A490, H⟩ := H
            replace H : (some (t276 == t277)) = some r := H
            have A49 := Aside0.mk A490
            clear A490
            obtain rfl := Option.some.inj H
            go_wp2_with (first | (go_at_call 20; (with_reducible refine (digest_Check.calls kj33 a5 a6 a3 a4 (fun k_ => k_ < w.heap.size) _ _ l7 t274 _ ?side1 A45.out).mono ?_); (case side1 => exact Kd.V_mk HC7.out (Kd.F_below (Kd.C_F (Kd.heap_int .u64) HR7.out) (by repeat (first | (with_reducible first | exact HB.out | apply below_alloc | apply pw_below_drewN | apply below_drew1) | exact HB.out)))); rintro e w50 ⟨rfl, hb⟩; have n0_ := Aside0.mk (Kd.R_below (by (with_reducible repeat (first | apply Kd.R_alloc | apply Kd.R_drewN | apply Kd.R_drew)); exact HO_23.out) hb); have n1_ := Aside0.mk (below_step (by repeat (first | (with_reducible first | exact HB.out | apply below_alloc | apply pw_below_drewN | apply below_drew1) | exact HB.out)) hb); clear HO_23; clear HB; have HO_23 := n0_; have HB := n1_; clear n0_ n1_; (try clear hb); (try clear hb2); (try clear hk); (try clear hi)) | (go_at_call 21; (with_reducible refine (cohousingref06_Check.calls kj33 a5 a6 a3 a4 _ _ l7 t275 _ ?side1 ?side2 A46.out).mono ?_); (case side1 => repeat (first | exact (Kd.C_below HR7.out HB.out) | (with_reducible refine Kd.C_alloc ?_ _) | (with_reducible refine Kd.C_drewN ?_ _) | (with_reducible refine Kd.C_drew ?_))); (case side2 => exact HC7.out); rintro e w51 ⟨rfl, hb⟩; have n0_ := Aside0.mk (Kd.R_below (by (with_reducible repeat (first | apply Kd.R_alloc | apply Kd.R_drewN | apply Kd.R_drew)); exact HO_23.out) hb); have n1_ := Aside0.mk (below_step (by repeat (first | (with_reducible first | exact HB.out | apply below_alloc | apply pw_below_drewN | apply below_drew1) | exact HB.out)) hb); clear HO_23; clear HB; have HO_23 := n0_; have HB := n1_; clear n0_ n1_; (try clear hb); (try clear hb2); (try clear hk); (try clear hi); obtain ⟨Ao52, co52, eo52⟩ := Kd.R_slice HO_23.out; subst eo52) | (go_at_call 20; (with_reducible refine (digest_Check.calls kj33 t263 a6 a3 (l2.length : Int) (fun k_ => some k_ = (.slice Ao52 t269.length co52 : Value).ownBlock) _ _ t269 t276 _ ?side1 A48.out).mono ?_); (case side1 => exact Kd.R_V (Kd.R_tight rfl (HO_23.out))); rintro e w53 ⟨rfl, hb⟩; have n0_ := Aside0.mk (Kd.R_below (by (with_reducible repeat (first | apply Kd.R_alloc | apply Kd.R_drewN | apply Kd.R_drew)); exact HO_23.out) hb); have n1_ := Aside0.mk (below_step (by repeat (first | (with_reducible first | exact HB.out | apply below_alloc | apply pw_below_drewN | apply below_drew1) | exact HB.out)) hb); clear HO_23; clear HB; have HO_23 := n0_; have HB := n1_; clear n0_ n1_; (try clear hb); (try clear hb2); (try clear hk); (try clear hi)) | (go_at_call 21; (with_reducible refine (cohousingref06_Check.calls kj33 t263 a6 a3 (l2.length : Int) _ _ t269 t277 _ ?side1 ?side2 A49.out).mono ?_); (case side1 => repeat (first | exact (Kd.R_reads' HO_23.out).2.2 | (with_reducible refine Kd.C_alloc ?_ _) | (with_reducible refine Kd.C_drewN ?_ _) | (with_reducible refine Kd.C_drew ?_))); (case side2 => exact (Kd.R_reads' HO_23.out).2.1); rintro e w54 ⟨rfl, hb⟩; have n0_ := Aside0.mk (Kd.R_below (by (with_reducible repeat (first | apply Kd.R_alloc | apply Kd.R_drewN | apply Kd.R_drew)); exact HO_23.out) hb); have n1_ := Aside0.mk (below_step (by repeat (first | (with_reducible first | exact HB.out | apply below_alloc | apply pw_below_drewN | apply below_drew1) | exact HB.out)) hb); clear HO_23; clear HB; have HO_23 := n0_; have HB := n1_; clear n0_ n1_; (try clear hb); (try clear hb2); (try clear hk); (try clear hi)))
            go_ret
            exact ⟨by first | rfl | (simp [errW_none, errW_some] <;> rfl) | (simp [*, errW_none, errW_some] <;> rfl), by repeat (first | (with_reducible first | exact HB.out | apply below_alloc | apply pw_below_drewN | apply below_drew1) | exact HB.out)⟩
           ·rw [if_neg c47] at H
            have c47b0 : (t274 == t275) = false := by simpa using c47
            (try (have c47b1 : decide (t274 = t275) = false := by simpa using c47))
            (try (have c47b2 : (t274 == t275) = false := by simpa using c47))
            (try (have c47b3 : ¬ (t274 = t275) := by simpa using c47))
            clear c47
            obtain rfl := Option.some.inj H
            go_wp2_with (first | (go_at_call 20; (with_reducible refine (digest_Check.calls kj33 a5 a6 a3 a4 (fun k_ => k_ < w.heap.size) _ _ l7 t274 _ ?side1 A45.out).mono ?_); (case side1 => exact Kd.V_mk HC7.out (Kd.F_below (Kd.C_F (Kd.heap_int .u64) HR7.out) (by repeat (first | (with_reducible first | exact HB.out | apply below_alloc | apply pw_below_drewN | apply below_drew1) | exact HB.out)))); rintro e w55 ⟨rfl, hb⟩; have n0_ := Aside0.mk (Kd.R_below (by (with_reducible repeat (first | apply Kd.R_alloc | apply Kd.R_drewN | apply Kd.R_drew)); exact HO_23.out) hb); have n1_ := Aside0.mk (below_step (by repeat (first | (with_reducible first | exact HB.out | apply below_alloc | apply pw_below_drewN | apply below_drew1) | exact HB.out)) hb); clear HO_23; clear HB; have HO_23 := n0_; have HB := n1_; clear n0_ n1_; (try clear hb); (try clear hb2); (try clear hk); (try clear hi)) | (go_at_call 21; (with_reducible refine (cohousingref06_Check.calls kj33 a5 a6 a3 a4 _ _ l7 t275 _ ?side1 ?side2 A46.out).mono ?_); (case side1 => repeat (first | exact (Kd.C_below HR7.out HB.out) | (with_reducible refine Kd.C_alloc ?_ _) | (with_reducible refine Kd.C_drewN ?_ _) | (with_reducible refine Kd.C_drew ?_))); (case side2 => exact HC7.out); rintro e w56 ⟨rfl, hb⟩; have n0_ := Aside0.mk (Kd.R_below (by (with_reducible repeat (first | apply Kd.R_alloc | apply Kd.R_drewN | apply Kd.R_drew)); exact HO_23.out) hb); have n1_ := Aside0.mk (below_step (by repeat (first | (with_reducible first | exact HB.out | apply below_alloc | apply pw_below_drewN | apply below_drew1) | exact HB.out)) hb); clear HO_23; clear HB; have HO_23 := n0_; have HB := n1_; clear n0_ n1_; (try clear hb); (try clear hb2); (try clear hk); (try clear hi)))
            go_ret
            exact ⟨by first | rfl | (simp [errW_none, errW_some] <;> rfl) | (simp [*, errW_none, errW_some] <;> rfl), by repeat (first | (with_reducible first | exact HB.out | apply below_alloc | apply pw_below_drewN | apply below_drew1) | exact HB.out)⟩
          ·replace c44 := Bool.eq_false_iff.mpr c44
           subst c44
           have H1 : (some false) = some r := by rw [if_neg (show ¬ (false = true) by decide)] at H; exact H
           clear H
           have H := H1
           clear H1
           obtain rfl := Option.some.inj H
           go_wp2
           go_ret
           exact ⟨by first | rfl | (simp [errW_none, errW_some] <;> rfl) | (simp [*, errW_none, errW_some] <;> rfl), by repeat (first | (with_reducible first | exact HB.out | apply below_alloc | apply pw_below_drewN | apply below_drew1) | exact HB.out)⟩

end Go.Proofs.YtolgpnbjjehdiaaDoor.P
