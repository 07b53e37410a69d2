-- Written by a program of this session out of the translation (wip/pp: the kit's print, turned). Not trusted: Lean checks it.
import Derived.Test.YtdhnojfpgpjabaaDoorPx0
import Derived.Test.YtdhnojfpgpjabaaDoorPx7
import Derived.Test.YtdhnojfpgpjabaaDoorPx11
namespace Go.Proofs.YtdhnojfpgpjabaaDoor.P
open Go.RowKit Go.Proofs.YtdhnojfpgpjabaaDoorW.PrintWords Go.Proofs.YtdhnojfpgpjabaaDoorW.PrintLast Go.Proofs.YtdhnojfpgpjabaaDoorW.PrintMore
attribute [local go_sem] max2_int min2_int max_two min_two max_three min_three max_four min_four   -- for this text's walks alone
set_option linter.unusedVariables false
set_option linter.unusedSimpArgs false

/-! ### cohousingref32_state: function 28 -/
mutual
def cohousingref32_state.l0 : Nat → Int → List (S36) → Int → Int → Int → Int → Int → Int → Int → Int → Int → Option (Int × Int × Int × Int × Int × Int)
 | 0, _, _, _, _, _, _, _, _, _, _, _ => none
 | k + 1, x0, x1, x2, x9, x10, x11, x163000, x163001, x163002, x163003, x163004 => if x11 ≤ (x1.length : Int) then (if x11 = (x1.length : Int) then (cohousingref32_state.j1 k x0 x1 x2 x9 x10 x11 true x163000 x163001 x163002 x163003 x163004) else (if 0 ≤ x11 then (if x11 < (x1.length : Int) then (cohousingref32_state.j1 k x0 x1 x2 x9 x10 x11 (decide (((rd_T36 x1 x11).f1) > x2)) x163000 x163001 x163002 x163003 x163004) else (none)) else (none))) else ((cohousingref02_Amount.f (mx 0 (wrap64 ((wrap64 ((mn x163000 x163001) + x163002)) - x163003)))).bind fun t163 => (if t163 = true then (some (x163000, x163001, x163002, x163003, mx 0 (wrap64 ((wrap64 ((mn x163000 x163001) + x163002)) - x163003)), 0)) else (some (0, 0, 0, 0, 0, 3))))
def cohousingref32_state.j1 : Nat → Int → List (S36) → Int → Int → Int → Int → Bool → Int → Int → Int → Int → Int → Option (Int × Int × Int × Int × Int × Int)
 | 0, _, _, _, _, _, _, _, _, _, _, _, _ => none
 | k + 1, x0, x1, x2, x9, x10, x11, x12, x163000, x163001, x163002, x163003, x163004 => if x12 = true then (cohousingref32_state.j2 k x0 x1 x2 x9 x10 x11 x12 true x163000 x163001 x163002 x163003 x163004) else (if 0 ≤ x11 then (if x11 < (x1.length : Int) then (if ((rd_T36 x1 x11).f0) = 1 then (cohousingref32_state.j2 k x0 x1 x2 x9 x10 x11 x12 true x163000 x163001 x163002 x163003 x163004) else (cohousingref32_state.j2 k x0 x1 x2 x9 x10 x11 x12 (((rd_T36 x1 x11).f0) == 3) x163000 x163001 x163002 x163003 x163004)) else (none)) else (none))
def cohousingref32_state.j2 : Nat → Int → List (S36) → Int → Int → Int → Int → Bool → Bool → Int → Int → Int → Int → Int → Option (Int × Int × Int × Int × Int × Int)
 | 0, _, _, _, _, _, _, _, _, _, _, _, _, _ => none
 | k + 1, x0, x1, x2, x9, x10, x11, x12, x56, x163000, x163001, x163002, x163003, x163004 => if x56 = true then (if x12 = true then (cohousingref32_state.j3 k x0 x1 x2 x9 x10 x11 x12 x2 x163000 x163001 x163002 x163003 x163004) else (if 0 ≤ x11 then (if x11 < (x1.length : Int) then (cohousingref32_state.j3 k x0 x1 x2 x9 x10 x11 x12 ((rd_T36 x1 x11).f1) x163000 x163001 x163002 x163003 x163004) else (none)) else (none))) else (cohousingref32_state.j4 k x0 x1 x2 x9 x10 x11 x12 x163000 x163001 x163002 x163003 x163004)
def cohousingref32_state.j4 : Nat → Int → List (S36) → Int → Int → Int → Int → Bool → Int → Int → Int → Int → Int → Option (Int × Int × Int × Int × Int × Int)
 | 0, _, _, _, _, _, _, _, _, _, _, _, _ => none
 | k + 1, x0, x1, x2, x9, x10, x11, x12, x163000, x163001, x163002, x163003, x163004 => if x12 = true then ((cohousingref02_Amount.f (mx 0 (wrap64 ((wrap64 ((mn x163000 x163001) + x163002)) - x163003)))).bind fun t171 => (if t171 = true then (some (x163000, x163001, x163002, x163003, mx 0 (wrap64 ((wrap64 ((mn x163000 x163001) + x163002)) - x163003)), 0)) else (some (0, 0, 0, 0, 0, 3)))) else (if 0 ≤ x11 then (if x11 < (x1.length : Int) then (if ((rd_T36 x1 x11).f0) = 1 then (cohousingref32_state.l0 k x0 x1 x2 x9 x10 (wrap64 (x11 + 1)) (wrap64 (x163000 + ((rd_T36 x1 x11).f2))) x163001 x163002 x163003 x163004) else (if ((rd_T36 x1 x11).f0) = 2 then (cohousingref32_state.l0 k x0 x1 x2 x9 x10 (wrap64 (x11 + 1)) x163000 (wrap64 (x0 * ((rd_T36 x1 x11).f2))) x163002 x163003 x163004) else (if ((rd_T36 x1 x11).f0) = 3 then (cohousingref32_state.l0 k x0 x1 x2 ((rd_T36 x1 x11).f2) x10 (wrap64 (x11 + 1)) x163000 x163001 x163002 x163003 x163004) else (if ((rd_T36 x1 x11).f0) = 4 then (cohousingref32_state.l0 k x0 x1 x2 x9 x10 (wrap64 (x11 + 1)) x163000 x163001 x163002 (wrap64 (x163003 + ((rd_T36 x1 x11).f2))) x163004) else (if ((rd_T36 x1 x11).f0) = 5 then (cohousingref32_state.l0 k x0 x1 x2 x9 x10 (wrap64 (x11 + 1)) x163000 x163001 x163002 (wrap64 (x163003 - ((rd_T36 x1 x11).f2))) x163004) else (cohousingref32_state.l0 k x0 x1 x2 x9 x10 (wrap64 (x11 + 1)) x163000 x163001 x163002 x163003 x163004)))))) else (none)) else (none))
def cohousingref32_state.j3 : Nat → Int → List (S36) → Int → Int → Int → Int → Bool → Int → Int → Int → Int → Int → Int → Option (Int × Int × Int × Int × Int × Int)
 | 0, _, _, _, _, _, _, _, _, _, _, _, _, _ => none
 | k + 1, x0, x1, x2, x9, x10, x11, x12, x13, x163000, x163001, x163002, x163003, x163004 => (cohousingref32_Interest.f k x163000 x9 (wrap64 (x13 - x10))).bind fun bt168 => ((cohousingref02_Amount.f (wrap64 (x163002 + bt168.1))).bind fun t170 => (if bt168.2 = 0 then (if t170 = true then (cohousingref32_state.j4 k x0 x1 x2 x9 x13 x11 x12 x163000 x163001 (wrap64 (x163002 + bt168.1)) x163003 x163004) else (some (0, 0, 0, 0, 0, 3))) else (some (0, 0, 0, 0, 0, 3))))
end
def cohousingref32_state.f (k : Nat) (a0 : Int) (l1 : List (S36)) (a2 : Int) : Option (Int × Int × Int × Int × Int × Int) := cohousingref32_state.l0 k a0 l1 a2 0 0 0 0 (wrap64 (a0 * 100)) 0 0 0
theorem cohousingref32_state.mono_l : ∀ k, (∀ y0 y1 y2 y3 y4 y5 y6 y7 y8 y9 y10, LeO (cohousingref32_state.l0 k y0 y1 y2 y3 y4 y5 y6 y7 y8 y9 y10) (cohousingref32_state.l0 (k + 1) y0 y1 y2 y3 y4 y5 y6 y7 y8 y9 y10)) ∧ (∀ y0 y1 y2 y3 y4 y5 y6 y7 y8 y9 y10 y11, LeO (cohousingref32_state.j1 k y0 y1 y2 y3 y4 y5 y6 y7 y8 y9 y10 y11) (cohousingref32_state.j1 (k + 1) y0 y1 y2 y3 y4 y5 y6 y7 y8 y9 y10 y11)) ∧ (∀ y0 y1 y2 y3 y4 y5 y6 y7 y8 y9 y10 y11 y12, LeO (cohousingref32_state.j2 k y0 y1 y2 y3 y4 y5 y6 y7 y8 y9 y10 y11 y12) (cohousingref32_state.j2 (k + 1) y0 y1 y2 y3 y4 y5 y6 y7 y8 y9 y10 y11 y12)) ∧ (∀ y0 y1 y2 y3 y4 y5 y6 y7 y8 y9 y10 y11, LeO (cohousingref32_state.j4 k y0 y1 y2 y3 y4 y5 y6 y7 y8 y9 y10 y11) (cohousingref32_state.j4 (k + 1) y0 y1 y2 y3 y4 y5 y6 y7 y8 y9 y10 y11)) ∧ (∀ y0 y1 y2 y3 y4 y5 y6 y7 y8 y9 y10 y11 y12, LeO (cohousingref32_state.j3 k y0 y1 y2 y3 y4 y5 y6 y7 y8 y9 y10 y11 y12) (cohousingref32_state.j3 (k + 1) y0 y1 y2 y3 y4 y5 y6 y7 y8 y9 y10 y11 y12))
 | 0 => ⟨fun _ _ _ _ _ _ _ _ _ _ _ r h => by simp [cohousingref32_state.l0] at h, fun _ _ _ _ _ _ _ _ _ _ _ _ r h => by simp [cohousingref32_state.j1] at h, fun _ _ _ _ _ _ _ _ _ _ _ _ _ r h => by simp [cohousingref32_state.j2] at h, fun _ _ _ _ _ _ _ _ _ _ _ _ r h => by simp [cohousingref32_state.j4] at h, fun _ _ _ _ _ _ _ _ _ _ _ _ _ r h => by simp [cohousingref32_state.j3] at h⟩
 | k + 1 => by
  obtain ⟨ih0, ih1, ih2, ih3, ih4⟩ := cohousingref32_state.mono_l k
  refine ⟨?_, ?_, ?_, ?_, ?_⟩
  ·intro y0 y1 y2 y3 y4 y5 y6 y7 y8 y9 y10
   unfold cohousingref32_state.l0
   repeat' first
   | (with_reducible exact ih0 _ _ _ _ _ _ _ _ _ _ _)
   | (with_reducible exact ih1 _ _ _ _ _ _ _ _ _ _ _ _)
   | (with_reducible exact ih2 _ _ _ _ _ _ _ _ _ _ _ _ _)
   | (with_reducible exact ih3 _ _ _ _ _ _ _ _ _ _ _ _)
   | (with_reducible exact ih4 _ _ _ _ _ _ _ _ _ _ _ _ _)
   | (with_reducible exact cohousingref32_Interest.mono _ _ _ _)
   | (with_reducible exact LeO.refl _)
   | (with_reducible exact LeO.none _)
   | (with_reducible refine LeO.ite ?_ ?_)
   | (with_reducible refine LeO.bind ?_ (fun _ => ?_))
   | exact ih0 _ _ _ _ _ _ _ _ _ _ _
   | exact ih1 _ _ _ _ _ _ _ _ _ _ _ _
   | exact ih2 _ _ _ _ _ _ _ _ _ _ _ _ _
   | exact ih3 _ _ _ _ _ _ _ _ _ _ _ _
   | exact ih4 _ _ _ _ _ _ _ _ _ _ _ _ _
   | exact cohousingref32_Interest.mono _ _ _ _
   | exact LeO.none _
   | refine LeO.ite ?_ ?_
   | refine LeO.bind ?_ (fun _ => ?_)
  ·intro y0 y1 y2 y3 y4 y5 y6 y7 y8 y9 y10 y11
   unfold cohousingref32_state.j1
   repeat' first
   | (with_reducible exact ih0 _ _ _ _ _ _ _ _ _ _ _)
   | (with_reducible exact ih1 _ _ _ _ _ _ _ _ _ _ _ _)
   | (with_reducible exact ih2 _ _ _ _ _ _ _ _ _ _ _ _ _)
   | (with_reducible exact ih3 _ _ _ _ _ _ _ _ _ _ _ _)
   | (with_reducible exact ih4 _ _ _ _ _ _ _ _ _ _ _ _ _)
   | (with_reducible exact cohousingref32_Interest.mono _ _ _ _)
   | (with_reducible exact LeO.refl _)
   | (with_reducible exact LeO.none _)
   | (with_reducible refine LeO.ite ?_ ?_)
   | (with_reducible refine LeO.bind ?_ (fun _ => ?_))
   | exact ih0 _ _ _ _ _ _ _ _ _ _ _
   | exact ih1 _ _ _ _ _ _ _ _ _ _ _ _
   | exact ih2 _ _ _ _ _ _ _ _ _ _ _ _ _
   | exact ih3 _ _ _ _ _ _ _ _ _ _ _ _
   | exact ih4 _ _ _ _ _ _ _ _ _ _ _ _ _
   | exact cohousingref32_Interest.mono _ _ _ _
   | exact LeO.none _
   | refine LeO.ite ?_ ?_
   | refine LeO.bind ?_ (fun _ => ?_)
  ·intro y0 y1 y2 y3 y4 y5 y6 y7 y8 y9 y10 y11 y12
   unfold cohousingref32_state.j2
   repeat' first
   | (with_reducible exact ih0 _ _ _ _ _ _ _ _ _ _ _)
   | (with_reducible exact ih1 _ _ _ _ _ _ _ _ _ _ _ _)
   | (with_reducible exact ih2 _ _ _ _ _ _ _ _ _ _ _ _ _)
   | (with_reducible exact ih3 _ _ _ _ _ _ _ _ _ _ _ _)
   | (with_reducible exact ih4 _ _ _ _ _ _ _ _ _ _ _ _ _)
   | (with_reducible exact cohousingref32_Interest.mono _ _ _ _)
   | (with_reducible exact LeO.refl _)
   | (with_reducible exact LeO.none _)
   | (with_reducible refine LeO.ite ?_ ?_)
   | (with_reducible refine LeO.bind ?_ (fun _ => ?_))
   | exact ih0 _ _ _ _ _ _ _ _ _ _ _
   | exact ih1 _ _ _ _ _ _ _ _ _ _ _ _
   | exact ih2 _ _ _ _ _ _ _ _ _ _ _ _ _
   | exact ih3 _ _ _ _ _ _ _ _ _ _ _ _
   | exact ih4 _ _ _ _ _ _ _ _ _ _ _ _ _
   | exact cohousingref32_Interest.mono _ _ _ _
   | exact LeO.none _
   | refine LeO.ite ?_ ?_
   | refine LeO.bind ?_ (fun _ => ?_)
  ·intro y0 y1 y2 y3 y4 y5 y6 y7 y8 y9 y10 y11
   unfold cohousingref32_state.j4
   repeat' first
   | (with_reducible exact ih0 _ _ _ _ _ _ _ _ _ _ _)
   | (with_reducible exact ih1 _ _ _ _ _ _ _ _ _ _ _ _)
   | (with_reducible exact ih2 _ _ _ _ _ _ _ _ _ _ _ _ _)
   | (with_reducible exact ih3 _ _ _ _ _ _ _ _ _ _ _ _)
   | (with_reducible exact ih4 _ _ _ _ _ _ _ _ _ _ _ _ _)
   | (with_reducible exact cohousingref32_Interest.mono _ _ _ _)
   | (with_reducible exact LeO.refl _)
   | (with_reducible exact LeO.none _)
   | (with_reducible refine LeO.ite ?_ ?_)
   | (with_reducible refine LeO.bind ?_ (fun _ => ?_))
   | exact ih0 _ _ _ _ _ _ _ _ _ _ _
   | exact ih1 _ _ _ _ _ _ _ _ _ _ _ _
   | exact ih2 _ _ _ _ _ _ _ _ _ _ _ _ _
   | exact ih3 _ _ _ _ _ _ _ _ _ _ _ _
   | exact ih4 _ _ _ _ _ _ _ _ _ _ _ _ _
   | exact cohousingref32_Interest.mono _ _ _ _
   | exact LeO.none _
   | refine LeO.ite ?_ ?_
   | refine LeO.bind ?_ (fun _ => ?_)
  ·intro y0 y1 y2 y3 y4 y5 y6 y7 y8 y9 y10 y11 y12
   unfold cohousingref32_state.j3
   repeat' first
   | (with_reducible exact ih0 _ _ _ _ _ _ _ _ _ _ _)
   | (with_reducible exact ih1 _ _ _ _ _ _ _ _ _ _ _ _)
   | (with_reducible exact ih2 _ _ _ _ _ _ _ _ _ _ _ _ _)
   | (with_reducible exact ih3 _ _ _ _ _ _ _ _ _ _ _ _)
   | (with_reducible exact ih4 _ _ _ _ _ _ _ _ _ _ _ _ _)
   | (with_reducible exact cohousingref32_Interest.mono _ _ _ _)
   | (with_reducible exact LeO.refl _)
   | (with_reducible exact LeO.none _)
   | (with_reducible refine LeO.ite ?_ ?_)
   | (with_reducible refine LeO.bind ?_ (fun _ => ?_))
   | exact ih0 _ _ _ _ _ _ _ _ _ _ _
   | exact ih1 _ _ _ _ _ _ _ _ _ _ _ _
   | exact ih2 _ _ _ _ _ _ _ _ _ _ _ _ _
   | exact ih3 _ _ _ _ _ _ _ _ _ _ _ _
   | exact ih4 _ _ _ _ _ _ _ _ _ _ _ _ _
   | exact cohousingref32_Interest.mono _ _ _ _
   | exact LeO.none _
   | refine LeO.ite ?_ ?_
   | refine LeO.bind ?_ (fun _ => ?_)
theorem cohousingref32_state.mono : ∀ a0 a1 a2 k, LeO (cohousingref32_state.f k a0 a1 a2) (cohousingref32_state.f (k + 1) a0 a1 a2) := by
 intro a0 a1 a2 k
 obtain ⟨ih0, ih1, ih2, ih3, ih4⟩ := cohousingref32_state.mono_l k
 unfold cohousingref32_state.f
 repeat' first
   | (with_reducible exact ih0 _ _ _ _ _ _ _ _ _ _ _)
   | (with_reducible exact ih1 _ _ _ _ _ _ _ _ _ _ _ _)
   | (with_reducible exact ih2 _ _ _ _ _ _ _ _ _ _ _ _ _)
   | (with_reducible exact ih3 _ _ _ _ _ _ _ _ _ _ _ _)
   | (with_reducible exact ih4 _ _ _ _ _ _ _ _ _ _ _ _ _)
   | (with_reducible exact cohousingref32_Interest.mono _ _ _ _)
   | (with_reducible exact LeO.refl _)
   | (with_reducible exact LeO.none _)
   | (with_reducible refine LeO.ite ?_ ?_)
   | (with_reducible refine LeO.bind ?_ (fun _ => ?_))
   | exact ih0 _ _ _ _ _ _ _ _ _ _ _
   | exact ih1 _ _ _ _ _ _ _ _ _ _ _ _
   | exact ih2 _ _ _ _ _ _ _ _ _ _ _ _ _
   | exact ih3 _ _ _ _ _ _ _ _ _ _ _ _
   | exact ih4 _ _ _ _ _ _ _ _ _ _ _ _ _
   | exact cohousingref32_Interest.mono _ _ _ _
   | exact LeO.none _
   | refine LeO.ite ?_ ?_
   | refine LeO.bind ?_ (fun _ => ?_)
def cohousingref32_state.T21 : Bool × List (List Nat × List Nat) := (true, [([], []), ([0], [0]), ([], []), ([], []), ([2, 3], [2, 3]), ([4], [4]), ([5], [5]), ([1, 6], [1, 6]), ([0, 1, 2, 3, 4, 5, 6, 7], []), ([8, 7, 0, 1, 2, 3, 4, 5, 6, 7], [7, 8])])
def cohousingref32_state.B21 : List Nat := [0, 1, 0, 0, 12, 28, 60, 127, 255, 511]
theorem cohousingref32_state.tab21 : rtab .any (opsOf Tryd.f28 21) = cohousingref32_state.T21 := by kernel_rfl
theorem cohousingref32_state.bits21 : waitsOk cohousingref32_state.T21.2 cohousingref32_state.B21 = true := by kernel_rfl
def cohousingref32_state.T27 : Bool × List (List Nat × List Nat) := (true, [([], []), ([0], [0]), ([], []), ([], []), ([2, 3], [2, 3]), ([4], [4]), ([5], [5]), ([1, 6], [1, 6]), ([0, 1, 2, 3, 4, 5, 6, 7], []), ([8, 7, 0, 1, 2, 3, 4, 5, 6, 7], [7, 8])])
def cohousingref32_state.B27 : List Nat := [0, 1, 0, 0, 12, 28, 60, 127, 255, 511]
theorem cohousingref32_state.tab27 : rtab .any (opsOf Tryd.f28 27) = cohousingref32_state.T27 := by kernel_rfl
theorem cohousingref32_state.bits27 : waitsOk cohousingref32_state.T27.2 cohousingref32_state.B27 = true := by kernel_rfl
def cohousingref32_state.T29 : Bool × List (List Nat × List Nat) := (true, [([], []), ([0], [0]), ([], []), ([], []), ([2, 3], [2, 3]), ([4], [4]), ([5], [5]), ([1, 6], [1, 6]), ([0, 1, 2, 3, 4, 5, 6, 7], []), ([8, 7, 0, 1, 2, 3, 4, 5, 6, 7], [7, 8])])
def cohousingref32_state.B29 : List Nat := [0, 1, 0, 0, 12, 28, 60, 127, 255, 511]
theorem cohousingref32_state.tab29 : rtab .any (opsOf Tryd.f28 29) = cohousingref32_state.T29 := by kernel_rfl
theorem cohousingref32_state.bits29 : waitsOk cohousingref32_state.T29.2 cohousingref32_state.B29 = true := by kernel_rfl
set_option maxHeartbeats 8000000 in
set_option maxRecDepth 100000 in
theorem cohousingref32_state.calls (k : Nat) (a0 : Int) (A1 : Option Addr) (c1 : Nat) (l1 : List (S36)) (a2 : Int) (r1 : Int) (r2 : Int) (r3 : Int) (r4 : Int) (r5 : Int) (r6 : Int) (w : World) (hr1 : Kd.C k36 w A1 l1.length l1) (hc1 : l1.length ≤ c1) (h : cohousingref32_state.f k a0 l1 a2 = some (r1, r2, r3, r4, r5, r6)) :
  Calls Tryd.prog 28 #[.int .i64 a0, .slice A1 l1.length c1, .int .i64 a2] w fun e w' => e = .returned (.tuple #[.agg #[.int .i64 r1, .int .i64 r2, .int .i64 r3, .int .i64 r4, .int .i64 r5], .int .i64 r6]) ∧ Below w.heap.size w w' := by
 have hu26 := Tryd.underlying26
 have HR1 := Aside0.mk hr1
 have HC1 := Aside0.mk hc1
 clear hr1 hc1
 have HB := Aside0.mk (Below.refl w.heap.size w)
 have H : (cohousingref32_state.l0 k a0 l1 a2 0 0 0 0 (wrap64 (a0 * 100)) 0 0 0) = some (r1, r2, r3, r4, r5, r6) := h
 clear h
 have H' := Aside0.mk H
 clear H
 go_enter Tryd.func28, Tryd.ntmps28
 go_wp2_with (first | ((with_reducible refine gate_dst (N := 6) rfl ?_); refine box_event ?hg (N := 6) ?hd (cs := #[.int .i64 0, .int .i64 0, .int .i64 0, .int .i64 0, .int .i64 0]) (t := 26) ?hr ?_; (case hd => rfl); (case hg => rfl); (case hr => first | (go_simp; done) | (go_simp; rfl)); intro gb161 hg w4 hbox hb; have n0_ := Aside0.mk (below_step (by repeat (first | (with_reducible first | exact HB.out | apply below_alloc | apply pw_below_drewN | apply below_drew1) | exact HB.out)) hb); have n1_ := Aside0.mk (hbox); have n2_ := Aside0.mk ((by rw [hg]; exact (below_size (by repeat (first | (with_reducible first | exact HB.out | apply below_alloc | apply pw_below_drewN | apply below_drew1) | exact HB.out))) : w.heap.size ≤ gb161)); have n3_ := Aside0.mk ((by rw [hg]; exact (below_size (by repeat (first | (with_reducible first | exact HB.out | apply below_alloc | apply pw_below_drewN | apply below_drew1) | exact HB.out))) : w.heap.size ≤ gb161)); clear HB; have HB := n0_; have BK161 := n1_; have GW161 := n2_; have GE161 := n3_; clear n0_ n1_ n2_ n3_; clear hb hbox hg) | ((with_reducible refine gate_dst (N := 8) rfl ?_); refine box_event ?hg (N := 8) ?hd (cs := #[.int .i64 0, .int .i64 0, .int .i64 0, .int .i64 0, .int .i64 0]) (t := 26) ?hr ?_; (case hd => rfl); (case hg => rfl); (case hr => first | (go_simp; done) | (go_simp; rfl)); intro gb162 hg w5 hbox hb; have n0_ := Aside0.mk (blk_below (g := gb161) (o := .cells #[.int .i64 0, .int .i64 0, .int .i64 0, .int .i64 0, .int .i64 0] 26 (0, 0)) (by (with_reducible repeat (first | refine blk_drewN ?_ _ | refine blk_drew ?_ | refine blk_alloc ?_ _)); exact BK161.out) hb); have n1_ := Aside0.mk (below_step (by repeat (first | (with_reducible first | exact HB.out | apply below_alloc | apply pw_below_drewN | apply below_drew1 | refine below_set ?_ GE161.out) | exact HB.out)) hb); have n2_ := Aside0.mk (hbox); have n3_ := Aside0.mk ((by rw [hg]; exact (below_size (by repeat (first | (with_reducible first | exact HB.out | apply below_alloc | apply pw_below_drewN | apply below_drew1 | refine below_set ?_ GE161.out) | exact HB.out))) : w.heap.size ≤ gb162)); have n4_ := Aside0.mk ((by rw [hg]; exact (below_size (by repeat (first | (with_reducible first | exact HB.out | apply below_alloc | apply pw_below_drewN | apply below_drew1 | refine below_set ?_ GE161.out) | exact HB.out))) : w.heap.size ≤ gb162)); have n5_ := Aside0.mk ((by rw [hg]; exact Nat.ne_of_lt (blk_lt (g := gb161) (o := .cells #[.int .i64 0, .int .i64 0, .int .i64 0, .int .i64 0, .int .i64 0] 26 (0, 0)) (by (with_reducible repeat (first | refine blk_drewN ?_ _ | refine blk_drew ?_ | refine blk_alloc ?_ _)); exact BK161.out)) : gb161 ≠ gb162)); have n6_ := Aside0.mk ((by rw [hg]; exact Nat.ne_of_gt (blk_lt (g := gb161) (o := .cells #[.int .i64 0, .int .i64 0, .int .i64 0, .int .i64 0, .int .i64 0] 26 (0, 0)) (by (with_reducible repeat (first | refine blk_drewN ?_ _ | refine blk_drew ?_ | refine blk_alloc ?_ _)); exact BK161.out)) : gb162 ≠ gb161)); clear BK161; clear HB; have BK161 := n0_; have HB := n1_; have BK162 := n2_; have GW162 := n3_; have GE162 := n4_; have NB161_162 := n5_; have NB162_161 := n6_; clear n0_ n1_ n2_ n3_ n4_ n5_ n6_; clear hb hbox hg; have hnb6 := NB162_161.out; have hnc6 := NB161_162.out; have hcz7_0 : w5.cell? ⟨gb162, 0, none⟩ = some (.int .i64 0) := (blk_cell BK162.out 0).trans rfl; have hcz7_1 : w5.cell? ⟨gb162, 1, none⟩ = some (.int .i64 0) := (blk_cell BK162.out 1).trans rfl; have hcz7_2 : w5.cell? ⟨gb162, 2, none⟩ = some (.int .i64 0) := (blk_cell BK162.out 2).trans rfl; have hcz7_3 : w5.cell? ⟨gb162, 3, none⟩ = some (.int .i64 0) := (blk_cell BK162.out 3).trans rfl; have hcz7_4 : w5.cell? ⟨gb162, 4, none⟩ = some (.int .i64 0) := (blk_cell BK162.out 4).trans rfl; have hfz7_0 := blk_frozen BK162.out 0; have hfz7_1 := blk_frozen BK162.out 1; have hfz7_2 := blk_frozen BK162.out 2; have hfz7_3 := blk_frozen BK162.out 3; have hfz7_4 := blk_frozen BK162.out 4))
 go_loopg [9, 10, 11] k (fun kq v9 v10 v11 w' => ∃ (x9_1 : Int) (x10_1 : Int) (x11_1 : Int) (x162000_1 : Int) (x162001_1 : Int) (x162002_1 : Int) (x162003_1 : Int) (x162004_1 : Int) (x163000_1 : Int) (x163001_1 : Int) (x163002_1 : Int) (x163003_1 : Int), v9 = .int .i64 x9_1 ∧ v10 = .int .i64 x10_1 ∧ v11 = .int .i64 x11_1 ∧ Aside0 (cohousingref32_state.l0 kq a0 l1 a2 x9_1 x10_1 x11_1 x163000_1 x163001_1 x163002_1 x163003_1 0 = some (r1, r2, r3, r4, r5, r6)) ∧ Aside0 (kq ≤ k) ∧ Aside0 (w'.heap[gb161]? = some (.cells #[.int .i64 x162000_1, .int .i64 x162001_1, .int .i64 x162002_1, .int .i64 x162003_1, .int .i64 x162004_1] 26 (0, 0))) ∧ Aside0 (w'.heap[gb162]? = some (.cells #[.int .i64 x163000_1, .int .i64 x163001_1, .int .i64 x163002_1, .int .i64 x163003_1, .int .i64 0] 26 (0, 0))) ∧ Aside0 (Below w.heap.size w w'))
 case atStart => exact ⟨(0), (0), (0), (0), (0), (0), (0), (0), (0), (wrap64 (a0 * 100)), (0), (0), (by first | rfl | (simp; done) | (simp [*]; done)), (by first | rfl | (simp; done) | (simp [*]; done)), (by first | rfl | (simp; done) | (simp [*]; done)), H', ⟨Nat.le_refl _⟩, ⟨by (with_reducible repeat (first | refine blk_drewN ?_ _ | refine blk_drew ?_ | refine blk_alloc ?_ _)); refine blk_far ?_ NB161_162.out _; (with_reducible repeat (first | refine blk_drewN ?_ _ | refine blk_drew ?_ | refine blk_alloc ?_ _)); refine blk_far ?_ NB161_162.out _; (with_reducible repeat (first | refine blk_drewN ?_ _ | refine blk_drew ?_ | refine blk_alloc ?_ _)); refine blk_far ?_ NB161_162.out _; (with_reducible repeat (first | refine blk_drewN ?_ _ | refine blk_drew ?_ | refine blk_alloc ?_ _)); refine blk_far ?_ NB161_162.out _; (with_reducible repeat (first | refine blk_drewN ?_ _ | refine blk_drew ?_ | refine blk_alloc ?_ _)); refine blk_far ?_ NB161_162.out _; (with_reducible repeat (first | refine blk_drewN ?_ _ | refine blk_drew ?_ | refine blk_alloc ?_ _)); exact BK161.out⟩, ⟨by (with_reducible repeat (first | refine blk_drewN ?_ _ | refine blk_drew ?_ | refine blk_alloc ?_ _)); refine blk_put (cs := #[.int .i64 0, .int .i64 (wrap64 (a0 * 100)), .int .i64 0, .int .i64 0, .int .i64 0]) ?_ 4 _ rfl; (with_reducible repeat (first | refine blk_drewN ?_ _ | refine blk_drew ?_ | refine blk_alloc ?_ _)); refine blk_put (cs := #[.int .i64 0, .int .i64 (wrap64 (a0 * 100)), .int .i64 0, .int .i64 0, .int .i64 0]) ?_ 3 _ rfl; (with_reducible repeat (first | refine blk_drewN ?_ _ | refine blk_drew ?_ | refine blk_alloc ?_ _)); refine blk_put (cs := #[.int .i64 0, .int .i64 (wrap64 (a0 * 100)), .int .i64 0, .int .i64 0, .int .i64 0]) ?_ 2 _ rfl; (with_reducible repeat (first | refine blk_drewN ?_ _ | refine blk_drew ?_ | refine blk_alloc ?_ _)); refine blk_put (cs := #[.int .i64 0, .int .i64 0, .int .i64 0, .int .i64 0, .int .i64 0]) ?_ 1 _ rfl; (with_reducible repeat (first | refine blk_drewN ?_ _ | refine blk_drew ?_ | refine blk_alloc ?_ _)); refine blk_put (cs := #[.int .i64 0, .int .i64 0, .int .i64 0, .int .i64 0, .int .i64 0]) ?_ 0 _ rfl; (with_reducible repeat (first | refine blk_drewN ?_ _ | refine blk_drew ?_ | refine blk_alloc ?_ _)); exact BK162.out⟩, ⟨by repeat (first | (with_reducible first | exact HB.out | apply below_alloc | apply pw_below_drewN | apply below_drew1 | refine below_set ?_ GE161.out | refine below_set ?_ GE162.out) | exact HB.out)⟩⟩
 case round =>
  clear H'
  try clear c1
  try clear c2
  try clear p2
  try clear c6
  try clear p6
  try clear hcz7_0
  try clear hcz7_1
  try clear hcz7_2
  try clear hcz7_3
  try clear hcz7_4
  try clear hfz7_0
  try clear hfz7_1
  try clear hfz7_2
  try clear hfz7_3
  try clear hfz7_4
  obtain ⟨x9_1, x10_1, x11_1, x162000_1, x162001_1, x162002_1, x162003_1, x162004_1, x163000_1, x163001_1, x163002_1, x163003_1, rfl, rfl, rfl, HA, HK1, BK161, BK162, HB⟩ := hrel
  cases gk with
  | zero => exact absurd HA.out (by simp [cohousingref32_state.l0])
  | succ k1 =>
   have H := HA.out
   clear HA
   simp only [cohousingref32_state.l0] at H
   by_cases c8 : x11_1 ≤ (l1.length : Int)
   ·rw [if_pos c8] at H
    have c8b0 : decide (x11_1 ≤ (l1.length : Int)) = true := decide_eq_true c8
    clear c8
    have HC9 := Aside0.mk H
    clear H
    go_upto_region 7 with (fail)
    go_cut [12] (fun v12 wc => ∃ (kq : Nat) (x12_8 : Bool), v12 = .bool x12_8 ∧ Aside0 (cohousingref32_state.j1 kq a0 l1 a2 x9_1 x10_1 x11_1 x12_8 x163000_1 x163001_1 x163002_1 x163003_1 0 = some (r1, r2, r3, r4, r5, r6)) ∧ Aside0 (kq ≤ k1) ∧ Aside0 (wc.heap[gb161]? = some (.cells #[.int .i64 x162000_1, .int .i64 x162001_1, .int .i64 x162002_1, .int .i64 x162003_1, .int .i64 x162004_1] 26 (0, 0))) ∧ Aside0 (wc.heap[gb162]? = some (.cells #[.int .i64 x163000_1, .int .i64 x163001_1, .int .i64 x163002_1, .int .i64 x163003_1, .int .i64 0] 26 (0, 0))) ∧ Aside0 (Below w.heap.size w wc))
    case first =>
     have H := HC9.out
     clear HC9
     by_cases c10 : x11_1 = (l1.length : Int)
     ·rw [if_pos c10] at H
      have c10b0 : (x11_1 == (l1.length : Int)) = true := beq_iff_eq.mpr c10
      have c10b1 : (x11_1 != (l1.length : Int)) = false := bne_eq_false_iff_eq.mpr c10
      clear c10
      (first | rw [c10b0] | (simp only [i64_w, i32_w]; rw [c10b0]) | skip)
      have H' := Aside0.mk H
      clear H
      go_wp2
      go_meet
      case rel => exact ⟨_, (true), (by first | rfl | (simp; done) | (simp [*]; done)), H', ⟨by have := HK1.out; first | omega | exact Nat.le_refl _⟩, ⟨by (with_reducible repeat (first | refine blk_drewN ?_ _ | refine blk_drew ?_ | refine blk_alloc ?_ _)); exact BK161.out⟩, ⟨by (with_reducible repeat (first | refine blk_drewN ?_ _ | refine blk_drew ?_ | refine blk_alloc ?_ _)); exact BK162.out⟩, ⟨by repeat (first | (with_reducible first | exact HB.out | apply below_alloc | apply pw_below_drewN | apply below_drew1 | refine below_set ?_ GE161.out | refine below_set ?_ GE162.out) | exact HB.out)⟩⟩
     ·rw [if_neg c10] at H
      have c10b0 : (x11_1 == (l1.length : Int)) = false := beq_eq_false_iff_ne.mpr c10
      have c10b1 : (x11_1 != (l1.length : Int)) = true := bne_iff_ne.mpr c10
      (first | rw [c10b0] | (simp only [i64_w, i32_w]; rw [c10b0]) | skip)
      by_cases c11 : 0 ≤ x11_1
      ·rw [if_pos c11] at H
       have c11b0 : decide (0 ≤ x11_1) = true := decide_eq_true c11
       clear c11
       by_cases c12 : x11_1 < (l1.length : Int)
       ·rw [if_pos c12] at H
        have c12b0 : decide (x11_1 < (l1.length : Int)) = true := decide_eq_true c12
        clear c12
        have H' := Aside0.mk H
        clear H
        have p164 : 0 ≤ (x11_1 : Int) := of_decide_eq_true (by first | (with_reducible assumption) | assumption)
        have q164 : x11_1 < (l1.length : Int) := of_decide_eq_true (by first | (with_reducible assumption) | assumption)
        obtain ⟨ad164, e164, hx164_0, hx164_1, hx164_2⟩ := at_T36 HR1.out x11_1 p164 q164
        cases e164
        replace hx164_0 := (HB.out.cell (World.block_lt_of_cell? w _ hx164_0)).trans hx164_0
        replace hx164_1 := (HB.out.cell (World.block_lt_of_cell? w _ hx164_1)).trans hx164_1
        replace hx164_2 := (HB.out.cell (World.block_lt_of_cell? w _ hx164_2)).trans hx164_2
        replace p164 := eq_true p164
        replace q164 := eq_true q164
        go_wp2
        go_meet
        case rel => exact ⟨_, (decide (((rd_T36 l1 x11_1).f1) > a2)), (by first | rfl | (simp; done) | (simp [*]; done)), H', ⟨by have := HK1.out; first | omega | exact Nat.le_refl _⟩, ⟨by (with_reducible repeat (first | refine blk_drewN ?_ _ | refine blk_drew ?_ | refine blk_alloc ?_ _)); exact BK161.out⟩, ⟨by (with_reducible repeat (first | refine blk_drewN ?_ _ | refine blk_drew ?_ | refine blk_alloc ?_ _)); exact BK162.out⟩, ⟨by repeat (first | (with_reducible first | exact HB.out | apply below_alloc | apply pw_below_drewN | apply below_drew1 | refine below_set ?_ GE161.out | refine below_set ?_ GE162.out) | exact HB.out)⟩⟩
       ·rw [if_neg c12] at H
        exact absurd H (by simp)
      ·rw [if_neg c11] at H
       exact absurd H (by simp)
    case rest =>
     clear HC9
     try clear c1
     try clear p1
     try clear q1
     try clear hx1
     try clear c2
     try clear p2
     try clear c6
     try clear p6
     try clear c8
     try clear c8b0
     try clear c10
     try clear c10b0
     try clear c10b1
     try clear c11
     try clear c11b0
     try clear c12
     try clear c12b0
     try clear hcz7_0
     try clear hcz7_1
     try clear hcz7_2
     try clear hcz7_3
     try clear hcz7_4
     try clear hfz7_0
     try clear hfz7_1
     try clear hfz7_2
     try clear hfz7_3
     try clear hfz7_4
     try clear hx164_0
     try clear hx164_1
     try clear hx164_2
     try clear p164
     try clear p2
     try clear p6
     try clear q164
     obtain ⟨kq, x12_8, rfl, HA, HJ8, BK161, BK162, HB⟩ := hcut
     cases kq with
     | zero => exact absurd HA.out (by simp [cohousingref32_state.j1])
     | succ kj8 =>
      have H := HA.out
      clear HA
      simp only [cohousingref32_state.j1] at H
      have HC13 := Aside0.mk H
      clear H
      go_upto_region 8 with (fail)
      go_cut [56] (fun v56 wc => ∃ (kq : Nat) (x56_12 : Bool), v56 = .bool x56_12 ∧ Aside0 (cohousingref32_state.j2 kq a0 l1 a2 x9_1 x10_1 x11_1 x12_8 x56_12 x163000_1 x163001_1 x163002_1 x163003_1 0 = some (r1, r2, r3, r4, r5, r6)) ∧ Aside0 (kq ≤ kj8) ∧ Aside0 (wc.heap[gb161]? = some (.cells #[.int .i64 x162000_1, .int .i64 x162001_1, .int .i64 x162002_1, .int .i64 x162003_1, .int .i64 x162004_1] 26 (0, 0))) ∧ Aside0 (wc.heap[gb162]? = some (.cells #[.int .i64 x163000_1, .int .i64 x163001_1, .int .i64 x163002_1, .int .i64 x163003_1, .int .i64 0] 26 (0, 0))) ∧ Aside0 (Below w.heap.size w wc))
      case first =>
       have H := HC13.out
       clear HC13
       by_cases c14 : x12_8 = true
       ·subst c14
        have H1 : (cohousingref32_state.j2 kj8 a0 l1 a2 x9_1 x10_1 x11_1 true true x163000_1 x163001_1 x163002_1 x163003_1 0) = some (r1, r2, r3, r4, r5, r6) := by rw [if_pos rfl] at H; exact H
        clear H
        have H := H1
        clear H1
        have H' := Aside0.mk H
        clear H
        go_wp2
        go_meet
        case rel => exact ⟨_, (true), (by first | rfl | (simp; done) | (simp [*]; done)), H', ⟨by have := HK1.out; have := HJ8.out; first | omega | exact Nat.le_refl _⟩, ⟨by (with_reducible repeat (first | refine blk_drewN ?_ _ | refine blk_drew ?_ | refine blk_alloc ?_ _)); exact BK161.out⟩, ⟨by (with_reducible repeat (first | refine blk_drewN ?_ _ | refine blk_drew ?_ | refine blk_alloc ?_ _)); exact BK162.out⟩, ⟨by repeat (first | (with_reducible first | exact HB.out | apply below_alloc | apply pw_below_drewN | apply below_drew1 | refine below_set ?_ GE161.out | refine below_set ?_ GE162.out) | exact HB.out)⟩⟩
       ·replace c14 := Bool.eq_false_iff.mpr c14
        subst c14
        have H1 : (if 0 ≤ x11_1 then (if x11_1 < (l1.length : Int) then (if ((rd_T36 l1 x11_1).f0) = 1 then (cohousingref32_state.j2 kj8 a0 l1 a2 x9_1 x10_1 x11_1 false true x163000_1 x163001_1 x163002_1 x163003_1 0) else (cohousingref32_state.j2 kj8 a0 l1 a2 x9_1 x10_1 x11_1 false (((rd_T36 l1 x11_1).f0) == 3) x163000_1 x163001_1 x163002_1 x163003_1 0)) else (none)) else (none)) = some (r1, r2, r3, r4, r5, r6) := by rw [if_neg (show ¬ (false = true) by decide)] at H; exact H
        clear H
        have H := H1
        clear H1
        by_cases c15 : 0 ≤ x11_1
        ·rw [if_pos c15] at H
         have c15b0 : decide (0 ≤ x11_1) = true := decide_eq_true c15
         clear c15
         (first | rw [c15b0] | (simp only [i64_w, i32_w]; rw [c15b0]) | skip)
         by_cases c16 : x11_1 < (l1.length : Int)
         ·rw [if_pos c16] at H
          have c16b0 : decide (x11_1 < (l1.length : Int)) = true := decide_eq_true c16
          clear c16
          by_cases c17 : ((rd_T36 l1 x11_1).f0) = 1
          ·rw [if_pos c17] at H
           have c17b0 : (((rd_T36 l1 x11_1).f0) == 1) = true := beq_iff_eq.mpr c17
           have c17b1 : (((rd_T36 l1 x11_1).f0) != 1) = false := bne_eq_false_iff_eq.mpr c17
           clear c17
           have H' := Aside0.mk H
           clear H
           have p165 : 0 ≤ (x11_1 : Int) := of_decide_eq_true (by first | (with_reducible assumption) | assumption)
           have q165 : x11_1 < (l1.length : Int) := of_decide_eq_true (by first | (with_reducible assumption) | assumption)
           obtain ⟨ad165, e165, hx165_0, hx165_1, hx165_2⟩ := at_T36 HR1.out x11_1 p165 q165
           cases e165
           replace hx165_0 := (HB.out.cell (World.block_lt_of_cell? w _ hx165_0)).trans hx165_0
           replace hx165_1 := (HB.out.cell (World.block_lt_of_cell? w _ hx165_1)).trans hx165_1
           replace hx165_2 := (HB.out.cell (World.block_lt_of_cell? w _ hx165_2)).trans hx165_2
           replace p165 := eq_true p165
           replace q165 := eq_true q165
           go_wp2
           go_meet
           case rel => exact ⟨_, (true), (by first | rfl | (simp; done) | (simp [*]; done)), H', ⟨by have := HK1.out; have := HJ8.out; first | omega | exact Nat.le_refl _⟩, ⟨by (with_reducible repeat (first | refine blk_drewN ?_ _ | refine blk_drew ?_ | refine blk_alloc ?_ _)); exact BK161.out⟩, ⟨by (with_reducible repeat (first | refine blk_drewN ?_ _ | refine blk_drew ?_ | refine blk_alloc ?_ _)); exact BK162.out⟩, ⟨by repeat (first | (with_reducible first | exact HB.out | apply below_alloc | apply pw_below_drewN | apply below_drew1 | refine below_set ?_ GE161.out | refine below_set ?_ GE162.out) | exact HB.out)⟩⟩
          ·rw [if_neg c17] at H
           have c17b0 : (((rd_T36 l1 x11_1).f0) == 1) = false := beq_eq_false_iff_ne.mpr c17
           have c17b1 : (((rd_T36 l1 x11_1).f0) != 1) = true := bne_iff_ne.mpr c17
           have H' := Aside0.mk H
           clear H
           have p165 : 0 ≤ (x11_1 : Int) := of_decide_eq_true (by first | (with_reducible assumption) | assumption)
           have q165 : x11_1 < (l1.length : Int) := of_decide_eq_true (by first | (with_reducible assumption) | assumption)
           obtain ⟨ad165, e165, hx165_0, hx165_1, hx165_2⟩ := at_T36 HR1.out x11_1 p165 q165
           cases e165
           replace hx165_0 := (HB.out.cell (World.block_lt_of_cell? w _ hx165_0)).trans hx165_0
           replace hx165_1 := (HB.out.cell (World.block_lt_of_cell? w _ hx165_1)).trans hx165_1
           replace hx165_2 := (HB.out.cell (World.block_lt_of_cell? w _ hx165_2)).trans hx165_2
           replace p165 := eq_true p165
           replace q165 := eq_true q165
           have p166 : 0 ≤ (x11_1 : Int) := of_decide_eq_true (by first | (with_reducible assumption) | assumption)
           have q166 : x11_1 < (l1.length : Int) := of_decide_eq_true (by first | (with_reducible assumption) | assumption)
           obtain ⟨ad166, e166, hx166_0, hx166_1, hx166_2⟩ := at_T36 HR1.out x11_1 p166 q166
           obtain rfl : ad165 = ad166 := (by injection e166)
           replace hx166_0 := (HB.out.cell (World.block_lt_of_cell? w _ hx166_0)).trans hx166_0
           replace hx166_1 := (HB.out.cell (World.block_lt_of_cell? w _ hx166_1)).trans hx166_1
           replace hx166_2 := (HB.out.cell (World.block_lt_of_cell? w _ hx166_2)).trans hx166_2
           replace p166 := eq_true p166
           replace q166 := eq_true q166
           go_wp2
           go_meet
           case rel => exact ⟨_, ((((rd_T36 l1 x11_1).f0) == 3)), (by first | rfl | (simp; done) | (simp [*]; done)), H', ⟨by have := HK1.out; have := HJ8.out; first | omega | exact Nat.le_refl _⟩, ⟨by (with_reducible repeat (first | refine blk_drewN ?_ _ | refine blk_drew ?_ | refine blk_alloc ?_ _)); exact BK161.out⟩, ⟨by (with_reducible repeat (first | refine blk_drewN ?_ _ | refine blk_drew ?_ | refine blk_alloc ?_ _)); exact BK162.out⟩, ⟨by repeat (first | (with_reducible first | exact HB.out | apply below_alloc | apply pw_below_drewN | apply below_drew1 | refine below_set ?_ GE161.out | refine below_set ?_ GE162.out) | exact HB.out)⟩⟩
         ·rw [if_neg c16] at H
          exact absurd H (by simp)
        ·rw [if_neg c15] at H
         exact absurd H (by simp)
      case rest =>
       clear HC13
       try clear c1
       try clear p1
       try clear q1
       try clear hx1
       try clear c2
       try clear p2
       try clear c6
       try clear p6
       try clear c8
       try clear c8b0
       try clear c10
       try clear c10b0
       try clear c10b1
       try clear c11
       try clear c11b0
       try clear c12
       try clear c12b0
       try clear c14
       try clear c15
       try clear c15b0
       try clear c16
       try clear c16b0
       try clear p16
       try clear q16
       try clear hx16
       try clear c17
       try clear c17b0
       try clear c17b1
       try clear hcz7_0
       try clear hcz7_1
       try clear hcz7_2
       try clear hcz7_3
       try clear hcz7_4
       try clear hfz7_0
       try clear hfz7_1
       try clear hfz7_2
       try clear hfz7_3
       try clear hfz7_4
       try clear hx164_0
       try clear hx164_1
       try clear hx164_2
       try clear hx165_0
       try clear hx165_1
       try clear hx165_2
       try clear hx166_0
       try clear hx166_1
       try clear hx166_2
       try clear p1
       try clear p164
       try clear p165
       try clear p166
       try clear p2
       try clear p6
       try clear q1
       try clear q164
       try clear q165
       try clear q166
       obtain ⟨kq, x56_12, rfl, HA, HJ12, BK161, BK162, HB⟩ := hcut
       cases kq with
       | zero => exact absurd HA.out (by simp [cohousingref32_state.j2])
       | succ kj12 =>
        have H := HA.out
        clear HA
        simp only [cohousingref32_state.j2] at H
        have HC18 := Aside0.mk H
        clear H
        go_upto_if 56 with (fail)
        go_cut [10] (fun v10 wc => ∃ (kq : Nat) (x10_17 : Int) (x162000_17 : Int) (x162001_17 : Int) (x162002_17 : Int) (x162003_17 : Int) (x162004_17 : Int) (x163002_17 : Int), v10 = .int .i64 x10_17 ∧ Aside0 (cohousingref32_state.j4 kq a0 l1 a2 x9_1 x10_17 x11_1 x12_8 x163000_1 x163001_1 x163002_17 x163003_1 0 = some (r1, r2, r3, r4, r5, r6)) ∧ Aside0 (kq ≤ kj12) ∧ Aside0 (wc.heap[gb161]? = some (.cells #[.int .i64 x162000_17, .int .i64 x162001_17, .int .i64 x162002_17, .int .i64 x162003_17, .int .i64 x162004_17] 26 (0, 0))) ∧ Aside0 (wc.heap[gb162]? = some (.cells #[.int .i64 x163000_1, .int .i64 x163001_1, .int .i64 x163002_17, .int .i64 x163003_1, .int .i64 0] 26 (0, 0))) ∧ Aside0 (Below w.heap.size w wc))
        case first =>
         have H := HC18.out
         clear HC18
         by_cases c19 : x56_12 = true
         ·subst c19
          have H1 : (if x12_8 = true then (cohousingref32_state.j3 kj12 a0 l1 a2 x9_1 x10_1 x11_1 x12_8 a2 x163000_1 x163001_1 x163002_1 x163003_1 0) else (if 0 ≤ x11_1 then (if x11_1 < (l1.length : Int) then (cohousingref32_state.j3 kj12 a0 l1 a2 x9_1 x10_1 x11_1 x12_8 ((rd_T36 l1 x11_1).f1) x163000_1 x163001_1 x163002_1 x163003_1 0) else (none)) else (none))) = some (r1, r2, r3, r4, r5, r6) := by rw [if_pos rfl] at H; exact H
          clear H
          have H := H1
          clear H1
          have HC20 := Aside0.mk H
          clear H
          go_upto_if 59 with (fail)
          go_cut [13] (fun v13 wc => ∃ (kq : Nat) (x13_19 : Int), v13 = .int .i64 x13_19 ∧ Aside0 (cohousingref32_state.j3 kq a0 l1 a2 x9_1 x10_1 x11_1 x12_8 x13_19 x163000_1 x163001_1 x163002_1 x163003_1 0 = some (r1, r2, r3, r4, r5, r6)) ∧ Aside0 (kq ≤ kj12) ∧ Aside0 (wc.heap[gb161]? = some (.cells #[.int .i64 x162000_1, .int .i64 x162001_1, .int .i64 x162002_1, .int .i64 x162003_1, .int .i64 x162004_1] 26 (0, 0))) ∧ Aside0 (wc.heap[gb162]? = some (.cells #[.int .i64 x163000_1, .int .i64 x163001_1, .int .i64 x163002_1, .int .i64 x163003_1, .int .i64 0] 26 (0, 0))) ∧ Aside0 (Below w.heap.size w wc))
          case first =>
           have H := HC20.out
           clear HC20
           by_cases c21 : x12_8 = true
           ·subst c21
            have H1 : (cohousingref32_state.j3 kj12 a0 l1 a2 x9_1 x10_1 x11_1 true a2 x163000_1 x163001_1 x163002_1 x163003_1 0) = some (r1, r2, r3, r4, r5, r6) := by rw [if_pos rfl] at H; exact H
            clear H
            have H := H1
            clear H1
            have H' := Aside0.mk H
            clear H
            go_wp2
            go_meet
            case rel => exact ⟨_, (a2), (by first | rfl | (simp; done) | (simp [*]; done)), H', ⟨by have := HK1.out; have := HJ8.out; have := HJ12.out; first | omega | exact Nat.le_refl _⟩, ⟨by (with_reducible repeat (first | refine blk_drewN ?_ _ | refine blk_drew ?_ | refine blk_alloc ?_ _)); exact BK161.out⟩, ⟨by (with_reducible repeat (first | refine blk_drewN ?_ _ | refine blk_drew ?_ | refine blk_alloc ?_ _)); exact BK162.out⟩, ⟨by repeat (first | (with_reducible first | exact HB.out | apply below_alloc | apply pw_below_drewN | apply below_drew1 | refine below_set ?_ GE161.out | refine below_set ?_ GE162.out) | exact HB.out)⟩⟩
           ·replace c21 := Bool.eq_false_iff.mpr c21
            subst c21
            have H1 : (if 0 ≤ x11_1 then (if x11_1 < (l1.length : Int) then (cohousingref32_state.j3 kj12 a0 l1 a2 x9_1 x10_1 x11_1 false ((rd_T36 l1 x11_1).f1) x163000_1 x163001_1 x163002_1 x163003_1 0) else (none)) else (none)) = some (r1, r2, r3, r4, r5, r6) := by rw [if_neg (show ¬ (false = true) by decide)] at H; exact H
            clear H
            have H := H1
            clear H1
            by_cases c22 : 0 ≤ x11_1
            ·rw [if_pos c22] at H
             have c22b0 : decide (0 ≤ x11_1) = true := decide_eq_true c22
             clear c22
             (first | rw [c22b0] | (simp only [i64_w, i32_w]; rw [c22b0]) | skip)
             by_cases c23 : x11_1 < (l1.length : Int)
             ·rw [if_pos c23] at H
              have c23b0 : decide (x11_1 < (l1.length : Int)) = true := decide_eq_true c23
              clear c23
              have H' := Aside0.mk H
              clear H
              have p167 : 0 ≤ (x11_1 : Int) := of_decide_eq_true (by first | (with_reducible assumption) | assumption)
              have q167 : x11_1 < (l1.length : Int) := of_decide_eq_true (by first | (with_reducible assumption) | assumption)
              obtain ⟨ad167, e167, hx167_0, hx167_1, hx167_2⟩ := at_T36 HR1.out x11_1 p167 q167
              cases e167
              replace hx167_0 := (HB.out.cell (World.block_lt_of_cell? w _ hx167_0)).trans hx167_0
              replace hx167_1 := (HB.out.cell (World.block_lt_of_cell? w _ hx167_1)).trans hx167_1
              replace hx167_2 := (HB.out.cell (World.block_lt_of_cell? w _ hx167_2)).trans hx167_2
              replace p167 := eq_true p167
              replace q167 := eq_true q167
              go_wp2
              go_meet
              case rel => exact ⟨_, ((rd_T36 l1 x11_1).f1), (by first | rfl | (simp; done) | (simp [*]; done)), H', ⟨by have := HK1.out; have := HJ8.out; have := HJ12.out; first | omega | exact Nat.le_refl _⟩, ⟨by (with_reducible repeat (first | refine blk_drewN ?_ _ | refine blk_drew ?_ | refine blk_alloc ?_ _)); exact BK161.out⟩, ⟨by (with_reducible repeat (first | refine blk_drewN ?_ _ | refine blk_drew ?_ | refine blk_alloc ?_ _)); exact BK162.out⟩, ⟨by repeat (first | (with_reducible first | exact HB.out | apply below_alloc | apply pw_below_drewN | apply below_drew1 | refine below_set ?_ GE161.out | refine below_set ?_ GE162.out) | exact HB.out)⟩⟩
             ·rw [if_neg c23] at H
              exact absurd H (by simp)
            ·rw [if_neg c22] at H
             exact absurd H (by simp)
          case rest =>
           clear HC20
           try clear c1
           try clear p1
           try clear q1
           try clear hx1
           try clear c2
           try clear p2
           try clear c6
           try clear p6
           try clear c8
           try clear c8b0
           try clear c10
           try clear c10b0
           try clear c10b1
           try clear c11
           try clear c11b0
           try clear c12
           try clear c12b0
           try clear c14
           try clear c15
           try clear c15b0
           try clear c16
           try clear c16b0
           try clear p16
           try clear q16
           try clear hx16
           try clear c17
           try clear c17b0
           try clear c17b1
           try clear c19
           try clear c21
           try clear c22
           try clear c22b0
           try clear c23
           try clear c23b0
           try clear hcz7_0
           try clear hcz7_1
           try clear hcz7_2
           try clear hcz7_3
           try clear hcz7_4
           try clear hfz7_0
           try clear hfz7_1
           try clear hfz7_2
           try clear hfz7_3
           try clear hfz7_4
           try clear hx164_0
           try clear hx164_1
           try clear hx164_2
           try clear hx165_0
           try clear hx165_1
           try clear hx165_2
           try clear hx166_0
           try clear hx166_1
           try clear hx166_2
           try clear hx167_0
           try clear hx167_1
           try clear hx167_2
           try clear p1
           try clear p16
           try clear p164
           try clear p165
           try clear p166
           try clear p167
           try clear p2
           try clear p6
           try clear q1
           try clear q16
           try clear q164
           try clear q165
           try clear q166
           try clear q167
           obtain ⟨kq, x13_19, rfl, HA, HJ19, BK161, BK162, HB⟩ := hcut
           cases kq with
           | zero => exact absurd HA.out (by simp [cohousingref32_state.j3])
           | succ kj19 =>
            have H := HA.out
            clear HA
            simp only [cohousingref32_state.j3] at H
            replace H := Option.bind_eq_some_iff.mp H
            obtain ⟨⟨t168, t169⟩, A240, H⟩ := H
            replace H : ((cohousingref02_Amount.f (wrap64 (x163002_1 + t168))).bind fun t170 => (if t169 = 0 then (if t170 = true then (cohousingref32_state.j4 kj19 a0 l1 a2 x9_1 x13_19 x11_1 x12_8 x163000_1 x163001_1 (wrap64 (x163002_1 + t168)) x163003_1 0) else (some (0, 0, 0, 0, 0, 3))) else (some (0, 0, 0, 0, 0, 3)))) = some (r1, r2, r3, r4, r5, r6) := H
            have A24 := Aside0.mk A240
            clear A240
            replace H := Option.bind_eq_some_iff.mp H
            obtain ⟨t170, A250, H⟩ := H
            replace H : (if t169 = 0 then (if t170 = true then (cohousingref32_state.j4 kj19 a0 l1 a2 x9_1 x13_19 x11_1 x12_8 x163000_1 x163001_1 (wrap64 (x163002_1 + t168)) x163003_1 0) else (some (0, 0, 0, 0, 0, 3))) else (some (0, 0, 0, 0, 0, 3))) = some (r1, r2, r3, r4, r5, r6) := H
            have A25 := Aside0.mk A250
            clear A250
            by_cases c26 : t169 = 0
            ·rw [if_pos c26] at H
             have c26b0 : (t169 == 0) = true := beq_iff_eq.mpr c26
             have c26b1 : (t169 != 0) = false := bne_eq_false_iff_eq.mpr c26
             clear c26
             by_cases c27 : t170 = true
             ·subst c27
              have H1 : (cohousingref32_state.j4 kj19 a0 l1 a2 x9_1 x13_19 x11_1 x12_8 x163000_1 x163001_1 (wrap64 (x163002_1 + t168)) x163003_1 0) = some (r1, r2, r3, r4, r5, r6) := by rw [if_pos rfl] at H; exact H
              clear H
              have H := H1
              clear H1
              have H' := Aside0.mk H
              clear H
              have hnb28 := NB162_161.out
              have hnc28 := NB161_162.out
              have hcz29_0 : wc.cell? ⟨gb162, 0, none⟩ = some (.int .i64 x163000_1) := (blk_cell BK162.out 0).trans rfl
              have hcz29_1 : wc.cell? ⟨gb162, 1, none⟩ = some (.int .i64 x163001_1) := (blk_cell BK162.out 1).trans rfl
              have hcz29_2 : wc.cell? ⟨gb162, 2, none⟩ = some (.int .i64 x163002_1) := (blk_cell BK162.out 2).trans rfl
              have hcz29_3 : wc.cell? ⟨gb162, 3, none⟩ = some (.int .i64 x163003_1) := (blk_cell BK162.out 3).trans rfl
              have hcz29_4 : wc.cell? ⟨gb162, 4, none⟩ = some (.int .i64 0) := (blk_cell BK162.out 4).trans rfl
              have hfz29_0 := blk_frozen BK162.out 0
              have hfz29_1 := blk_frozen BK162.out 1
              have hfz29_2 := blk_frozen BK162.out 2
              have hfz29_3 := blk_frozen BK162.out 3
              have hfz29_4 := blk_frozen BK162.out 4
              go_wp2_with (first | ((with_reducible refine gate_callee (f := 37) rfl ?_); refine goesL_ (some 72) rfl rfl Tryd.func37 (by kernel_rfl) rfl #[.int .i64 x163000_1, .int .i64 x9_1, .int .i64 (wrap64 (x13_19 - x10_1))] rfl (by (try simp only [List.map_toArray, List.map_cons, List.map_nil]); first | done | rfl | (simp only [List.length_drop, List.length_take]; rfl)) ?_; (with_reducible refine (cohousingref32_Interest.calls kj19 x163000_1 x9_1 (wrap64 (x13_19 - x10_1)) t168 t169 _ A24.out).mono ?_); rintro e w30 ⟨rfl, hb⟩; refine ⟨_, rfl, ?_⟩; have n0_ := Aside0.mk (blk_below (g := gb161) (o := .cells #[.int .i64 x162000_1, .int .i64 x162001_1, .int .i64 x162002_1, .int .i64 x162003_1, .int .i64 x162004_1] 26 (0, 0)) (by (with_reducible repeat (first | refine blk_drewN ?_ _ | refine blk_drew ?_ | refine blk_alloc ?_ _)); exact BK161.out) hb); have n1_ := Aside0.mk (blk_below (g := gb162) (o := .cells #[.int .i64 x163000_1, .int .i64 x163001_1, .int .i64 x163002_1, .int .i64 x163003_1, .int .i64 0] 26 (0, 0)) (by (with_reducible repeat (first | refine blk_drewN ?_ _ | refine blk_drew ?_ | refine blk_alloc ?_ _)); exact BK162.out) hb); have n2_ := Aside0.mk (below_step (by repeat (first | (with_reducible first | exact HB.out | apply below_alloc | apply pw_below_drewN | apply below_drew1 | refine below_set ?_ GE161.out | refine below_set ?_ GE162.out) | exact HB.out)) hb); clear BK161; clear BK162; clear HB; have BK161 := n0_; have BK162 := n1_; have HB := n2_; clear n0_ n1_ n2_; (try clear hb); (try clear hb2); (try clear hk); (try clear hi); have hcz31_0 : w30.cell? ⟨gb162, 0, none⟩ = some (.int .i64 x163000_1) := (blk_cell BK162.out 0).trans rfl; have hcz31_1 : w30.cell? ⟨gb162, 1, none⟩ = some (.int .i64 x163001_1) := (blk_cell BK162.out 1).trans rfl; have hcz31_2 : w30.cell? ⟨gb162, 2, none⟩ = some (.int .i64 x163002_1) := (blk_cell BK162.out 2).trans rfl; have hcz31_3 : w30.cell? ⟨gb162, 3, none⟩ = some (.int .i64 x163003_1) := (blk_cell BK162.out 3).trans rfl; have hcz31_4 : w30.cell? ⟨gb162, 4, none⟩ = some (.int .i64 0) := (blk_cell BK162.out 4).trans rfl; have hfz31_0 := blk_frozen BK162.out 0; have hfz31_1 := blk_frozen BK162.out 1; have hfz31_2 := blk_frozen BK162.out 2; have hfz31_3 := blk_frozen BK162.out 3; have hfz31_4 := blk_frozen BK162.out 4) | ((with_reducible refine gate_callee (f := 31) rfl ?_); refine goesL_ (some 82) rfl rfl Tryd.func31 (by kernel_rfl) rfl #[.int .i64 (wrap64 (x163002_1 + t168))] rfl (by (try simp only [List.map_toArray, List.map_cons, List.map_nil]); first | done | rfl | (simp only [List.length_drop, List.length_take]; rfl)) ?_; (with_reducible refine (cohousingref02_Amount.calls (wrap64 (x163002_1 + t168)) true _ A25.out).mono ?_); rintro e w' ⟨rfl, ⟨nd, rfl⟩⟩; refine ⟨_, rfl, ?_⟩))
              go_meet
              case rel => exact ⟨_, (x13_19), (x162000_1), (x162001_1), (x162002_1), (x162003_1), (x162004_1), (wrap64 (x163002_1 + t168)), (by first | rfl | (simp; done) | (simp [*]; done)), H', ⟨by have := HK1.out; have := HJ8.out; have := HJ12.out; have := HJ19.out; first | omega | exact Nat.le_refl _⟩, ⟨by (with_reducible repeat (first | refine blk_drewN ?_ _ | refine blk_drew ?_ | refine blk_alloc ?_ _)); refine blk_far ?_ NB161_162.out _; (with_reducible repeat (first | refine blk_drewN ?_ _ | refine blk_drew ?_ | refine blk_alloc ?_ _)); exact BK161.out⟩, ⟨by (with_reducible repeat (first | refine blk_drewN ?_ _ | refine blk_drew ?_ | refine blk_alloc ?_ _)); refine blk_put (cs := #[.int .i64 x163000_1, .int .i64 x163001_1, .int .i64 x163002_1, .int .i64 x163003_1, .int .i64 0]) ?_ 2 _ rfl; (with_reducible repeat (first | refine blk_drewN ?_ _ | refine blk_drew ?_ | refine blk_alloc ?_ _)); exact BK162.out⟩, ⟨by repeat (first | (with_reducible first | exact HB.out | apply below_alloc | apply pw_below_drewN | apply below_drew1 | refine below_set ?_ GE161.out | refine below_set ?_ GE162.out) | exact HB.out)⟩⟩
             ·replace c27 := Bool.eq_false_iff.mpr c27
              subst c27
              have H1 : (some (0, 0, 0, 0, 0, 3)) = some (r1, r2, r3, r4, r5, r6) := by rw [if_neg (show ¬ (false = true) by decide)] at H; exact H
              clear H
              have H := H1
              clear H1
              simp only [Option.some.injEq, Prod.mk.injEq] at H
              obtain ⟨rfl, rfl, rfl, rfl, rfl, rfl⟩ := H
              have hnb32 := NB162_161.out
              have hnc32 := NB161_162.out
              have hcz33_0 : wc.cell? ⟨gb162, 0, none⟩ = some (.int .i64 x163000_1) := (blk_cell BK162.out 0).trans rfl
              have hcz33_1 : wc.cell? ⟨gb162, 1, none⟩ = some (.int .i64 x163001_1) := (blk_cell BK162.out 1).trans rfl
              have hcz33_2 : wc.cell? ⟨gb162, 2, none⟩ = some (.int .i64 x163002_1) := (blk_cell BK162.out 2).trans rfl
              have hcz33_3 : wc.cell? ⟨gb162, 3, none⟩ = some (.int .i64 x163003_1) := (blk_cell BK162.out 3).trans rfl
              have hcz33_4 : wc.cell? ⟨gb162, 4, none⟩ = some (.int .i64 0) := (blk_cell BK162.out 4).trans rfl
              have hfz33_0 := blk_frozen BK162.out 0
              have hfz33_1 := blk_frozen BK162.out 1
              have hfz33_2 := blk_frozen BK162.out 2
              have hfz33_3 := blk_frozen BK162.out 3
              have hfz33_4 := blk_frozen BK162.out 4
              go_wp2_with (first | ((with_reducible refine gate_callee (f := 37) rfl ?_); refine goesL_ (some 72) rfl rfl Tryd.func37 (by kernel_rfl) rfl #[.int .i64 x163000_1, .int .i64 x9_1, .int .i64 (wrap64 (x13_19 - x10_1))] rfl (by (try simp only [List.map_toArray, List.map_cons, List.map_nil]); first | done | rfl | (simp only [List.length_drop, List.length_take]; rfl)) ?_; (with_reducible refine (cohousingref32_Interest.calls kj19 x163000_1 x9_1 (wrap64 (x13_19 - x10_1)) t168 t169 _ A24.out).mono ?_); rintro e w34 ⟨rfl, hb⟩; refine ⟨_, rfl, ?_⟩; have n0_ := Aside0.mk (blk_below (g := gb161) (o := .cells #[.int .i64 x162000_1, .int .i64 x162001_1, .int .i64 x162002_1, .int .i64 x162003_1, .int .i64 x162004_1] 26 (0, 0)) (by (with_reducible repeat (first | refine blk_drewN ?_ _ | refine blk_drew ?_ | refine blk_alloc ?_ _)); exact BK161.out) hb); have n1_ := Aside0.mk (blk_below (g := gb162) (o := .cells #[.int .i64 x163000_1, .int .i64 x163001_1, .int .i64 x163002_1, .int .i64 x163003_1, .int .i64 0] 26 (0, 0)) (by (with_reducible repeat (first | refine blk_drewN ?_ _ | refine blk_drew ?_ | refine blk_alloc ?_ _)); exact BK162.out) hb); have n2_ := Aside0.mk (below_step (by repeat (first | (with_reducible first | exact HB.out | apply below_alloc | apply pw_below_drewN | apply below_drew1 | refine below_set ?_ GE161.out | refine below_set ?_ GE162.out) | exact HB.out)) hb); clear BK161; clear BK162; clear HB; have BK161 := n0_; have BK162 := n1_; have HB := n2_; clear n0_ n1_ n2_; (try clear hb); (try clear hb2); (try clear hk); (try clear hi); have hcz35_0 : w34.cell? ⟨gb162, 0, none⟩ = some (.int .i64 x163000_1) := (blk_cell BK162.out 0).trans rfl; have hcz35_1 : w34.cell? ⟨gb162, 1, none⟩ = some (.int .i64 x163001_1) := (blk_cell BK162.out 1).trans rfl; have hcz35_2 : w34.cell? ⟨gb162, 2, none⟩ = some (.int .i64 x163002_1) := (blk_cell BK162.out 2).trans rfl; have hcz35_3 : w34.cell? ⟨gb162, 3, none⟩ = some (.int .i64 x163003_1) := (blk_cell BK162.out 3).trans rfl; have hcz35_4 : w34.cell? ⟨gb162, 4, none⟩ = some (.int .i64 0) := (blk_cell BK162.out 4).trans rfl; have hfz35_0 := blk_frozen BK162.out 0; have hfz35_1 := blk_frozen BK162.out 1; have hfz35_2 := blk_frozen BK162.out 2; have hfz35_3 := blk_frozen BK162.out 3; have hfz35_4 := blk_frozen BK162.out 4) | ((with_reducible refine gate_callee (f := 31) rfl ?_); refine goesL_ (some 82) rfl rfl Tryd.func31 (by kernel_rfl) rfl #[.int .i64 (wrap64 (x163002_1 + t168))] rfl (by (try simp only [List.map_toArray, List.map_cons, List.map_nil]); first | done | rfl | (simp only [List.length_drop, List.length_take]; rfl)) ?_; (with_reducible refine (cohousingref02_Amount.calls (wrap64 (x163002_1 + t168)) false _ A25.out).mono ?_); rintro e w' ⟨rfl, ⟨nd, rfl⟩⟩; refine ⟨_, rfl, ?_⟩; have hcz36_0 : w34.cell? ⟨gb161, 0, none⟩ = some (.int .i64 x162000_1) := (blk_cell BK161.out 0).trans rfl; have hcz36_1 : w34.cell? ⟨gb161, 1, none⟩ = some (.int .i64 x162001_1) := (blk_cell BK161.out 1).trans rfl; have hcz36_2 : w34.cell? ⟨gb161, 2, none⟩ = some (.int .i64 x162002_1) := (blk_cell BK161.out 2).trans rfl; have hcz36_3 : w34.cell? ⟨gb161, 3, none⟩ = some (.int .i64 x162003_1) := (blk_cell BK161.out 3).trans rfl; have hcz36_4 : w34.cell? ⟨gb161, 4, none⟩ = some (.int .i64 x162004_1) := (blk_cell BK161.out 4).trans rfl; have hfz36_0 := blk_frozen BK161.out 0; have hfz36_1 := blk_frozen BK161.out 1; have hfz36_2 := blk_frozen BK161.out 2; have hfz36_3 := blk_frozen BK161.out 3; have hfz36_4 := blk_frozen BK161.out 4))
              refine bodyPost_ret (results_ct rfl _ _ gb161 26 #[.int .i64 0, .int .i64 0, .int .i64 0, .int .i64 0, .int .i64 0] (0, 0) _ rfl (by (with_reducible repeat (first | refine blk_drewN ?_ _ | refine blk_drew ?_ | refine blk_alloc ?_ _)); refine blk_put (cs := #[.int .i64 0, .int .i64 0, .int .i64 0, .int .i64 0, .int .i64 x162004_1]) ?_ 4 _ rfl; (with_reducible repeat (first | refine blk_drewN ?_ _ | refine blk_drew ?_ | refine blk_alloc ?_ _)); refine blk_put (cs := #[.int .i64 0, .int .i64 0, .int .i64 0, .int .i64 x162003_1, .int .i64 x162004_1]) ?_ 3 _ rfl; (with_reducible repeat (first | refine blk_drewN ?_ _ | refine blk_drew ?_ | refine blk_alloc ?_ _)); refine blk_put (cs := #[.int .i64 0, .int .i64 0, .int .i64 x162002_1, .int .i64 x162003_1, .int .i64 x162004_1]) ?_ 2 _ rfl; (with_reducible repeat (first | refine blk_drewN ?_ _ | refine blk_drew ?_ | refine blk_alloc ?_ _)); refine blk_put (cs := #[.int .i64 0, .int .i64 x162001_1, .int .i64 x162002_1, .int .i64 x162003_1, .int .i64 x162004_1]) ?_ 1 _ rfl; (with_reducible repeat (first | refine blk_drewN ?_ _ | refine blk_drew ?_ | refine blk_alloc ?_ _)); refine blk_put (cs := #[.int .i64 x162000_1, .int .i64 x162001_1, .int .i64 x162002_1, .int .i64 x162003_1, .int .i64 x162004_1]) ?_ 0 _ rfl; (with_reducible repeat (first | refine blk_drewN ?_ _ | refine blk_drew ?_ | refine blk_alloc ?_ _)); refine blk_far ?_ NB161_162.out _; (with_reducible repeat (first | refine blk_drewN ?_ _ | refine blk_drew ?_ | refine blk_alloc ?_ _)); exact BK161.out) Tryd.underlying26 rfl (by kernel_rfl)) rfl ?_
              exact ⟨by first | rfl | (simp [errW_none, errW_some] <;> rfl) | (simp [*, errW_none, errW_some] <;> rfl), by repeat (first | (with_reducible first | exact HB.out | apply below_alloc | apply pw_below_drewN | apply below_drew1 | refine below_set ?_ GE161.out | refine below_set ?_ GE162.out) | exact HB.out)⟩
            ·rw [if_neg c26] at H
             have c26b0 : (t169 == 0) = false := beq_eq_false_iff_ne.mpr c26
             have c26b1 : (t169 != 0) = true := bne_iff_ne.mpr c26
             simp only [Option.some.injEq, Prod.mk.injEq] at H
             obtain ⟨rfl, rfl, rfl, rfl, rfl, rfl⟩ := H
             have hnb37 := NB162_161.out
             have hnc37 := NB161_162.out
             have hcz38_0 : wc.cell? ⟨gb162, 0, none⟩ = some (.int .i64 x163000_1) := (blk_cell BK162.out 0).trans rfl
             have hcz38_1 : wc.cell? ⟨gb162, 1, none⟩ = some (.int .i64 x163001_1) := (blk_cell BK162.out 1).trans rfl
             have hcz38_2 : wc.cell? ⟨gb162, 2, none⟩ = some (.int .i64 x163002_1) := (blk_cell BK162.out 2).trans rfl
             have hcz38_3 : wc.cell? ⟨gb162, 3, none⟩ = some (.int .i64 x163003_1) := (blk_cell BK162.out 3).trans rfl
             have hcz38_4 : wc.cell? ⟨gb162, 4, none⟩ = some (.int .i64 0) := (blk_cell BK162.out 4).trans rfl
             have hfz38_0 := blk_frozen BK162.out 0
             have hfz38_1 := blk_frozen BK162.out 1
             have hfz38_2 := blk_frozen BK162.out 2
             have hfz38_3 := blk_frozen BK162.out 3
             have hfz38_4 := blk_frozen BK162.out 4
             go_wp2_with (first | ((with_reducible refine gate_callee (f := 37) rfl ?_); refine goesL_ (some 72) rfl rfl Tryd.func37 (by kernel_rfl) rfl #[.int .i64 x163000_1, .int .i64 x9_1, .int .i64 (wrap64 (x13_19 - x10_1))] rfl (by (try simp only [List.map_toArray, List.map_cons, List.map_nil]); first | done | rfl | (simp only [List.length_drop, List.length_take]; rfl)) ?_; (with_reducible refine (cohousingref32_Interest.calls kj19 x163000_1 x9_1 (wrap64 (x13_19 - x10_1)) t168 t169 _ A24.out).mono ?_); rintro e w39 ⟨rfl, hb⟩; refine ⟨_, rfl, ?_⟩; have n0_ := Aside0.mk (blk_below (g := gb161) (o := .cells #[.int .i64 x162000_1, .int .i64 x162001_1, .int .i64 x162002_1, .int .i64 x162003_1, .int .i64 x162004_1] 26 (0, 0)) (by (with_reducible repeat (first | refine blk_drewN ?_ _ | refine blk_drew ?_ | refine blk_alloc ?_ _)); exact BK161.out) hb); have n1_ := Aside0.mk (blk_below (g := gb162) (o := .cells #[.int .i64 x163000_1, .int .i64 x163001_1, .int .i64 x163002_1, .int .i64 x163003_1, .int .i64 0] 26 (0, 0)) (by (with_reducible repeat (first | refine blk_drewN ?_ _ | refine blk_drew ?_ | refine blk_alloc ?_ _)); exact BK162.out) hb); have n2_ := Aside0.mk (below_step (by repeat (first | (with_reducible first | exact HB.out | apply below_alloc | apply pw_below_drewN | apply below_drew1 | refine below_set ?_ GE161.out | refine below_set ?_ GE162.out) | exact HB.out)) hb); clear BK161; clear BK162; clear HB; have BK161 := n0_; have BK162 := n1_; have HB := n2_; clear n0_ n1_ n2_; (try clear hb); (try clear hb2); (try clear hk); (try clear hi); have hcz40_0 : w39.cell? ⟨gb162, 0, none⟩ = some (.int .i64 x163000_1) := (blk_cell BK162.out 0).trans rfl; have hcz40_1 : w39.cell? ⟨gb162, 1, none⟩ = some (.int .i64 x163001_1) := (blk_cell BK162.out 1).trans rfl; have hcz40_2 : w39.cell? ⟨gb162, 2, none⟩ = some (.int .i64 x163002_1) := (blk_cell BK162.out 2).trans rfl; have hcz40_3 : w39.cell? ⟨gb162, 3, none⟩ = some (.int .i64 x163003_1) := (blk_cell BK162.out 3).trans rfl; have hcz40_4 : w39.cell? ⟨gb162, 4, none⟩ = some (.int .i64 0) := (blk_cell BK162.out 4).trans rfl; have hfz40_0 := blk_frozen BK162.out 0; have hfz40_1 := blk_frozen BK162.out 1; have hfz40_2 := blk_frozen BK162.out 2; have hfz40_3 := blk_frozen BK162.out 3; have hfz40_4 := blk_frozen BK162.out 4) | ((with_reducible refine gate_callee (f := 31) rfl ?_); refine goesL_ (some 82) rfl rfl Tryd.func31 (by kernel_rfl) rfl #[.int .i64 (wrap64 (x163002_1 + t168))] rfl (by (try simp only [List.map_toArray, List.map_cons, List.map_nil]); first | done | rfl | (simp only [List.length_drop, List.length_take]; rfl)) ?_; (with_reducible refine (cohousingref02_Amount.calls (wrap64 (x163002_1 + t168)) t170 _ A25.out).mono ?_); rintro e w' ⟨rfl, ⟨nd, rfl⟩⟩; refine ⟨_, rfl, ?_⟩; have hcz41_0 : w39.cell? ⟨gb161, 0, none⟩ = some (.int .i64 x162000_1) := (blk_cell BK161.out 0).trans rfl; have hcz41_1 : w39.cell? ⟨gb161, 1, none⟩ = some (.int .i64 x162001_1) := (blk_cell BK161.out 1).trans rfl; have hcz41_2 : w39.cell? ⟨gb161, 2, none⟩ = some (.int .i64 x162002_1) := (blk_cell BK161.out 2).trans rfl; have hcz41_3 : w39.cell? ⟨gb161, 3, none⟩ = some (.int .i64 x162003_1) := (blk_cell BK161.out 3).trans rfl; have hcz41_4 : w39.cell? ⟨gb161, 4, none⟩ = some (.int .i64 x162004_1) := (blk_cell BK161.out 4).trans rfl; have hfz41_0 := blk_frozen BK161.out 0; have hfz41_1 := blk_frozen BK161.out 1; have hfz41_2 := blk_frozen BK161.out 2; have hfz41_3 := blk_frozen BK161.out 3; have hfz41_4 := blk_frozen BK161.out 4))
             refine bodyPost_ret (results_ct rfl _ _ gb161 26 #[.int .i64 0, .int .i64 0, .int .i64 0, .int .i64 0, .int .i64 0] (0, 0) _ rfl (by (with_reducible repeat (first | refine blk_drewN ?_ _ | refine blk_drew ?_ | refine blk_alloc ?_ _)); refine blk_put (cs := #[.int .i64 0, .int .i64 0, .int .i64 0, .int .i64 0, .int .i64 x162004_1]) ?_ 4 _ rfl; (with_reducible repeat (first | refine blk_drewN ?_ _ | refine blk_drew ?_ | refine blk_alloc ?_ _)); refine blk_put (cs := #[.int .i64 0, .int .i64 0, .int .i64 0, .int .i64 x162003_1, .int .i64 x162004_1]) ?_ 3 _ rfl; (with_reducible repeat (first | refine blk_drewN ?_ _ | refine blk_drew ?_ | refine blk_alloc ?_ _)); refine blk_put (cs := #[.int .i64 0, .int .i64 0, .int .i64 x162002_1, .int .i64 x162003_1, .int .i64 x162004_1]) ?_ 2 _ rfl; (with_reducible repeat (first | refine blk_drewN ?_ _ | refine blk_drew ?_ | refine blk_alloc ?_ _)); refine blk_put (cs := #[.int .i64 0, .int .i64 x162001_1, .int .i64 x162002_1, .int .i64 x162003_1, .int .i64 x162004_1]) ?_ 1 _ rfl; (with_reducible repeat (first | refine blk_drewN ?_ _ | refine blk_drew ?_ | refine blk_alloc ?_ _)); refine blk_put (cs := #[.int .i64 x162000_1, .int .i64 x162001_1, .int .i64 x162002_1, .int .i64 x162003_1, .int .i64 x162004_1]) ?_ 0 _ rfl; (with_reducible repeat (first | refine blk_drewN ?_ _ | refine blk_drew ?_ | refine blk_alloc ?_ _)); refine blk_far ?_ NB161_162.out _; (with_reducible repeat (first | refine blk_drewN ?_ _ | refine blk_drew ?_ | refine blk_alloc ?_ _)); exact BK161.out) Tryd.underlying26 rfl (by kernel_rfl)) rfl ?_
             exact ⟨by first | rfl | (simp [errW_none, errW_some] <;> rfl) | (simp [*, errW_none, errW_some] <;> rfl), by repeat (first | (with_reducible first | exact HB.out | apply below_alloc | apply pw_below_drewN | apply below_drew1 | refine below_set ?_ GE161.out | refine below_set ?_ GE162.out) | exact HB.out)⟩
         ·replace c19 := Bool.eq_false_iff.mpr c19
          subst c19
          have H1 : (cohousingref32_state.j4 kj12 a0 l1 a2 x9_1 x10_1 x11_1 x12_8 x163000_1 x163001_1 x163002_1 x163003_1 0) = some (r1, r2, r3, r4, r5, r6) := by rw [if_neg (show ¬ (false = true) by decide)] at H; exact H
          clear H
          have H := H1
          clear H1
          have H' := Aside0.mk H
          clear H
          go_wp2
          go_meet
          case rel => exact ⟨_, (x10_1), (x162000_1), (x162001_1), (x162002_1), (x162003_1), (x162004_1), (x163002_1), (by first | rfl | (simp; done) | (simp [*]; done)), H', ⟨by have := HK1.out; have := HJ8.out; have := HJ12.out; first | omega | exact Nat.le_refl _⟩, ⟨by (with_reducible repeat (first | refine blk_drewN ?_ _ | refine blk_drew ?_ | refine blk_alloc ?_ _)); exact BK161.out⟩, ⟨by (with_reducible repeat (first | refine blk_drewN ?_ _ | refine blk_drew ?_ | refine blk_alloc ?_ _)); exact BK162.out⟩, ⟨by repeat (first | (with_reducible first | exact HB.out | apply below_alloc | apply pw_below_drewN | apply below_drew1 | refine below_set ?_ GE161.out | refine below_set ?_ GE162.out) | exact HB.out)⟩⟩
        case rest =>
         clear HC18
         try clear c1
         try clear p1
         try clear q1
         try clear hx1
         try clear c2
         try clear p2
         try clear c3
         try clear c6
         try clear p6
         try clear c8
         try clear c8b0
         try clear c10
         try clear c10b0
         try clear c10b1
         try clear c11
         try clear c11b0
         try clear c12
         try clear c12b0
         try clear c14
         try clear c15
         try clear c15b0
         try clear c16
         try clear c16b0
         try clear p16
         try clear q16
         try clear hx16
         try clear c17
         try clear c17b0
         try clear c17b1
         try clear c19
         try clear c21
         try clear c22
         try clear c22b0
         try clear c23
         try clear c23b0
         try clear c26
         try clear c26b0
         try clear c26b1
         try clear c27
         try clear c28
         try clear c31
         try clear c32
         try clear c37
         try clear hcz29_0
         try clear hcz29_1
         try clear hcz29_2
         try clear hcz29_3
         try clear hcz29_4
         try clear hcz31_0
         try clear hcz31_1
         try clear hcz31_2
         try clear hcz31_3
         try clear hcz31_4
         try clear hcz33_0
         try clear hcz33_1
         try clear hcz33_2
         try clear hcz33_3
         try clear hcz33_4
         try clear hcz35_0
         try clear hcz35_1
         try clear hcz35_2
         try clear hcz35_3
         try clear hcz35_4
         try clear hcz36_0
         try clear hcz36_1
         try clear hcz36_2
         try clear hcz36_3
         try clear hcz36_4
         try clear hcz38_0
         try clear hcz38_1
         try clear hcz38_2
         try clear hcz38_3
         try clear hcz38_4
         try clear hcz40_0
         try clear hcz40_1
         try clear hcz40_2
         try clear hcz40_3
         try clear hcz40_4
         try clear hcz41_0
         try clear hcz41_1
         try clear hcz41_2
         try clear hcz41_3
         try clear hcz41_4
         try clear hcz7_0
         try clear hcz7_1
         try clear hcz7_2
         try clear hcz7_3
         try clear hcz7_4
         try clear hfz29_0
         try clear hfz29_1
         try clear hfz29_2
         try clear hfz29_3
         try clear hfz29_4
         try clear hfz31_0
         try clear hfz31_1
         try clear hfz31_2
         try clear hfz31_3
         try clear hfz31_4
         try clear hfz33_0
         try clear hfz33_1
         try clear hfz33_2
         try clear hfz33_3
         try clear hfz33_4
         try clear hfz35_0
         try clear hfz35_1
         try clear hfz35_2
         try clear hfz35_3
         try clear hfz35_4
         try clear hfz36_0
         try clear hfz36_1
         try clear hfz36_2
         try clear hfz36_3
         try clear hfz36_4
         try clear hfz38_0
         try clear hfz38_1
         try clear hfz38_2
         try clear hfz38_3
         try clear hfz38_4
         try clear hfz40_0
         try clear hfz40_1
         try clear hfz40_2
         try clear hfz40_3
         try clear hfz40_4
         try clear hfz41_0
         try clear hfz41_1
         try clear hfz41_2
         try clear hfz41_3
         try clear hfz41_4
         try clear hfz7_0
         try clear hfz7_1
         try clear hfz7_2
         try clear hfz7_3
         try clear hfz7_4
         try clear hx164_0
         try clear hx164_1
         try clear hx164_2
         try clear hx165_0
         try clear hx165_1
         try clear hx165_2
         try clear hx166_0
         try clear hx166_1
         try clear hx166_2
         try clear hx167_0
         try clear hx167_1
         try clear hx167_2
         try clear p1
         try clear p16
         try clear p164
         try clear p165
         try clear p166
         try clear p167
         try clear p2
         try clear p6
         try clear q1
         try clear q16
         try clear q164
         try clear q165
         try clear q166
         try clear q167
         obtain ⟨kq, x10_17, x162000_17, x162001_17, x162002_17, x162003_17, x162004_17, x163002_17, rfl, HA, HJ17, BK161, BK162, HB⟩ := hcut
         cases kq with
         | zero => exact absurd HA.out (by simp [cohousingref32_state.j4])
         | succ kj17 =>
          have H := HA.out
          clear HA
          simp only [cohousingref32_state.j4] at H
          by_cases c42 : x12_8 = true
          ·subst c42
           have H1 : ((cohousingref02_Amount.f (mx 0 (wrap64 ((wrap64 ((mn x163000_1 x163001_1) + x163002_17)) - x163003_1)))).bind fun t171 => (if t171 = true then (some (x163000_1, x163001_1, x163002_17, x163003_1, mx 0 (wrap64 ((wrap64 ((mn x163000_1 x163001_1) + x163002_17)) - x163003_1)), 0)) else (some (0, 0, 0, 0, 0, 3)))) = some (r1, r2, r3, r4, r5, r6) := by rw [if_pos rfl] at H; exact H
           clear H
           have H := H1
           clear H1
           obtain ⟨ji43, hji43⟩ : ∃ j_ : Int, (mn x163000_1 x163001_1) = j_ := ⟨_, rfl⟩
           replace H : ((cohousingref02_Amount.f (mx 0 (wrap64 ((wrap64 ((ji43) + x163002_17)) - x163003_1)))).bind fun t171 => (if t171 = true then (some (x163000_1, x163001_1, x163002_17, x163003_1, mx 0 (wrap64 ((wrap64 ((ji43) + x163002_17)) - x163003_1)), 0)) else (some (0, 0, 0, 0, 0, 3)))) = some (r1, r2, r3, r4, r5, r6) := by first | (rw [hji43] at H; exact H) | (simp only [hji43] at H ⊢; exact H)
           have hji43_ : (if x163001_1 < x163000_1 then x163001_1 else x163000_1) = ji43 := hji43
           obtain ⟨ji44, hji44⟩ : ∃ j_ : Int, (mx 0 (wrap64 ((wrap64 ((ji43) + x163002_17)) - x163003_1))) = j_ := ⟨_, rfl⟩
           replace H : ((cohousingref02_Amount.f (ji44)).bind fun t171 => (if t171 = true then (some (x163000_1, x163001_1, x163002_17, x163003_1, ji44, 0)) else (some (0, 0, 0, 0, 0, 3)))) = some (r1, r2, r3, r4, r5, r6) := by first | (rw [hji44] at H; exact H) | (simp only [hji44] at H ⊢; exact H)
           have hji44_ : (if 0 < (wrap64 ((wrap64 ((ji43) + x163002_17)) - x163003_1)) then (wrap64 ((wrap64 ((ji43) + x163002_17)) - x163003_1)) else 0) = ji44 := hji44
           replace H := Option.bind_eq_some_iff.mp H
           obtain ⟨t171, A450, H⟩ := H
           replace H : (if t171 = true then (some (x163000_1, x163001_1, x163002_17, x163003_1, ji44, 0)) else (some (0, 0, 0, 0, 0, 3))) = some (r1, r2, r3, r4, r5, r6) := H
           have A45 := Aside0.mk A450
           clear A450
           by_cases c46 : t171 = true
           ·subst c46
            have H1 : (some (x163000_1, x163001_1, x163002_17, x163003_1, ji44, 0)) = some (r1, r2, r3, r4, r5, r6) := by rw [if_pos rfl] at H; exact H
            clear H
            have H := H1
            clear H1
            simp only [Option.some.injEq, Prod.mk.injEq] at H
            obtain ⟨rfl, rfl, rfl, rfl, rfl, rfl⟩ := H
            have hnb47 := NB162_161.out
            have hnc47 := NB161_162.out
            have hcz48_0 : wc.cell? ⟨gb162, 0, none⟩ = some (.int .i64 x163000_1) := (blk_cell BK162.out 0).trans rfl
            have hcz48_1 : wc.cell? ⟨gb162, 1, none⟩ = some (.int .i64 x163001_1) := (blk_cell BK162.out 1).trans rfl
            have hcz48_2 : wc.cell? ⟨gb162, 2, none⟩ = some (.int .i64 x163002_17) := (blk_cell BK162.out 2).trans rfl
            have hcz48_3 : wc.cell? ⟨gb162, 3, none⟩ = some (.int .i64 x163003_1) := (blk_cell BK162.out 3).trans rfl
            have hcz48_4 : wc.cell? ⟨gb162, 4, none⟩ = some (.int .i64 0) := (blk_cell BK162.out 4).trans rfl
            have hfz48_0 := blk_frozen BK162.out 0
            have hfz48_1 := blk_frozen BK162.out 1
            have hfz48_2 := blk_frozen BK162.out 2
            have hfz48_3 := blk_frozen BK162.out 3
            have hfz48_4 := blk_frozen BK162.out 4
            go_wp2_with (first | ((with_reducible refine gate_callee (f := 31) rfl ?_); refine goesL_ (some 162) rfl rfl Tryd.func31 (by kernel_rfl) rfl #[.int .i64 ji44] rfl (by (try simp only [List.map_toArray, List.map_cons, List.map_nil]); first | done | (simp only [hji44]; rfl) | rfl | (simp only [List.length_drop, List.length_take]; rfl)) ?_; (with_reducible refine (cohousingref02_Amount.calls ji44 true _ A45.out).mono ?_); rintro e w' ⟨rfl, ⟨nd, rfl⟩⟩; refine ⟨_, rfl, ?_⟩; have hcz49_0 : wc.cell? ⟨gb161, 0, none⟩ = some (.int .i64 x162000_17) := (blk_cell BK161.out 0).trans rfl; have hcz49_1 : wc.cell? ⟨gb161, 1, none⟩ = some (.int .i64 x162001_17) := (blk_cell BK161.out 1).trans rfl; have hcz49_2 : wc.cell? ⟨gb161, 2, none⟩ = some (.int .i64 x162002_17) := (blk_cell BK161.out 2).trans rfl; have hcz49_3 : wc.cell? ⟨gb161, 3, none⟩ = some (.int .i64 x162003_17) := (blk_cell BK161.out 3).trans rfl; have hcz49_4 : wc.cell? ⟨gb161, 4, none⟩ = some (.int .i64 x162004_17) := (blk_cell BK161.out 4).trans rfl; have hfz49_0 := blk_frozen BK161.out 0; have hfz49_1 := blk_frozen BK161.out 1; have hfz49_2 := blk_frozen BK161.out 2; have hfz49_3 := blk_frozen BK161.out 3; have hfz49_4 := blk_frozen BK161.out 4))
            refine bodyPost_ret (results_ct rfl _ _ gb161 26 #[.int .i64 x163000_1, .int .i64 x163001_1, .int .i64 x163002_17, .int .i64 x163003_1, .int .i64 ji44] (0, 0) _ rfl (by (with_reducible repeat (first | refine blk_drewN ?_ _ | refine blk_drew ?_ | refine blk_alloc ?_ _)); refine blk_put (cs := #[.int .i64 x163000_1, .int .i64 x163001_1, .int .i64 x163002_17, .int .i64 x163003_1, .int .i64 x162004_17]) ?_ 4 _ rfl; (with_reducible repeat (first | refine blk_drewN ?_ _ | refine blk_drew ?_ | refine blk_alloc ?_ _)); refine blk_put (cs := #[.int .i64 x163000_1, .int .i64 x163001_1, .int .i64 x163002_17, .int .i64 x162003_17, .int .i64 x162004_17]) ?_ 3 _ rfl; (with_reducible repeat (first | refine blk_drewN ?_ _ | refine blk_drew ?_ | refine blk_alloc ?_ _)); refine blk_put (cs := #[.int .i64 x163000_1, .int .i64 x163001_1, .int .i64 x162002_17, .int .i64 x162003_17, .int .i64 x162004_17]) ?_ 2 _ rfl; (with_reducible repeat (first | refine blk_drewN ?_ _ | refine blk_drew ?_ | refine blk_alloc ?_ _)); refine blk_put (cs := #[.int .i64 x163000_1, .int .i64 x162001_17, .int .i64 x162002_17, .int .i64 x162003_17, .int .i64 x162004_17]) ?_ 1 _ rfl; (with_reducible repeat (first | refine blk_drewN ?_ _ | refine blk_drew ?_ | refine blk_alloc ?_ _)); refine blk_put (cs := #[.int .i64 x162000_17, .int .i64 x162001_17, .int .i64 x162002_17, .int .i64 x162003_17, .int .i64 x162004_17]) ?_ 0 _ rfl; (with_reducible repeat (first | refine blk_drewN ?_ _ | refine blk_drew ?_ | refine blk_alloc ?_ _)); refine blk_far ?_ NB161_162.out _; (with_reducible repeat (first | refine blk_drewN ?_ _ | refine blk_drew ?_ | refine blk_alloc ?_ _)); exact BK161.out) Tryd.underlying26 rfl (by kernel_rfl)) rfl ?_
            exact ⟨by first | rfl | (simp [errW_none, errW_some] <;> rfl) | (simp only [← hji43, ← hji44]; first | rfl | (simp [errW_none, errW_some] <;> rfl)) | (simp [*, errW_none, errW_some] <;> rfl), by repeat (first | (with_reducible first | exact HB.out | apply below_alloc | apply pw_below_drewN | apply below_drew1 | refine below_set ?_ GE161.out | refine below_set ?_ GE162.out) | exact HB.out)⟩
           ·replace c46 := Bool.eq_false_iff.mpr c46
            subst c46
            have H1 : (some (0, 0, 0, 0, 0, 3)) = some (r1, r2, r3, r4, r5, r6) := by rw [if_neg (show ¬ (false = true) by decide)] at H; exact H
            clear H
            have H := H1
            clear H1
            simp only [Option.some.injEq, Prod.mk.injEq] at H
            obtain ⟨rfl, rfl, rfl, rfl, rfl, rfl⟩ := H
            have hnb50 := NB162_161.out
            have hnc50 := NB161_162.out
            have hcz51_0 : wc.cell? ⟨gb162, 0, none⟩ = some (.int .i64 x163000_1) := (blk_cell BK162.out 0).trans rfl
            have hcz51_1 : wc.cell? ⟨gb162, 1, none⟩ = some (.int .i64 x163001_1) := (blk_cell BK162.out 1).trans rfl
            have hcz51_2 : wc.cell? ⟨gb162, 2, none⟩ = some (.int .i64 x163002_17) := (blk_cell BK162.out 2).trans rfl
            have hcz51_3 : wc.cell? ⟨gb162, 3, none⟩ = some (.int .i64 x163003_1) := (blk_cell BK162.out 3).trans rfl
            have hcz51_4 : wc.cell? ⟨gb162, 4, none⟩ = some (.int .i64 0) := (blk_cell BK162.out 4).trans rfl
            have hfz51_0 := blk_frozen BK162.out 0
            have hfz51_1 := blk_frozen BK162.out 1
            have hfz51_2 := blk_frozen BK162.out 2
            have hfz51_3 := blk_frozen BK162.out 3
            have hfz51_4 := blk_frozen BK162.out 4
            go_wp2_with (first | ((with_reducible refine gate_callee (f := 31) rfl ?_); refine goesL_ (some 162) rfl rfl Tryd.func31 (by kernel_rfl) rfl #[.int .i64 ji44] rfl (by (try simp only [List.map_toArray, List.map_cons, List.map_nil]); first | done | (simp only [hji44]; rfl) | rfl | (simp only [List.length_drop, List.length_take]; rfl)) ?_; (with_reducible refine (cohousingref02_Amount.calls ji44 false _ A45.out).mono ?_); rintro e w' ⟨rfl, ⟨nd, rfl⟩⟩; refine ⟨_, rfl, ?_⟩; have hcz52_0 : wc.cell? ⟨gb161, 0, none⟩ = some (.int .i64 x162000_17) := (blk_cell BK161.out 0).trans rfl; have hcz52_1 : wc.cell? ⟨gb161, 1, none⟩ = some (.int .i64 x162001_17) := (blk_cell BK161.out 1).trans rfl; have hcz52_2 : wc.cell? ⟨gb161, 2, none⟩ = some (.int .i64 x162002_17) := (blk_cell BK161.out 2).trans rfl; have hcz52_3 : wc.cell? ⟨gb161, 3, none⟩ = some (.int .i64 x162003_17) := (blk_cell BK161.out 3).trans rfl; have hcz52_4 : wc.cell? ⟨gb161, 4, none⟩ = some (.int .i64 x162004_17) := (blk_cell BK161.out 4).trans rfl; have hfz52_0 := blk_frozen BK161.out 0; have hfz52_1 := blk_frozen BK161.out 1; have hfz52_2 := blk_frozen BK161.out 2; have hfz52_3 := blk_frozen BK161.out 3; have hfz52_4 := blk_frozen BK161.out 4))
            refine bodyPost_ret (results_ct rfl _ _ gb161 26 #[.int .i64 0, .int .i64 0, .int .i64 0, .int .i64 0, .int .i64 0] (0, 0) _ rfl (by (with_reducible repeat (first | refine blk_drewN ?_ _ | refine blk_drew ?_ | refine blk_alloc ?_ _)); refine blk_put (cs := #[.int .i64 0, .int .i64 0, .int .i64 0, .int .i64 0, .int .i64 x162004_17]) ?_ 4 _ rfl; (with_reducible repeat (first | refine blk_drewN ?_ _ | refine blk_drew ?_ | refine blk_alloc ?_ _)); refine blk_put (cs := #[.int .i64 0, .int .i64 0, .int .i64 0, .int .i64 x162003_17, .int .i64 x162004_17]) ?_ 3 _ rfl; (with_reducible repeat (first | refine blk_drewN ?_ _ | refine blk_drew ?_ | refine blk_alloc ?_ _)); refine blk_put (cs := #[.int .i64 0, .int .i64 0, .int .i64 x162002_17, .int .i64 x162003_17, .int .i64 x162004_17]) ?_ 2 _ rfl; (with_reducible repeat (first | refine blk_drewN ?_ _ | refine blk_drew ?_ | refine blk_alloc ?_ _)); refine blk_put (cs := #[.int .i64 0, .int .i64 x162001_17, .int .i64 x162002_17, .int .i64 x162003_17, .int .i64 x162004_17]) ?_ 1 _ rfl; (with_reducible repeat (first | refine blk_drewN ?_ _ | refine blk_drew ?_ | refine blk_alloc ?_ _)); refine blk_put (cs := #[.int .i64 x162000_17, .int .i64 x162001_17, .int .i64 x162002_17, .int .i64 x162003_17, .int .i64 x162004_17]) ?_ 0 _ rfl; (with_reducible repeat (first | refine blk_drewN ?_ _ | refine blk_drew ?_ | refine blk_alloc ?_ _)); refine blk_far ?_ NB161_162.out _; (with_reducible repeat (first | refine blk_drewN ?_ _ | refine blk_drew ?_ | refine blk_alloc ?_ _)); exact BK161.out) Tryd.underlying26 rfl (by kernel_rfl)) rfl ?_
            exact ⟨by first | rfl | (simp [errW_none, errW_some] <;> rfl) | (simp only [← hji43, ← hji44]; first | rfl | (simp [errW_none, errW_some] <;> rfl)) | (simp [*, errW_none, errW_some] <;> rfl), by repeat (first | (with_reducible first | exact HB.out | apply below_alloc | apply pw_below_drewN | apply below_drew1 | refine below_set ?_ GE161.out | refine below_set ?_ GE162.out) | exact HB.out)⟩
          ·replace c42 := Bool.eq_false_iff.mpr c42
           subst c42
           have H1 : (if 0 ≤ x11_1 then (if x11_1 < (l1.length : Int) then (if ((rd_T36 l1 x11_1).f0) = 1 then (cohousingref32_state.l0 kj17 a0 l1 a2 x9_1 x10_17 (wrap64 (x11_1 + 1)) (wrap64 (x163000_1 + ((rd_T36 l1 x11_1).f2))) x163001_1 x163002_17 x163003_1 0) else (if ((rd_T36 l1 x11_1).f0) = 2 then (cohousingref32_state.l0 kj17 a0 l1 a2 x9_1 x10_17 (wrap64 (x11_1 + 1)) x163000_1 (wrap64 (a0 * ((rd_T36 l1 x11_1).f2))) x163002_17 x163003_1 0) else (if ((rd_T36 l1 x11_1).f0) = 3 then (cohousingref32_state.l0 kj17 a0 l1 a2 ((rd_T36 l1 x11_1).f2) x10_17 (wrap64 (x11_1 + 1)) x163000_1 x163001_1 x163002_17 x163003_1 0) else (if ((rd_T36 l1 x11_1).f0) = 4 then (cohousingref32_state.l0 kj17 a0 l1 a2 x9_1 x10_17 (wrap64 (x11_1 + 1)) x163000_1 x163001_1 x163002_17 (wrap64 (x163003_1 + ((rd_T36 l1 x11_1).f2))) 0) else (if ((rd_T36 l1 x11_1).f0) = 5 then (cohousingref32_state.l0 kj17 a0 l1 a2 x9_1 x10_17 (wrap64 (x11_1 + 1)) x163000_1 x163001_1 x163002_17 (wrap64 (x163003_1 - ((rd_T36 l1 x11_1).f2))) 0) else (cohousingref32_state.l0 kj17 a0 l1 a2 x9_1 x10_17 (wrap64 (x11_1 + 1)) x163000_1 x163001_1 x163002_17 x163003_1 0)))))) else (none)) else (none)) = some (r1, r2, r3, r4, r5, r6) := by rw [if_neg (show ¬ (false = true) by decide)] at H; exact H
           clear H
           have H := H1
           clear H1
           by_cases c53 : 0 ≤ x11_1
           ·rw [if_pos c53] at H
            have c53b0 : decide (0 ≤ x11_1) = true := decide_eq_true c53
            clear c53
            by_cases c54 : x11_1 < (l1.length : Int)
            ·rw [if_pos c54] at H
             have c54b0 : decide (x11_1 < (l1.length : Int)) = true := decide_eq_true c54
             clear c54
             by_cases c55 : ((rd_T36 l1 x11_1).f0) = 1
             ·rw [if_pos c55] at H
              have c55b0 : (((rd_T36 l1 x11_1).f0) == 1) = true := beq_iff_eq.mpr c55
              have c55b1 : (((rd_T36 l1 x11_1).f0) != 1) = false := bne_eq_false_iff_eq.mpr c55
              clear c55
              have H' := Aside0.mk H
              clear H
              have p172 : 0 ≤ (x11_1 : Int) := of_decide_eq_true (by first | (with_reducible assumption) | assumption)
              have q172 : x11_1 < (l1.length : Int) := of_decide_eq_true (by first | (with_reducible assumption) | assumption)
              obtain ⟨ad172, e172, hx172_0, hx172_1, hx172_2⟩ := at_T36 HR1.out x11_1 p172 q172
              cases e172
              replace hx172_0 := (HB.out.cell (World.block_lt_of_cell? w _ hx172_0)).trans hx172_0
              replace hx172_1 := (HB.out.cell (World.block_lt_of_cell? w _ hx172_1)).trans hx172_1
              replace hx172_2 := (HB.out.cell (World.block_lt_of_cell? w _ hx172_2)).trans hx172_2
              replace p172 := eq_true p172
              replace q172 := eq_true q172
              try go_wp2
              have n0_ := Aside0.mk (blk_drew BK161.out)
              have n1_ := Aside0.mk (blk_drew BK162.out)
              have n2_ := Aside0.mk (below_drew1 HB.out)
              clear BK161
              clear BK162
              clear HB
              have BK161 := n0_
              have BK162 := n1_
              have HB := n2_
              clear n0_ n1_ n2_
              have p173 : 0 ≤ (x11_1 : Int) := of_decide_eq_true (by first | (with_reducible assumption) | assumption)
              have q173 : x11_1 < (l1.length : Int) := of_decide_eq_true (by first | (with_reducible assumption) | assumption)
              obtain ⟨ad173, e173, hx173_0, hx173_1, hx173_2⟩ := at_T36 HR1.out x11_1 p173 q173
              have hw173_2 := hx173_2
              have hw173_1 := hx173_1
              have hw173_0 := hx173_0
              obtain rfl : ad172 = ad173 := (by injection e173)
              replace hx173_0 := (HB.out.cell (World.block_lt_of_cell? w _ hx173_0)).trans hx173_0
              replace hx173_1 := (HB.out.cell (World.block_lt_of_cell? w _ hx173_1)).trans hx173_1
              replace hx173_2 := (HB.out.cell (World.block_lt_of_cell? w _ hx173_2)).trans hx173_2
              replace p173 := eq_true p173
              replace q173 := eq_true q173
              refine start_ (n := 10) (S := fun w' => w'.cell? ⟨gb162, 0, none⟩ = some (.int .i64 x163000_1) ∧ w'.cell? ⟨gb162, 1, none⟩ = some (.int .i64 x163001_1) ∧ w'.cell? ⟨gb162, 2, none⟩ = some (.int .i64 x163002_17) ∧ w'.cell? ⟨gb162, 3, none⟩ = some (.int .i64 x163003_1) ∧ w'.cell? ⟨gb162, 4, none⟩ = some (.int .i64 0) ∧ w'.cell? (ad172.add ((x11_1).toNat * 3)) = some (.int .i64 ((rd_T36 l1 x11_1).f0)) ∧ w'.cell? ⟨(ad172.add ((x11_1).toNat * 3)).block, (ad172.add ((x11_1).toNat * 3)).off + 1, none⟩ = some (.int .i64 ((rd_T36 l1 x11_1).f1)) ∧ w'.cell? ⟨(ad172.add ((x11_1).toNat * 3)).block, (ad172.add ((x11_1).toNat * 3)).off + 2, none⟩ = some (.int .i64 ((rd_T36 l1 x11_1).f2))) (ds := [9]) #[false, false, false, false, false, false, false, false, false, false] (by kernel_rfl) rfl rfl ⟨(blk_cell BK162.out 0).trans rfl, (blk_cell BK162.out 1).trans rfl, (blk_cell BK162.out 2).trans rfl, (blk_cell BK162.out 3).trans rfl, (blk_cell BK162.out 4).trans rfl, ((HB.out.cell (World.block_lt_of_cell? w _ hw173_0)).trans hw173_0), ((HB.out.cell (World.block_lt_of_cell? w _ hw173_1)).trans hw173_1), ((HB.out.cell (World.block_lt_of_cell? w _ hw173_2)).trans hw173_2)⟩ (fun hHeld => ?_); refine with_tabW cohousingref32_state.tab21 cohousingref32_state.bits21 (fun HT_ HW_ => ?_)
              generalize wc.drew = w56 at BK161 BK162 HB hx173_0 hx173_1 hx173_2 hHeld ⊢
              refine pure_ (i := 0) (N := some 99) (v := ?_) (a' := ?_) #[true, false, false, false, false, false, false, false, false, false] rfl rfl (any_of HT_.out (by kernel_rfl)) (fun _ _ _ h => h) (Or.inl ⟨by rfl, ?_⟩) ?_ ?_
              rotate_left
              ·intro w'
               go_simp
               with_reducible rfl
              rotate_left
              ·simp only [Act.put, List.setIfInBounds_toArray, List.set_cons_zero, List.set_cons_succ, i64_w, i32_w]
               rfl
              refine pure_ (i := 2) (N := some 101) (v := ?_) (a' := ?_) #[true, false, true, false, false, false, false, false, false, false] rfl rfl (any_of HT_.out (by kernel_rfl)) (fun _ _ _ h => h) (Or.inl ⟨by rfl, ?_⟩) ?_ ?_
              rotate_left
              ·intro w'
               go_simp
               with_reducible rfl
              rotate_left
              ·simp only [Act.put, List.setIfInBounds_toArray, List.set_cons_zero, List.set_cons_succ, i64_w, i32_w]
               rfl
              refine pure_ (i := 3) (N := some 102) (v := ?_) (a' := ?_) #[true, false, true, true, false, false, false, false, false, false] rfl rfl (any_of HT_.out (by kernel_rfl)) (fun _ _ _ h => h) (Or.inl ⟨by rfl, ?_⟩) ?_ ?_
              rotate_left
              ·intro w'
               go_simp
               with_reducible rfl
              rotate_left
              ·simp only [Act.put, List.setIfInBounds_toArray, List.set_cons_zero, List.set_cons_succ, i64_w, i32_w]
               rfl
              refine pure_ (i := 4) (N := some 103) (v := ?_) (a' := ?_) #[true, false, true, true, true, false, false, false, false, false] rfl rfl (any_of HT_.out (by kernel_rfl)) (fun _ _ _ h => h) (Or.inl ⟨by rfl, ?_⟩) ?_ ?_
              rotate_left
              ·intro w'
               go_simp
               with_reducible rfl
              rotate_left
              ·simp only [Act.put, List.setIfInBounds_toArray, List.set_cons_zero, List.set_cons_succ, i64_w, i32_w]
               rfl
              refine pure_ (i := 5) (N := some 104) (v := ?_) (a' := ?_) #[true, false, true, true, true, true, false, false, false, false] rfl rfl (any_of HT_.out (by kernel_rfl)) (fun _ _ _ h => h) (Or.inl ⟨by rfl, ?_⟩) ?_ ?_
              rotate_left
              ·intro w'
               go_simp
               with_reducible rfl
              rotate_left
              ·simp only [Act.put, List.setIfInBounds_toArray, List.set_cons_zero, List.set_cons_succ, i64_w, i32_w]
               rfl
              refine take_ (i := 1) (N := some 100) (v := ?_) (a' := ?_) #[true, true, true, true, true, true, false, false, false, false] rfl rfl (take_ofW HT_.out HW_.out (by kernel_rfl)) (fun _ _ _ h => h) (Or.inl ⟨by rfl, ?_⟩) hHeld ?_ ?_
              rotate_left
              ·rintro w' ⟨s0, s1, s2, s3, s4, s5, s6, s7⟩
               go_simp
               with_reducible rfl
              rotate_left
              ·simp only [Act.put, List.setIfInBounds_toArray, List.set_cons_zero, List.set_cons_succ, i64_w, i32_w]
               rfl
              refine take_ (i := 6) (N := some 105) (v := ?_) (a' := ?_) #[true, true, true, true, true, true, true, false, false, false] rfl rfl (take_ofW HT_.out HW_.out (by kernel_rfl)) (fun _ _ _ h => h) (Or.inl ⟨by rfl, ?_⟩) hHeld ?_ ?_
              rotate_left
              ·rintro w' ⟨s0, s1, s2, s3, s4, s5, s6, s7⟩
               go_simp
               with_reducible rfl
              rotate_left
              ·simp only [Act.put, List.setIfInBounds_toArray, List.set_cons_zero, List.set_cons_succ, i64_w, i32_w]
               rfl
              refine pure_ (i := 7) (N := some 106) (v := ?_) (a' := ?_) #[true, true, true, true, true, true, true, true, false, false] rfl rfl (any_of HT_.out (by kernel_rfl)) (fun _ _ _ h => h) (Or.inl ⟨by rfl, ?_⟩) ?_ ?_
              rotate_left
              ·intro w'
               go_simp
               with_reducible rfl
              rotate_left
              ·simp only [Act.put, List.setIfInBounds_toArray, List.set_cons_zero, List.set_cons_succ, i64_w, i32_w]
               rfl
              refine pure_ (i := 8) (N := some 107) (v := ?_) (a' := ?_) #[true, true, true, true, true, true, true, true, true, false] rfl rfl (any_of HT_.out (by kernel_rfl)) (fun _ _ _ h => h) (Or.inl ⟨by rfl, ?_⟩) ?_ ?_
              rotate_left
              ·intro w'
               go_simp
               with_reducible rfl
              rotate_left
              ·simp only [Act.put, List.setIfInBounds_toArray, List.set_cons_zero, List.set_cons_succ, i64_w, i32_w]
               rfl
              refine last_ (i := 9) (N := none) #[true, true, true, true, true, true, true, true, true, true] rfl rfl (one_of HT_.out (by kernel_rfl)) (by decide) (fun K hK => ?_)
              have hs57 : w56.cell? ⟨gb162, 0, none⟩ = some (.int .i64 x163000_1) := (blk_cell BK162.out 0).trans rfl
              have hfs57 := blk_frozen BK162.out 0
              have hns57_0 := NB161_162.out
              have hms57_0 := NB162_161.out
              refine skip_ (w1 := ?_) (by rfl) rfl ?_ ?_
              rotate_left
              ·go_simp
               rfl
              refine hK.out _ _ ?_
              clear hK K
              refine done_ (done_of HT_.out (by kernel_rfl)) ?_
              try go_wp2
              go_roundg kj17
              case measure => have := HK1.out; have := HJ8.out; have := HJ12.out; have := HJ17.out; omega
              case rel => exact ⟨(x9_1), (x10_17), (wrap64 (x11_1 + 1)), (x162000_17), (x162001_17), (x162002_17), (x162003_17), (x162004_17), (wrap64 (x163000_1 + ((rd_T36 l1 x11_1).f2))), (x163001_1), (x163002_17), (x163003_1), (by first | rfl | (simp; done) | (simp [*]; done)), (by first | rfl | (simp; done) | (simp [*]; done)), (by first | rfl | (simp; done) | (simp [*]; done)), H', ⟨by have := HK1.out; have := HJ8.out; have := HJ12.out; have := HJ17.out; omega⟩, ⟨by (with_reducible repeat (first | refine blk_drewN ?_ _ | refine blk_drew ?_ | refine blk_alloc ?_ _)); refine blk_far ?_ NB161_162.out _; (with_reducible repeat (first | refine blk_drewN ?_ _ | refine blk_drew ?_ | refine blk_alloc ?_ _)); exact BK161.out⟩, ⟨by (with_reducible repeat (first | refine blk_drewN ?_ _ | refine blk_drew ?_ | refine blk_alloc ?_ _)); refine blk_put (cs := #[.int .i64 x163000_1, .int .i64 x163001_1, .int .i64 x163002_17, .int .i64 x163003_1, .int .i64 0]) ?_ 0 _ rfl; (with_reducible repeat (first | refine blk_drewN ?_ _ | refine blk_drew ?_ | refine blk_alloc ?_ _)); exact BK162.out⟩, ⟨by repeat (first | (with_reducible first | exact HB.out | apply below_alloc | apply pw_below_drewN | apply below_drew1 | refine below_set ?_ GE161.out | refine below_set ?_ GE162.out) | exact HB.out)⟩⟩
             ·rw [if_neg c55] at H
              have c55b0 : (((rd_T36 l1 x11_1).f0) == 1) = false := beq_eq_false_iff_ne.mpr c55
              have c55b1 : (((rd_T36 l1 x11_1).f0) != 1) = true := bne_iff_ne.mpr c55
              by_cases c58 : ((rd_T36 l1 x11_1).f0) = 2
              ·rw [if_pos c58] at H
               have c58b0 : (((rd_T36 l1 x11_1).f0) == 2) = true := beq_iff_eq.mpr c58
               have c58b1 : (((rd_T36 l1 x11_1).f0) != 2) = false := bne_eq_false_iff_eq.mpr c58
               clear c58
               have H' := Aside0.mk H
               clear H
               have p172 : 0 ≤ (x11_1 : Int) := of_decide_eq_true (by first | (with_reducible assumption) | assumption)
               have q172 : x11_1 < (l1.length : Int) := of_decide_eq_true (by first | (with_reducible assumption) | assumption)
               obtain ⟨ad172, e172, hx172_0, hx172_1, hx172_2⟩ := at_T36 HR1.out x11_1 p172 q172
               cases e172
               replace hx172_0 := (HB.out.cell (World.block_lt_of_cell? w _ hx172_0)).trans hx172_0
               replace hx172_1 := (HB.out.cell (World.block_lt_of_cell? w _ hx172_1)).trans hx172_1
               replace hx172_2 := (HB.out.cell (World.block_lt_of_cell? w _ hx172_2)).trans hx172_2
               replace p172 := eq_true p172
               replace q172 := eq_true q172
               have p174 : 0 ≤ (x11_1 : Int) := of_decide_eq_true (by first | (with_reducible assumption) | assumption)
               have q174 : x11_1 < (l1.length : Int) := of_decide_eq_true (by first | (with_reducible assumption) | assumption)
               obtain ⟨ad174, e174, hx174_0, hx174_1, hx174_2⟩ := at_T36 HR1.out x11_1 p174 q174
               obtain rfl : ad172 = ad174 := (by injection e174)
               replace hx174_0 := (HB.out.cell (World.block_lt_of_cell? w _ hx174_0)).trans hx174_0
               replace hx174_1 := (HB.out.cell (World.block_lt_of_cell? w _ hx174_1)).trans hx174_1
               replace hx174_2 := (HB.out.cell (World.block_lt_of_cell? w _ hx174_2)).trans hx174_2
               replace p174 := eq_true p174
               replace q174 := eq_true q174
               have hnb59 := NB162_161.out
               have hnc59 := NB161_162.out
               have hcz60_0 : wc.cell? ⟨gb162, 0, none⟩ = some (.int .i64 x163000_1) := (blk_cell BK162.out 0).trans rfl
               have hcz60_1 : wc.cell? ⟨gb162, 1, none⟩ = some (.int .i64 x163001_1) := (blk_cell BK162.out 1).trans rfl
               have hcz60_2 : wc.cell? ⟨gb162, 2, none⟩ = some (.int .i64 x163002_17) := (blk_cell BK162.out 2).trans rfl
               have hcz60_3 : wc.cell? ⟨gb162, 3, none⟩ = some (.int .i64 x163003_1) := (blk_cell BK162.out 3).trans rfl
               have hcz60_4 : wc.cell? ⟨gb162, 4, none⟩ = some (.int .i64 0) := (blk_cell BK162.out 4).trans rfl
               have hfz60_0 := blk_frozen BK162.out 0
               have hfz60_1 := blk_frozen BK162.out 1
               have hfz60_2 := blk_frozen BK162.out 2
               have hfz60_3 := blk_frozen BK162.out 3
               have hfz60_4 := blk_frozen BK162.out 4
               go_wp2
               go_roundg kj17
               case measure => have := HK1.out; have := HJ8.out; have := HJ12.out; have := HJ17.out; omega
               case rel => exact ⟨(x9_1), (x10_17), (wrap64 (x11_1 + 1)), (x162000_17), (x162001_17), (x162002_17), (x162003_17), (x162004_17), (x163000_1), (wrap64 (a0 * ((rd_T36 l1 x11_1).f2))), (x163002_17), (x163003_1), (by first | rfl | (simp; done) | (simp [*]; done)), (by first | rfl | (simp; done) | (simp [*]; done)), (by first | rfl | (simp; done) | (simp [*]; done)), H', ⟨by have := HK1.out; have := HJ8.out; have := HJ12.out; have := HJ17.out; omega⟩, ⟨by (with_reducible repeat (first | refine blk_drewN ?_ _ | refine blk_drew ?_ | refine blk_alloc ?_ _)); refine blk_far ?_ NB161_162.out _; (with_reducible repeat (first | refine blk_drewN ?_ _ | refine blk_drew ?_ | refine blk_alloc ?_ _)); exact BK161.out⟩, ⟨by (with_reducible repeat (first | refine blk_drewN ?_ _ | refine blk_drew ?_ | refine blk_alloc ?_ _)); refine blk_put (cs := #[.int .i64 x163000_1, .int .i64 x163001_1, .int .i64 x163002_17, .int .i64 x163003_1, .int .i64 0]) ?_ 1 _ rfl; (with_reducible repeat (first | refine blk_drewN ?_ _ | refine blk_drew ?_ | refine blk_alloc ?_ _)); exact BK162.out⟩, ⟨by repeat (first | (with_reducible first | exact HB.out | apply below_alloc | apply pw_below_drewN | apply below_drew1 | refine below_set ?_ GE161.out | refine below_set ?_ GE162.out) | exact HB.out)⟩⟩
              ·rw [if_neg c58] at H
               have c58b0 : (((rd_T36 l1 x11_1).f0) == 2) = false := beq_eq_false_iff_ne.mpr c58
               have c58b1 : (((rd_T36 l1 x11_1).f0) != 2) = true := bne_iff_ne.mpr c58
               by_cases c61 : ((rd_T36 l1 x11_1).f0) = 3
               ·rw [if_pos c61] at H
                have c61b0 : (((rd_T36 l1 x11_1).f0) == 3) = true := beq_iff_eq.mpr c61
                have c61b1 : (((rd_T36 l1 x11_1).f0) != 3) = false := bne_eq_false_iff_eq.mpr c61
                clear c61
                have H' := Aside0.mk H
                clear H
                have p172 : 0 ≤ (x11_1 : Int) := of_decide_eq_true (by first | (with_reducible assumption) | assumption)
                have q172 : x11_1 < (l1.length : Int) := of_decide_eq_true (by first | (with_reducible assumption) | assumption)
                obtain ⟨ad172, e172, hx172_0, hx172_1, hx172_2⟩ := at_T36 HR1.out x11_1 p172 q172
                cases e172
                replace hx172_0 := (HB.out.cell (World.block_lt_of_cell? w _ hx172_0)).trans hx172_0
                replace hx172_1 := (HB.out.cell (World.block_lt_of_cell? w _ hx172_1)).trans hx172_1
                replace hx172_2 := (HB.out.cell (World.block_lt_of_cell? w _ hx172_2)).trans hx172_2
                replace p172 := eq_true p172
                replace q172 := eq_true q172
                have p175 : 0 ≤ (x11_1 : Int) := of_decide_eq_true (by first | (with_reducible assumption) | assumption)
                have q175 : x11_1 < (l1.length : Int) := of_decide_eq_true (by first | (with_reducible assumption) | assumption)
                obtain ⟨ad175, e175, hx175_0, hx175_1, hx175_2⟩ := at_T36 HR1.out x11_1 p175 q175
                obtain rfl : ad172 = ad175 := (by injection e175)
                replace hx175_0 := (HB.out.cell (World.block_lt_of_cell? w _ hx175_0)).trans hx175_0
                replace hx175_1 := (HB.out.cell (World.block_lt_of_cell? w _ hx175_1)).trans hx175_1
                replace hx175_2 := (HB.out.cell (World.block_lt_of_cell? w _ hx175_2)).trans hx175_2
                replace p175 := eq_true p175
                replace q175 := eq_true q175
                go_wp2
                go_roundg kj17
                case measure => have := HK1.out; have := HJ8.out; have := HJ12.out; have := HJ17.out; omega
                case rel => exact ⟨((rd_T36 l1 x11_1).f2), (x10_17), (wrap64 (x11_1 + 1)), (x162000_17), (x162001_17), (x162002_17), (x162003_17), (x162004_17), (x163000_1), (x163001_1), (x163002_17), (x163003_1), (by first | rfl | (simp; done) | (simp [*]; done)), (by first | rfl | (simp; done) | (simp [*]; done)), (by first | rfl | (simp; done) | (simp [*]; done)), H', ⟨by have := HK1.out; have := HJ8.out; have := HJ12.out; have := HJ17.out; omega⟩, ⟨by (with_reducible repeat (first | refine blk_drewN ?_ _ | refine blk_drew ?_ | refine blk_alloc ?_ _)); exact BK161.out⟩, ⟨by (with_reducible repeat (first | refine blk_drewN ?_ _ | refine blk_drew ?_ | refine blk_alloc ?_ _)); exact BK162.out⟩, ⟨by repeat (first | (with_reducible first | exact HB.out | apply below_alloc | apply pw_below_drewN | apply below_drew1 | refine below_set ?_ GE161.out | refine below_set ?_ GE162.out) | exact HB.out)⟩⟩
               ·rw [if_neg c61] at H
                have c61b0 : (((rd_T36 l1 x11_1).f0) == 3) = false := beq_eq_false_iff_ne.mpr c61
                have c61b1 : (((rd_T36 l1 x11_1).f0) != 3) = true := bne_iff_ne.mpr c61
                by_cases c62 : ((rd_T36 l1 x11_1).f0) = 4
                ·rw [if_pos c62] at H
                 have c62b0 : (((rd_T36 l1 x11_1).f0) == 4) = true := beq_iff_eq.mpr c62
                 have c62b1 : (((rd_T36 l1 x11_1).f0) != 4) = false := bne_eq_false_iff_eq.mpr c62
                 clear c62
                 have H' := Aside0.mk H
                 clear H
                 have p172 : 0 ≤ (x11_1 : Int) := of_decide_eq_true (by first | (with_reducible assumption) | assumption)
                 have q172 : x11_1 < (l1.length : Int) := of_decide_eq_true (by first | (with_reducible assumption) | assumption)
                 obtain ⟨ad172, e172, hx172_0, hx172_1, hx172_2⟩ := at_T36 HR1.out x11_1 p172 q172
                 cases e172
                 replace hx172_0 := (HB.out.cell (World.block_lt_of_cell? w _ hx172_0)).trans hx172_0
                 replace hx172_1 := (HB.out.cell (World.block_lt_of_cell? w _ hx172_1)).trans hx172_1
                 replace hx172_2 := (HB.out.cell (World.block_lt_of_cell? w _ hx172_2)).trans hx172_2
                 replace p172 := eq_true p172
                 replace q172 := eq_true q172
                 try go_wp2
                 have n0_ := Aside0.mk (blk_drew BK161.out)
                 have n1_ := Aside0.mk (blk_drew BK162.out)
                 have n2_ := Aside0.mk (below_drew1 HB.out)
                 clear BK161
                 clear BK162
                 clear HB
                 have BK161 := n0_
                 have BK162 := n1_
                 have HB := n2_
                 clear n0_ n1_ n2_
                 have p176 : 0 ≤ (x11_1 : Int) := of_decide_eq_true (by first | (with_reducible assumption) | assumption)
                 have q176 : x11_1 < (l1.length : Int) := of_decide_eq_true (by first | (with_reducible assumption) | assumption)
                 obtain ⟨ad176, e176, hx176_0, hx176_1, hx176_2⟩ := at_T36 HR1.out x11_1 p176 q176
                 have hw176_2 := hx176_2
                 have hw176_1 := hx176_1
                 have hw176_0 := hx176_0
                 obtain rfl : ad172 = ad176 := (by injection e176)
                 replace hx176_0 := (HB.out.cell (World.block_lt_of_cell? w _ hx176_0)).trans hx176_0
                 replace hx176_1 := (HB.out.cell (World.block_lt_of_cell? w _ hx176_1)).trans hx176_1
                 replace hx176_2 := (HB.out.cell (World.block_lt_of_cell? w _ hx176_2)).trans hx176_2
                 replace p176 := eq_true p176
                 replace q176 := eq_true q176
                 refine start_ (n := 10) (S := fun w' => w'.cell? ⟨gb162, 0, none⟩ = some (.int .i64 x163000_1) ∧ w'.cell? ⟨gb162, 1, none⟩ = some (.int .i64 x163001_1) ∧ w'.cell? ⟨gb162, 2, none⟩ = some (.int .i64 x163002_17) ∧ w'.cell? ⟨gb162, 3, none⟩ = some (.int .i64 x163003_1) ∧ w'.cell? ⟨gb162, 4, none⟩ = some (.int .i64 0) ∧ w'.cell? (ad172.add ((x11_1).toNat * 3)) = some (.int .i64 ((rd_T36 l1 x11_1).f0)) ∧ w'.cell? ⟨(ad172.add ((x11_1).toNat * 3)).block, (ad172.add ((x11_1).toNat * 3)).off + 1, none⟩ = some (.int .i64 ((rd_T36 l1 x11_1).f1)) ∧ w'.cell? ⟨(ad172.add ((x11_1).toNat * 3)).block, (ad172.add ((x11_1).toNat * 3)).off + 2, none⟩ = some (.int .i64 ((rd_T36 l1 x11_1).f2))) (ds := [9]) #[false, false, false, false, false, false, false, false, false, false] (by kernel_rfl) rfl rfl ⟨(blk_cell BK162.out 0).trans rfl, (blk_cell BK162.out 1).trans rfl, (blk_cell BK162.out 2).trans rfl, (blk_cell BK162.out 3).trans rfl, (blk_cell BK162.out 4).trans rfl, ((HB.out.cell (World.block_lt_of_cell? w _ hw176_0)).trans hw176_0), ((HB.out.cell (World.block_lt_of_cell? w _ hw176_1)).trans hw176_1), ((HB.out.cell (World.block_lt_of_cell? w _ hw176_2)).trans hw176_2)⟩ (fun hHeld => ?_); refine with_tabW cohousingref32_state.tab27 cohousingref32_state.bits27 (fun HT_ HW_ => ?_)
                 generalize wc.drew = w63 at BK161 BK162 HB hx176_0 hx176_1 hx176_2 hHeld ⊢
                 refine pure_ (i := 0) (N := some 127) (v := ?_) (a' := ?_) #[true, false, false, false, false, false, false, false, false, false] rfl rfl (any_of HT_.out (by kernel_rfl)) (fun _ _ _ h => h) (Or.inl ⟨by rfl, ?_⟩) ?_ ?_
                 rotate_left
                 ·intro w'
                  go_simp
                  with_reducible rfl
                 rotate_left
                 ·simp only [Act.put, List.setIfInBounds_toArray, List.set_cons_zero, List.set_cons_succ, i64_w, i32_w]
                  rfl
                 refine pure_ (i := 2) (N := some 129) (v := ?_) (a' := ?_) #[true, false, true, false, false, false, false, false, false, false] rfl rfl (any_of HT_.out (by kernel_rfl)) (fun _ _ _ h => h) (Or.inl ⟨by rfl, ?_⟩) ?_ ?_
                 rotate_left
                 ·intro w'
                  go_simp
                  with_reducible rfl
                 rotate_left
                 ·simp only [Act.put, List.setIfInBounds_toArray, List.set_cons_zero, List.set_cons_succ, i64_w, i32_w]
                  rfl
                 refine pure_ (i := 3) (N := some 130) (v := ?_) (a' := ?_) #[true, false, true, true, false, false, false, false, false, false] rfl rfl (any_of HT_.out (by kernel_rfl)) (fun _ _ _ h => h) (Or.inl ⟨by rfl, ?_⟩) ?_ ?_
                 rotate_left
                 ·intro w'
                  go_simp
                  with_reducible rfl
                 rotate_left
                 ·simp only [Act.put, List.setIfInBounds_toArray, List.set_cons_zero, List.set_cons_succ, i64_w, i32_w]
                  rfl
                 refine pure_ (i := 4) (N := some 131) (v := ?_) (a' := ?_) #[true, false, true, true, true, false, false, false, false, false] rfl rfl (any_of HT_.out (by kernel_rfl)) (fun _ _ _ h => h) (Or.inl ⟨by rfl, ?_⟩) ?_ ?_
                 rotate_left
                 ·intro w'
                  go_simp
                  with_reducible rfl
                 rotate_left
                 ·simp only [Act.put, List.setIfInBounds_toArray, List.set_cons_zero, List.set_cons_succ, i64_w, i32_w]
                  rfl
                 refine pure_ (i := 5) (N := some 132) (v := ?_) (a' := ?_) #[true, false, true, true, true, true, false, false, false, false] rfl rfl (any_of HT_.out (by kernel_rfl)) (fun _ _ _ h => h) (Or.inl ⟨by rfl, ?_⟩) ?_ ?_
                 rotate_left
                 ·intro w'
                  go_simp
                  with_reducible rfl
                 rotate_left
                 ·simp only [Act.put, List.setIfInBounds_toArray, List.set_cons_zero, List.set_cons_succ, i64_w, i32_w]
                  rfl
                 refine take_ (i := 1) (N := some 128) (v := ?_) (a' := ?_) #[true, true, true, true, true, true, false, false, false, false] rfl rfl (take_ofW HT_.out HW_.out (by kernel_rfl)) (fun _ _ _ h => h) (Or.inl ⟨by rfl, ?_⟩) hHeld ?_ ?_
                 rotate_left
                 ·rintro w' ⟨s0, s1, s2, s3, s4, s5, s6, s7⟩
                  go_simp
                  with_reducible rfl
                 rotate_left
                 ·simp only [Act.put, List.setIfInBounds_toArray, List.set_cons_zero, List.set_cons_succ, i64_w, i32_w]
                  rfl
                 refine take_ (i := 6) (N := some 133) (v := ?_) (a' := ?_) #[true, true, true, true, true, true, true, false, false, false] rfl rfl (take_ofW HT_.out HW_.out (by kernel_rfl)) (fun _ _ _ h => h) (Or.inl ⟨by rfl, ?_⟩) hHeld ?_ ?_
                 rotate_left
                 ·rintro w' ⟨s0, s1, s2, s3, s4, s5, s6, s7⟩
                  go_simp
                  with_reducible rfl
                 rotate_left
                 ·simp only [Act.put, List.setIfInBounds_toArray, List.set_cons_zero, List.set_cons_succ, i64_w, i32_w]
                  rfl
                 refine pure_ (i := 7) (N := some 134) (v := ?_) (a' := ?_) #[true, true, true, true, true, true, true, true, false, false] rfl rfl (any_of HT_.out (by kernel_rfl)) (fun _ _ _ h => h) (Or.inl ⟨by rfl, ?_⟩) ?_ ?_
                 rotate_left
                 ·intro w'
                  go_simp
                  with_reducible rfl
                 rotate_left
                 ·simp only [Act.put, List.setIfInBounds_toArray, List.set_cons_zero, List.set_cons_succ, i64_w, i32_w]
                  rfl
                 refine pure_ (i := 8) (N := some 135) (v := ?_) (a' := ?_) #[true, true, true, true, true, true, true, true, true, false] rfl rfl (any_of HT_.out (by kernel_rfl)) (fun _ _ _ h => h) (Or.inl ⟨by rfl, ?_⟩) ?_ ?_
                 rotate_left
                 ·intro w'
                  go_simp
                  with_reducible rfl
                 rotate_left
                 ·simp only [Act.put, List.setIfInBounds_toArray, List.set_cons_zero, List.set_cons_succ, i64_w, i32_w]
                  rfl
                 refine last_ (i := 9) (N := none) #[true, true, true, true, true, true, true, true, true, true] rfl rfl (one_of HT_.out (by kernel_rfl)) (by decide) (fun K hK => ?_)
                 have hs64 : w63.cell? ⟨gb162, 3, none⟩ = some (.int .i64 x163003_1) := (blk_cell BK162.out 3).trans rfl
                 have hfs64 := blk_frozen BK162.out 3
                 have hns64_0 := NB161_162.out
                 have hms64_0 := NB162_161.out
                 refine skip_ (w1 := ?_) (by rfl) rfl ?_ ?_
                 rotate_left
                 ·go_simp
                  rfl
                 refine hK.out _ _ ?_
                 clear hK K
                 refine done_ (done_of HT_.out (by kernel_rfl)) ?_
                 try go_wp2
                 go_roundg kj17
                 case measure => have := HK1.out; have := HJ8.out; have := HJ12.out; have := HJ17.out; omega
                 case rel => exact ⟨(x9_1), (x10_17), (wrap64 (x11_1 + 1)), (x162000_17), (x162001_17), (x162002_17), (x162003_17), (x162004_17), (x163000_1), (x163001_1), (x163002_17), (wrap64 (x163003_1 + ((rd_T36 l1 x11_1).f2))), (by first | rfl | (simp; done) | (simp [*]; done)), (by first | rfl | (simp; done) | (simp [*]; done)), (by first | rfl | (simp; done) | (simp [*]; done)), H', ⟨by have := HK1.out; have := HJ8.out; have := HJ12.out; have := HJ17.out; omega⟩, ⟨by (with_reducible repeat (first | refine blk_drewN ?_ _ | refine blk_drew ?_ | refine blk_alloc ?_ _)); refine blk_far ?_ NB161_162.out _; (with_reducible repeat (first | refine blk_drewN ?_ _ | refine blk_drew ?_ | refine blk_alloc ?_ _)); exact BK161.out⟩, ⟨by (with_reducible repeat (first | refine blk_drewN ?_ _ | refine blk_drew ?_ | refine blk_alloc ?_ _)); refine blk_put (cs := #[.int .i64 x163000_1, .int .i64 x163001_1, .int .i64 x163002_17, .int .i64 x163003_1, .int .i64 0]) ?_ 3 _ rfl; (with_reducible repeat (first | refine blk_drewN ?_ _ | refine blk_drew ?_ | refine blk_alloc ?_ _)); exact BK162.out⟩, ⟨by repeat (first | (with_reducible first | exact HB.out | apply below_alloc | apply pw_below_drewN | apply below_drew1 | refine below_set ?_ GE161.out | refine below_set ?_ GE162.out) | exact HB.out)⟩⟩
                ·rw [if_neg c62] at H
                 have c62b0 : (((rd_T36 l1 x11_1).f0) == 4) = false := beq_eq_false_iff_ne.mpr c62
                 have c62b1 : (((rd_T36 l1 x11_1).f0) != 4) = true := bne_iff_ne.mpr c62
                 by_cases c65 : ((rd_T36 l1 x11_1).f0) = 5
                 ·rw [if_pos c65] at H
                  have c65b0 : (((rd_T36 l1 x11_1).f0) == 5) = true := beq_iff_eq.mpr c65
                  have c65b1 : (((rd_T36 l1 x11_1).f0) != 5) = false := bne_eq_false_iff_eq.mpr c65
                  clear c65
                  have H' := Aside0.mk H
                  clear H
                  have p172 : 0 ≤ (x11_1 : Int) := of_decide_eq_true (by first | (with_reducible assumption) | assumption)
                  have q172 : x11_1 < (l1.length : Int) := of_decide_eq_true (by first | (with_reducible assumption) | assumption)
                  obtain ⟨ad172, e172, hx172_0, hx172_1, hx172_2⟩ := at_T36 HR1.out x11_1 p172 q172
                  cases e172
                  replace hx172_0 := (HB.out.cell (World.block_lt_of_cell? w _ hx172_0)).trans hx172_0
                  replace hx172_1 := (HB.out.cell (World.block_lt_of_cell? w _ hx172_1)).trans hx172_1
                  replace hx172_2 := (HB.out.cell (World.block_lt_of_cell? w _ hx172_2)).trans hx172_2
                  replace p172 := eq_true p172
                  replace q172 := eq_true q172
                  try go_wp2
                  have n0_ := Aside0.mk (blk_drew BK161.out)
                  have n1_ := Aside0.mk (blk_drew BK162.out)
                  have n2_ := Aside0.mk (below_drew1 HB.out)
                  clear BK161
                  clear BK162
                  clear HB
                  have BK161 := n0_
                  have BK162 := n1_
                  have HB := n2_
                  clear n0_ n1_ n2_
                  have p177 : 0 ≤ (x11_1 : Int) := of_decide_eq_true (by first | (with_reducible assumption) | assumption)
                  have q177 : x11_1 < (l1.length : Int) := of_decide_eq_true (by first | (with_reducible assumption) | assumption)
                  obtain ⟨ad177, e177, hx177_0, hx177_1, hx177_2⟩ := at_T36 HR1.out x11_1 p177 q177
                  have hw177_2 := hx177_2
                  have hw177_1 := hx177_1
                  have hw177_0 := hx177_0
                  obtain rfl : ad172 = ad177 := (by injection e177)
                  replace hx177_0 := (HB.out.cell (World.block_lt_of_cell? w _ hx177_0)).trans hx177_0
                  replace hx177_1 := (HB.out.cell (World.block_lt_of_cell? w _ hx177_1)).trans hx177_1
                  replace hx177_2 := (HB.out.cell (World.block_lt_of_cell? w _ hx177_2)).trans hx177_2
                  replace p177 := eq_true p177
                  replace q177 := eq_true q177
                  refine start_ (n := 10) (S := fun w' => w'.cell? ⟨gb162, 0, none⟩ = some (.int .i64 x163000_1) ∧ w'.cell? ⟨gb162, 1, none⟩ = some (.int .i64 x163001_1) ∧ w'.cell? ⟨gb162, 2, none⟩ = some (.int .i64 x163002_17) ∧ w'.cell? ⟨gb162, 3, none⟩ = some (.int .i64 x163003_1) ∧ w'.cell? ⟨gb162, 4, none⟩ = some (.int .i64 0) ∧ w'.cell? (ad172.add ((x11_1).toNat * 3)) = some (.int .i64 ((rd_T36 l1 x11_1).f0)) ∧ w'.cell? ⟨(ad172.add ((x11_1).toNat * 3)).block, (ad172.add ((x11_1).toNat * 3)).off + 1, none⟩ = some (.int .i64 ((rd_T36 l1 x11_1).f1)) ∧ w'.cell? ⟨(ad172.add ((x11_1).toNat * 3)).block, (ad172.add ((x11_1).toNat * 3)).off + 2, none⟩ = some (.int .i64 ((rd_T36 l1 x11_1).f2))) (ds := [9]) #[false, false, false, false, false, false, false, false, false, false] (by kernel_rfl) rfl rfl ⟨(blk_cell BK162.out 0).trans rfl, (blk_cell BK162.out 1).trans rfl, (blk_cell BK162.out 2).trans rfl, (blk_cell BK162.out 3).trans rfl, (blk_cell BK162.out 4).trans rfl, ((HB.out.cell (World.block_lt_of_cell? w _ hw177_0)).trans hw177_0), ((HB.out.cell (World.block_lt_of_cell? w _ hw177_1)).trans hw177_1), ((HB.out.cell (World.block_lt_of_cell? w _ hw177_2)).trans hw177_2)⟩ (fun hHeld => ?_); refine with_tabW cohousingref32_state.tab29 cohousingref32_state.bits29 (fun HT_ HW_ => ?_)
                  generalize wc.drew = w66 at BK161 BK162 HB hx177_0 hx177_1 hx177_2 hHeld ⊢
                  refine pure_ (i := 0) (N := some 138) (v := ?_) (a' := ?_) #[true, false, false, false, false, false, false, false, false, false] rfl rfl (any_of HT_.out (by kernel_rfl)) (fun _ _ _ h => h) (Or.inl ⟨by rfl, ?_⟩) ?_ ?_
                  rotate_left
                  ·intro w'
                   go_simp
                   with_reducible rfl
                  rotate_left
                  ·simp only [Act.put, List.setIfInBounds_toArray, List.set_cons_zero, List.set_cons_succ, i64_w, i32_w]
                   rfl
                  refine pure_ (i := 2) (N := some 140) (v := ?_) (a' := ?_) #[true, false, true, false, false, false, false, false, false, false] rfl rfl (any_of HT_.out (by kernel_rfl)) (fun _ _ _ h => h) (Or.inl ⟨by rfl, ?_⟩) ?_ ?_
                  rotate_left
                  ·intro w'
                   go_simp
                   with_reducible rfl
                  rotate_left
                  ·simp only [Act.put, List.setIfInBounds_toArray, List.set_cons_zero, List.set_cons_succ, i64_w, i32_w]
                   rfl
                  refine pure_ (i := 3) (N := some 141) (v := ?_) (a' := ?_) #[true, false, true, true, false, false, false, false, false, false] rfl rfl (any_of HT_.out (by kernel_rfl)) (fun _ _ _ h => h) (Or.inl ⟨by rfl, ?_⟩) ?_ ?_
                  rotate_left
                  ·intro w'
                   go_simp
                   with_reducible rfl
                  rotate_left
                  ·simp only [Act.put, List.setIfInBounds_toArray, List.set_cons_zero, List.set_cons_succ, i64_w, i32_w]
                   rfl
                  refine pure_ (i := 4) (N := some 142) (v := ?_) (a' := ?_) #[true, false, true, true, true, false, false, false, false, false] rfl rfl (any_of HT_.out (by kernel_rfl)) (fun _ _ _ h => h) (Or.inl ⟨by rfl, ?_⟩) ?_ ?_
                  rotate_left
                  ·intro w'
                   go_simp
                   with_reducible rfl
                  rotate_left
                  ·simp only [Act.put, List.setIfInBounds_toArray, List.set_cons_zero, List.set_cons_succ, i64_w, i32_w]
                   rfl
                  refine pure_ (i := 5) (N := some 143) (v := ?_) (a' := ?_) #[true, false, true, true, true, true, false, false, false, false] rfl rfl (any_of HT_.out (by kernel_rfl)) (fun _ _ _ h => h) (Or.inl ⟨by rfl, ?_⟩) ?_ ?_
                  rotate_left
                  ·intro w'
                   go_simp
                   with_reducible rfl
                  rotate_left
                  ·simp only [Act.put, List.setIfInBounds_toArray, List.set_cons_zero, List.set_cons_succ, i64_w, i32_w]
                   rfl
                  refine take_ (i := 1) (N := some 139) (v := ?_) (a' := ?_) #[true, true, true, true, true, true, false, false, false, false] rfl rfl (take_ofW HT_.out HW_.out (by kernel_rfl)) (fun _ _ _ h => h) (Or.inl ⟨by rfl, ?_⟩) hHeld ?_ ?_
                  rotate_left
                  ·rintro w' ⟨s0, s1, s2, s3, s4, s5, s6, s7⟩
                   go_simp
                   with_reducible rfl
                  rotate_left
                  ·simp only [Act.put, List.setIfInBounds_toArray, List.set_cons_zero, List.set_cons_succ, i64_w, i32_w]
                   rfl
                  refine take_ (i := 6) (N := some 144) (v := ?_) (a' := ?_) #[true, true, true, true, true, true, true, false, false, false] rfl rfl (take_ofW HT_.out HW_.out (by kernel_rfl)) (fun _ _ _ h => h) (Or.inl ⟨by rfl, ?_⟩) hHeld ?_ ?_
                  rotate_left
                  ·rintro w' ⟨s0, s1, s2, s3, s4, s5, s6, s7⟩
                   go_simp
                   with_reducible rfl
                  rotate_left
                  ·simp only [Act.put, List.setIfInBounds_toArray, List.set_cons_zero, List.set_cons_succ, i64_w, i32_w]
                   rfl
                  refine pure_ (i := 7) (N := some 145) (v := ?_) (a' := ?_) #[true, true, true, true, true, true, true, true, false, false] rfl rfl (any_of HT_.out (by kernel_rfl)) (fun _ _ _ h => h) (Or.inl ⟨by rfl, ?_⟩) ?_ ?_
                  rotate_left
                  ·intro w'
                   go_simp
                   with_reducible rfl
                  rotate_left
                  ·simp only [Act.put, List.setIfInBounds_toArray, List.set_cons_zero, List.set_cons_succ, i64_w, i32_w]
                   rfl
                  refine pure_ (i := 8) (N := some 146) (v := ?_) (a' := ?_) #[true, true, true, true, true, true, true, true, true, false] rfl rfl (any_of HT_.out (by kernel_rfl)) (fun _ _ _ h => h) (Or.inl ⟨by rfl, ?_⟩) ?_ ?_
                  rotate_left
                  ·intro w'
                   go_simp
                   with_reducible rfl
                  rotate_left
                  ·simp only [Act.put, List.setIfInBounds_toArray, List.set_cons_zero, List.set_cons_succ, i64_w, i32_w]
                   rfl
                  refine last_ (i := 9) (N := none) #[true, true, true, true, true, true, true, true, true, true] rfl rfl (one_of HT_.out (by kernel_rfl)) (by decide) (fun K hK => ?_)
                  have hs67 : w66.cell? ⟨gb162, 3, none⟩ = some (.int .i64 x163003_1) := (blk_cell BK162.out 3).trans rfl
                  have hfs67 := blk_frozen BK162.out 3
                  have hns67_0 := NB161_162.out
                  have hms67_0 := NB162_161.out
                  refine skip_ (w1 := ?_) (by rfl) rfl ?_ ?_
                  rotate_left
                  ·go_simp
                   rfl
                  refine hK.out _ _ ?_
                  clear hK K
                  refine done_ (done_of HT_.out (by kernel_rfl)) ?_
                  try go_wp2
                  go_roundg kj17
                  case measure => have := HK1.out; have := HJ8.out; have := HJ12.out; have := HJ17.out; omega
                  case rel => exact ⟨(x9_1), (x10_17), (wrap64 (x11_1 + 1)), (x162000_17), (x162001_17), (x162002_17), (x162003_17), (x162004_17), (x163000_1), (x163001_1), (x163002_17), (wrap64 (x163003_1 - ((rd_T36 l1 x11_1).f2))), (by first | rfl | (simp; done) | (simp [*]; done)), (by first | rfl | (simp; done) | (simp [*]; done)), (by first | rfl | (simp; done) | (simp [*]; done)), H', ⟨by have := HK1.out; have := HJ8.out; have := HJ12.out; have := HJ17.out; omega⟩, ⟨by (with_reducible repeat (first | refine blk_drewN ?_ _ | refine blk_drew ?_ | refine blk_alloc ?_ _)); refine blk_far ?_ NB161_162.out _; (with_reducible repeat (first | refine blk_drewN ?_ _ | refine blk_drew ?_ | refine blk_alloc ?_ _)); exact BK161.out⟩, ⟨by (with_reducible repeat (first | refine blk_drewN ?_ _ | refine blk_drew ?_ | refine blk_alloc ?_ _)); refine blk_put (cs := #[.int .i64 x163000_1, .int .i64 x163001_1, .int .i64 x163002_17, .int .i64 x163003_1, .int .i64 0]) ?_ 3 _ rfl; (with_reducible repeat (first | refine blk_drewN ?_ _ | refine blk_drew ?_ | refine blk_alloc ?_ _)); exact BK162.out⟩, ⟨by repeat (first | (with_reducible first | exact HB.out | apply below_alloc | apply pw_below_drewN | apply below_drew1 | refine below_set ?_ GE161.out | refine below_set ?_ GE162.out) | exact HB.out)⟩⟩
                 ·rw [if_neg c65] at H
                  have c65b0 : (((rd_T36 l1 x11_1).f0) == 5) = false := beq_eq_false_iff_ne.mpr c65
                  have c65b1 : (((rd_T36 l1 x11_1).f0) != 5) = true := bne_iff_ne.mpr c65
                  have H' := Aside0.mk H
                  clear H
                  have p172 : 0 ≤ (x11_1 : Int) := of_decide_eq_true (by first | (with_reducible assumption) | assumption)
                  have q172 : x11_1 < (l1.length : Int) := of_decide_eq_true (by first | (with_reducible assumption) | assumption)
                  obtain ⟨ad172, e172, hx172_0, hx172_1, hx172_2⟩ := at_T36 HR1.out x11_1 p172 q172
                  cases e172
                  replace hx172_0 := (HB.out.cell (World.block_lt_of_cell? w _ hx172_0)).trans hx172_0
                  replace hx172_1 := (HB.out.cell (World.block_lt_of_cell? w _ hx172_1)).trans hx172_1
                  replace hx172_2 := (HB.out.cell (World.block_lt_of_cell? w _ hx172_2)).trans hx172_2
                  replace p172 := eq_true p172
                  replace q172 := eq_true q172
                  go_wp2
                  go_roundg kj17
                  case measure => have := HK1.out; have := HJ8.out; have := HJ12.out; have := HJ17.out; omega
                  case rel => exact ⟨(x9_1), (x10_17), (wrap64 (x11_1 + 1)), (x162000_17), (x162001_17), (x162002_17), (x162003_17), (x162004_17), (x163000_1), (x163001_1), (x163002_17), (x163003_1), (by first | rfl | (simp; done) | (simp [*]; done)), (by first | rfl | (simp; done) | (simp [*]; done)), (by first | rfl | (simp; done) | (simp [*]; done)), H', ⟨by have := HK1.out; have := HJ8.out; have := HJ12.out; have := HJ17.out; omega⟩, ⟨by (with_reducible repeat (first | refine blk_drewN ?_ _ | refine blk_drew ?_ | refine blk_alloc ?_ _)); exact BK161.out⟩, ⟨by (with_reducible repeat (first | refine blk_drewN ?_ _ | refine blk_drew ?_ | refine blk_alloc ?_ _)); exact BK162.out⟩, ⟨by repeat (first | (with_reducible first | exact HB.out | apply below_alloc | apply pw_below_drewN | apply below_drew1 | refine below_set ?_ GE161.out | refine below_set ?_ GE162.out) | exact HB.out)⟩⟩
            ·rw [if_neg c54] at H
             exact absurd H (by simp)
           ·rw [if_neg c53] at H
            exact absurd H (by simp)
   ·rw [if_neg c8] at H
    have c8b0 : decide (x11_1 ≤ (l1.length : Int)) = false := decide_eq_false c8
    clear c8
    obtain ⟨ji68, hji68⟩ : ∃ j_ : Int, (mn x163000_1 x163001_1) = j_ := ⟨_, rfl⟩
    replace H : ((cohousingref02_Amount.f (mx 0 (wrap64 ((wrap64 ((ji68) + x163002_1)) - x163003_1)))).bind fun t163 => (if t163 = true then (some (x163000_1, x163001_1, x163002_1, x163003_1, mx 0 (wrap64 ((wrap64 ((ji68) + x163002_1)) - x163003_1)), 0)) else (some (0, 0, 0, 0, 0, 3)))) = some (r1, r2, r3, r4, r5, r6) := by first | (rw [hji68] at H; exact H) | (simp only [hji68] at H ⊢; exact H)
    have hji68_ : (if x163001_1 < x163000_1 then x163001_1 else x163000_1) = ji68 := hji68
    obtain ⟨ji69, hji69⟩ : ∃ j_ : Int, (mx 0 (wrap64 ((wrap64 ((ji68) + x163002_1)) - x163003_1))) = j_ := ⟨_, rfl⟩
    replace H : ((cohousingref02_Amount.f (ji69)).bind fun t163 => (if t163 = true then (some (x163000_1, x163001_1, x163002_1, x163003_1, ji69, 0)) else (some (0, 0, 0, 0, 0, 3)))) = some (r1, r2, r3, r4, r5, r6) := by first | (rw [hji69] at H; exact H) | (simp only [hji69] at H ⊢; exact H)
    have hji69_ : (if 0 < (wrap64 ((wrap64 ((ji68) + x163002_1)) - x163003_1)) then (wrap64 ((wrap64 ((ji68) + x163002_1)) - x163003_1)) else 0) = ji69 := hji69
    replace H := Option.bind_eq_some_iff.mp H
    obtain ⟨t163, A700, H⟩ := H
    replace H : (if t163 = true then (some (x163000_1, x163001_1, x163002_1, x163003_1, ji69, 0)) else (some (0, 0, 0, 0, 0, 3))) = some (r1, r2, r3, r4, r5, r6) := H
    have A70 := Aside0.mk A700
    clear A700
    by_cases c71 : t163 = true
    ·subst c71
     have H1 : (some (x163000_1, x163001_1, x163002_1, x163003_1, ji69, 0)) = some (r1, r2, r3, r4, r5, r6) := by rw [if_pos rfl] at H; exact H
     clear H
     have H := H1
     clear H1
     simp only [Option.some.injEq, Prod.mk.injEq] at H
     obtain ⟨rfl, rfl, rfl, rfl, rfl, rfl⟩ := H
     have hnb72 := NB162_161.out
     have hnc72 := NB161_162.out
     have hcz73_0 : wr.cell? ⟨gb162, 0, none⟩ = some (.int .i64 x163000_1) := (blk_cell BK162.out 0).trans rfl
     have hcz73_1 : wr.cell? ⟨gb162, 1, none⟩ = some (.int .i64 x163001_1) := (blk_cell BK162.out 1).trans rfl
     have hcz73_2 : wr.cell? ⟨gb162, 2, none⟩ = some (.int .i64 x163002_1) := (blk_cell BK162.out 2).trans rfl
     have hcz73_3 : wr.cell? ⟨gb162, 3, none⟩ = some (.int .i64 x163003_1) := (blk_cell BK162.out 3).trans rfl
     have hcz73_4 : wr.cell? ⟨gb162, 4, none⟩ = some (.int .i64 0) := (blk_cell BK162.out 4).trans rfl
     have hfz73_0 := blk_frozen BK162.out 0
     have hfz73_1 := blk_frozen BK162.out 1
     have hfz73_2 := blk_frozen BK162.out 2
     have hfz73_3 := blk_frozen BK162.out 3
     have hfz73_4 := blk_frozen BK162.out 4
     go_wp2_with (first | ((with_reducible refine gate_callee (f := 31) rfl ?_); refine goesL_ (some 162) rfl rfl Tryd.func31 (by kernel_rfl) rfl #[.int .i64 ji69] rfl (by (try simp only [List.map_toArray, List.map_cons, List.map_nil]); first | done | (simp only [hji69]; rfl) | rfl | (simp only [List.length_drop, List.length_take]; rfl)) ?_; (with_reducible refine (cohousingref02_Amount.calls ji69 true _ A70.out).mono ?_); rintro e w' ⟨rfl, ⟨nd, rfl⟩⟩; refine ⟨_, rfl, ?_⟩; have hcz74_0 : wr.cell? ⟨gb161, 0, none⟩ = some (.int .i64 x162000_1) := (blk_cell BK161.out 0).trans rfl; have hcz74_1 : wr.cell? ⟨gb161, 1, none⟩ = some (.int .i64 x162001_1) := (blk_cell BK161.out 1).trans rfl; have hcz74_2 : wr.cell? ⟨gb161, 2, none⟩ = some (.int .i64 x162002_1) := (blk_cell BK161.out 2).trans rfl; have hcz74_3 : wr.cell? ⟨gb161, 3, none⟩ = some (.int .i64 x162003_1) := (blk_cell BK161.out 3).trans rfl; have hcz74_4 : wr.cell? ⟨gb161, 4, none⟩ = some (.int .i64 x162004_1) := (blk_cell BK161.out 4).trans rfl; have hfz74_0 := blk_frozen BK161.out 0; have hfz74_1 := blk_frozen BK161.out 1; have hfz74_2 := blk_frozen BK161.out 2; have hfz74_3 := blk_frozen BK161.out 3; have hfz74_4 := blk_frozen BK161.out 4))
     refine bodyPost_ret (results_ct rfl _ _ gb161 26 #[.int .i64 x163000_1, .int .i64 x163001_1, .int .i64 x163002_1, .int .i64 x163003_1, .int .i64 ji69] (0, 0) _ rfl (by (with_reducible repeat (first | refine blk_drewN ?_ _ | refine blk_drew ?_ | refine blk_alloc ?_ _)); refine blk_put (cs := #[.int .i64 x163000_1, .int .i64 x163001_1, .int .i64 x163002_1, .int .i64 x163003_1, .int .i64 x162004_1]) ?_ 4 _ rfl; (with_reducible repeat (first | refine blk_drewN ?_ _ | refine blk_drew ?_ | refine blk_alloc ?_ _)); refine blk_put (cs := #[.int .i64 x163000_1, .int .i64 x163001_1, .int .i64 x163002_1, .int .i64 x162003_1, .int .i64 x162004_1]) ?_ 3 _ rfl; (with_reducible repeat (first | refine blk_drewN ?_ _ | refine blk_drew ?_ | refine blk_alloc ?_ _)); refine blk_put (cs := #[.int .i64 x163000_1, .int .i64 x163001_1, .int .i64 x162002_1, .int .i64 x162003_1, .int .i64 x162004_1]) ?_ 2 _ rfl; (with_reducible repeat (first | refine blk_drewN ?_ _ | refine blk_drew ?_ | refine blk_alloc ?_ _)); refine blk_put (cs := #[.int .i64 x163000_1, .int .i64 x162001_1, .int .i64 x162002_1, .int .i64 x162003_1, .int .i64 x162004_1]) ?_ 1 _ rfl; (with_reducible repeat (first | refine blk_drewN ?_ _ | refine blk_drew ?_ | refine blk_alloc ?_ _)); refine blk_put (cs := #[.int .i64 x162000_1, .int .i64 x162001_1, .int .i64 x162002_1, .int .i64 x162003_1, .int .i64 x162004_1]) ?_ 0 _ rfl; (with_reducible repeat (first | refine blk_drewN ?_ _ | refine blk_drew ?_ | refine blk_alloc ?_ _)); refine blk_far ?_ NB161_162.out _; (with_reducible repeat (first | refine blk_drewN ?_ _ | refine blk_drew ?_ | refine blk_alloc ?_ _)); exact BK161.out) Tryd.underlying26 rfl (by kernel_rfl)) rfl ?_
     exact ⟨by first | rfl | (simp [errW_none, errW_some] <;> rfl) | (simp only [← hji68, ← hji69]; first | rfl | (simp [errW_none, errW_some] <;> rfl)) | (simp [*, errW_none, errW_some] <;> rfl), by repeat (first | (with_reducible first | exact HB.out | apply below_alloc | apply pw_below_drewN | apply below_drew1 | refine below_set ?_ GE161.out | refine below_set ?_ GE162.out) | exact HB.out)⟩
    ·replace c71 := Bool.eq_false_iff.mpr c71
     subst c71
     have H1 : (some (0, 0, 0, 0, 0, 3)) = some (r1, r2, r3, r4, r5, r6) := by rw [if_neg (show ¬ (false = true) by decide)] at H; exact H
     clear H
     have H := H1
     clear H1
     simp only [Option.some.injEq, Prod.mk.injEq] at H
     obtain ⟨rfl, rfl, rfl, rfl, rfl, rfl⟩ := H
     have hnb75 := NB162_161.out
     have hnc75 := NB161_162.out
     have hcz76_0 : wr.cell? ⟨gb162, 0, none⟩ = some (.int .i64 x163000_1) := (blk_cell BK162.out 0).trans rfl
     have hcz76_1 : wr.cell? ⟨gb162, 1, none⟩ = some (.int .i64 x163001_1) := (blk_cell BK162.out 1).trans rfl
     have hcz76_2 : wr.cell? ⟨gb162, 2, none⟩ = some (.int .i64 x163002_1) := (blk_cell BK162.out 2).trans rfl
     have hcz76_3 : wr.cell? ⟨gb162, 3, none⟩ = some (.int .i64 x163003_1) := (blk_cell BK162.out 3).trans rfl
     have hcz76_4 : wr.cell? ⟨gb162, 4, none⟩ = some (.int .i64 0) := (blk_cell BK162.out 4).trans rfl
     have hfz76_0 := blk_frozen BK162.out 0
     have hfz76_1 := blk_frozen BK162.out 1
     have hfz76_2 := blk_frozen BK162.out 2
     have hfz76_3 := blk_frozen BK162.out 3
     have hfz76_4 := blk_frozen BK162.out 4
     go_wp2_with (first | ((with_reducible refine gate_callee (f := 31) rfl ?_); refine goesL_ (some 162) rfl rfl Tryd.func31 (by kernel_rfl) rfl #[.int .i64 ji69] rfl (by (try simp only [List.map_toArray, List.map_cons, List.map_nil]); first | done | (simp only [hji69]; rfl) | rfl | (simp only [List.length_drop, List.length_take]; rfl)) ?_; (with_reducible refine (cohousingref02_Amount.calls ji69 false _ A70.out).mono ?_); rintro e w' ⟨rfl, ⟨nd, rfl⟩⟩; refine ⟨_, rfl, ?_⟩; have hcz77_0 : wr.cell? ⟨gb161, 0, none⟩ = some (.int .i64 x162000_1) := (blk_cell BK161.out 0).trans rfl; have hcz77_1 : wr.cell? ⟨gb161, 1, none⟩ = some (.int .i64 x162001_1) := (blk_cell BK161.out 1).trans rfl; have hcz77_2 : wr.cell? ⟨gb161, 2, none⟩ = some (.int .i64 x162002_1) := (blk_cell BK161.out 2).trans rfl; have hcz77_3 : wr.cell? ⟨gb161, 3, none⟩ = some (.int .i64 x162003_1) := (blk_cell BK161.out 3).trans rfl; have hcz77_4 : wr.cell? ⟨gb161, 4, none⟩ = some (.int .i64 x162004_1) := (blk_cell BK161.out 4).trans rfl; have hfz77_0 := blk_frozen BK161.out 0; have hfz77_1 := blk_frozen BK161.out 1; have hfz77_2 := blk_frozen BK161.out 2; have hfz77_3 := blk_frozen BK161.out 3; have hfz77_4 := blk_frozen BK161.out 4))
     refine bodyPost_ret (results_ct rfl _ _ gb161 26 #[.int .i64 0, .int .i64 0, .int .i64 0, .int .i64 0, .int .i64 0] (0, 0) _ rfl (by (with_reducible repeat (first | refine blk_drewN ?_ _ | refine blk_drew ?_ | refine blk_alloc ?_ _)); refine blk_put (cs := #[.int .i64 0, .int .i64 0, .int .i64 0, .int .i64 0, .int .i64 x162004_1]) ?_ 4 _ rfl; (with_reducible repeat (first | refine blk_drewN ?_ _ | refine blk_drew ?_ | refine blk_alloc ?_ _)); refine blk_put (cs := #[.int .i64 0, .int .i64 0, .int .i64 0, .int .i64 x162003_1, .int .i64 x162004_1]) ?_ 3 _ rfl; (with_reducible repeat (first | refine blk_drewN ?_ _ | refine blk_drew ?_ | refine blk_alloc ?_ _)); refine blk_put (cs := #[.int .i64 0, .int .i64 0, .int .i64 x162002_1, .int .i64 x162003_1, .int .i64 x162004_1]) ?_ 2 _ rfl; (with_reducible repeat (first | refine blk_drewN ?_ _ | refine blk_drew ?_ | refine blk_alloc ?_ _)); refine blk_put (cs := #[.int .i64 0, .int .i64 x162001_1, .int .i64 x162002_1, .int .i64 x162003_1, .int .i64 x162004_1]) ?_ 1 _ rfl; (with_reducible repeat (first | refine blk_drewN ?_ _ | refine blk_drew ?_ | refine blk_alloc ?_ _)); refine blk_put (cs := #[.int .i64 x162000_1, .int .i64 x162001_1, .int .i64 x162002_1, .int .i64 x162003_1, .int .i64 x162004_1]) ?_ 0 _ rfl; (with_reducible repeat (first | refine blk_drewN ?_ _ | refine blk_drew ?_ | refine blk_alloc ?_ _)); refine blk_far ?_ NB161_162.out _; (with_reducible repeat (first | refine blk_drewN ?_ _ | refine blk_drew ?_ | refine blk_alloc ?_ _)); exact BK161.out) Tryd.underlying26 rfl (by kernel_rfl)) rfl ?_
     exact ⟨by first | rfl | (simp [errW_none, errW_some] <;> rfl) | (simp only [← hji68, ← hji69]; first | rfl | (simp [errW_none, errW_some] <;> rfl)) | (simp [*, errW_none, errW_some] <;> rfl), by repeat (first | (with_reducible first | exact HB.out | apply below_alloc | apply pw_below_drewN | apply below_drew1 | refine below_set ?_ GE161.out | refine below_set ?_ GE162.out) | exact HB.out)⟩

end Go.Proofs.YtdhnojfpgpjabaaDoor.P
