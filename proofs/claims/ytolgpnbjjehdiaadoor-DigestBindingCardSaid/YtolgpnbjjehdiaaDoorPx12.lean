-- Written by a program of this session out of the translation (wip/pp: the kit's print, turned). Not trusted: Lean checks it.
import Derived.Test.YtolgpnbjjehdiaaDoorPx0
import Derived.Test.YtolgpnbjjehdiaaDoorPx1
import Derived.Test.YtolgpnbjjehdiaaDoorPx2
namespace Go.Proofs.YtolgpnbjjehdiaaDoor.P
open Go.RowKit Go.Proofs.YtolgpnbjjehdiaaDoorW.PrintWords Go.Proofs.YtolgpnbjjehdiaaDoorW.PrintLast Go.Proofs.YtolgpnbjjehdiaaDoorW.PrintMore
attribute [local go_sem] max2_int min2_int max_two min_two max_three min_three max_four min_four   -- for this text's walks alone
set_option linter.unusedVariables false
set_option linter.unusedSimpArgs false

/-! ### cohousinglaw06_clash: function 24 -/
mutual
def cohousinglaw06_clash.l0 : Nat → Int → Int → List Int → List Int → List Int → List Int → Int → Option (Bool)
 | 0, _, _, _, _, _, _, _ => none
 | k + 1, x2, x3, x4, x5, x13, x14, x15 => (digest_Sum.f k x13).bind fun t345 => ((digest_Sum.f k x14).bind fun t346 => (if (strOfNums x13).toList = (strOfNums x14).toList then (cohousinglaw06_clash.j1 k x2 x3 x4 x5 x15 t345 t346 false) else (cohousinglaw06_clash.j1 k x2 x3 x4 x5 x15 t345 t346 (t345 == t346))))
def cohousinglaw06_clash.j1 : Nat → Int → Int → List Int → List Int → Int → Int → Int → Bool → Option (Bool)
 | 0, _, _, _, _, _, _, _, _ => none
 | k + 1, x2, x3, x4, x5, x15, x16, x17, x37 => if x37 = true then (some true) else (cohousinglaw06_clash.l1 k x2 x3 x4 x5 x15 x16 x17)
def cohousinglaw06_clash.j3 : Nat → Int → Int → List Int → List Int → Int → Int → Int → Option (Bool)
 | 0, _, _, _, _, _, _, _ => none
 | k + 1, x2, x3, x4, x5, x15, x16, x17 => if x3 ≤ 1 then (cohousinglaw06_clash.j4 k x2 x3 x4 x5 x15 x16 x17 true) else (if x15 ≥ (x4.length : Int) then (cohousinglaw06_clash.j4 k x2 x3 x4 x5 x15 x16 x17 true) else (cohousinglaw06_clash.j4 k x2 x3 x4 x5 x15 x16 x17 (decide (x15 ≥ (x5.length : Int)))))
def cohousinglaw06_clash.j4 : Nat → Int → Int → List Int → List Int → Int → Int → Int → Bool → Option (Bool)
 | 0, _, _, _, _, _, _, _, _ => none
 | k + 1, x2, x3, x4, x5, x15, x16, x17, x69 => if x69 = true then (some false) else (if (Int.tmod x2 2) = 1 then (if 0 ≤ x15 then (if x15 < (x4.length : Int) then ((cohousinglaw06_bytes.f k 1 (([rd x4 x15, x16] : List Int))).bind fun t351 => (if x15 < (x5.length : Int) then ((cohousinglaw06_bytes.f k 1 (([rd x5 x15, x17] : List Int))).bind fun t358 => (cohousinglaw06_clash.l0 k (wrap64 (Int.tdiv x2 2)) (wrap64 (Int.tdiv (wrap64 (x3 + 1)) 2)) x4 x5 t351 t358 (wrap64 (x15 + 1)))) else (none))) else (none)) else (none)) else (if 0 ≤ x15 then (if x15 < (x4.length : Int) then ((cohousinglaw06_bytes.f k 1 (([x16, rd x4 x15] : List Int))).bind fun t365 => (if x15 < (x5.length : Int) then ((cohousinglaw06_bytes.f k 1 (([x17, rd x5 x15] : List Int))).bind fun t372 => (cohousinglaw06_clash.l0 k (wrap64 (Int.tdiv x2 2)) (wrap64 (Int.tdiv (wrap64 (x3 + 1)) 2)) x4 x5 t365 t372 (wrap64 (x15 + 1)))) else (none))) else (none)) else (none)))
def cohousinglaw06_clash.l1 : Nat → Int → Int → List Int → List Int → Int → Int → Int → Option (Bool)
 | 0, _, _, _, _, _, _, _ => none
 | k + 1, x2, x3, x4, x5, x15, x16, x17 => if x3 > 1 then (if (Int.tmod x2 2) = 0 then (if (wrap64 (x2 + 1)) ≥ x3 then (cohousinglaw06_clash.l1 k (wrap64 (Int.tdiv x2 2)) (wrap64 (Int.tdiv (wrap64 (x3 + 1)) 2)) x4 x5 x15 x16 x17) else (cohousinglaw06_clash.j3 k x2 x3 x4 x5 x15 x16 x17)) else (cohousinglaw06_clash.j3 k x2 x3 x4 x5 x15 x16 x17)) else (cohousinglaw06_clash.j3 k x2 x3 x4 x5 x15 x16 x17)
end
def cohousinglaw06_clash.f (k : Nat) (a0 : Int) (a1 : Int) (a2 : Int) (a3 : Int) (l4 : List Int) (l5 : List Int) : Option (Bool) := (cohousinglaw06_bytes.f k 0 (([a0] : List Int))).bind fun t336 => ((cohousinglaw06_bytes.f k 0 (([a1] : List Int))).bind fun t342 => (cohousinglaw06_clash.l0 k a2 a3 l4 l5 t336 t342 0))
theorem cohousinglaw06_clash.mono_l : ∀ k, (∀ y0 y1 y2 y3 y4 y5 y6, LeO (cohousinglaw06_clash.l0 k y0 y1 y2 y3 y4 y5 y6) (cohousinglaw06_clash.l0 (k + 1) y0 y1 y2 y3 y4 y5 y6)) ∧ (∀ y0 y1 y2 y3 y4 y5 y6 y7, LeO (cohousinglaw06_clash.j1 k y0 y1 y2 y3 y4 y5 y6 y7) (cohousinglaw06_clash.j1 (k + 1) y0 y1 y2 y3 y4 y5 y6 y7)) ∧ (∀ y0 y1 y2 y3 y4 y5 y6, LeO (cohousinglaw06_clash.j3 k y0 y1 y2 y3 y4 y5 y6) (cohousinglaw06_clash.j3 (k + 1) y0 y1 y2 y3 y4 y5 y6)) ∧ (∀ y0 y1 y2 y3 y4 y5 y6 y7, LeO (cohousinglaw06_clash.j4 k y0 y1 y2 y3 y4 y5 y6 y7) (cohousinglaw06_clash.j4 (k + 1) y0 y1 y2 y3 y4 y5 y6 y7)) ∧ (∀ y0 y1 y2 y3 y4 y5 y6, LeO (cohousinglaw06_clash.l1 k y0 y1 y2 y3 y4 y5 y6) (cohousinglaw06_clash.l1 (k + 1) y0 y1 y2 y3 y4 y5 y6))
 | 0 => ⟨fun _ _ _ _ _ _ _ r h => by simp [cohousinglaw06_clash.l0] at h, fun _ _ _ _ _ _ _ _ r h => by simp [cohousinglaw06_clash.j1] at h, fun _ _ _ _ _ _ _ r h => by simp [cohousinglaw06_clash.j3] at h, fun _ _ _ _ _ _ _ _ r h => by simp [cohousinglaw06_clash.j4] at h, fun _ _ _ _ _ _ _ r h => by simp [cohousinglaw06_clash.l1] at h⟩
 | k + 1 => by
  obtain ⟨ih0, ih1, ih2, ih3, ih4⟩ := cohousinglaw06_clash.mono_l k
  refine ⟨?_, ?_, ?_, ?_, ?_⟩
  ·intro y0 y1 y2 y3 y4 y5 y6
   unfold cohousinglaw06_clash.l0
   repeat' first
   | (with_reducible exact ih0 _ _ _ _ _ _ _)
   | (with_reducible exact ih1 _ _ _ _ _ _ _ _)
   | (with_reducible exact ih2 _ _ _ _ _ _ _)
   | (with_reducible exact ih3 _ _ _ _ _ _ _ _)
   | (with_reducible exact ih4 _ _ _ _ _ _ _)
   | (with_reducible exact cohousinglaw06_bytes.mono _ _ _)
   | (with_reducible exact digest_Sum.mono _ _)
   | (with_reducible exact LeO.refl _)
   | (with_reducible exact LeO.none _)
   | (with_reducible refine LeO.ite ?_ ?_)
   | (with_reducible refine LeO.bind ?_ (fun _ => ?_))
   | exact ih0 _ _ _ _ _ _ _
   | exact ih1 _ _ _ _ _ _ _ _
   | exact ih2 _ _ _ _ _ _ _
   | exact ih3 _ _ _ _ _ _ _ _
   | exact ih4 _ _ _ _ _ _ _
   | exact cohousinglaw06_bytes.mono _ _ _
   | exact digest_Sum.mono _ _
   | exact LeO.none _
   | refine LeO.ite ?_ ?_
   | refine LeO.bind ?_ (fun _ => ?_)
  ·intro y0 y1 y2 y3 y4 y5 y6 y7
   unfold cohousinglaw06_clash.j1
   repeat' first
   | (with_reducible exact ih0 _ _ _ _ _ _ _)
   | (with_reducible exact ih1 _ _ _ _ _ _ _ _)
   | (with_reducible exact ih2 _ _ _ _ _ _ _)
   | (with_reducible exact ih3 _ _ _ _ _ _ _ _)
   | (with_reducible exact ih4 _ _ _ _ _ _ _)
   | (with_reducible exact cohousinglaw06_bytes.mono _ _ _)
   | (with_reducible exact digest_Sum.mono _ _)
   | (with_reducible exact LeO.refl _)
   | (with_reducible exact LeO.none _)
   | (with_reducible refine LeO.ite ?_ ?_)
   | (with_reducible refine LeO.bind ?_ (fun _ => ?_))
   | exact ih0 _ _ _ _ _ _ _
   | exact ih1 _ _ _ _ _ _ _ _
   | exact ih2 _ _ _ _ _ _ _
   | exact ih3 _ _ _ _ _ _ _ _
   | exact ih4 _ _ _ _ _ _ _
   | exact cohousinglaw06_bytes.mono _ _ _
   | exact digest_Sum.mono _ _
   | exact LeO.none _
   | refine LeO.ite ?_ ?_
   | refine LeO.bind ?_ (fun _ => ?_)
  ·intro y0 y1 y2 y3 y4 y5 y6
   unfold cohousinglaw06_clash.j3
   repeat' first
   | (with_reducible exact ih0 _ _ _ _ _ _ _)
   | (with_reducible exact ih1 _ _ _ _ _ _ _ _)
   | (with_reducible exact ih2 _ _ _ _ _ _ _)
   | (with_reducible exact ih3 _ _ _ _ _ _ _ _)
   | (with_reducible exact ih4 _ _ _ _ _ _ _)
   | (with_reducible exact cohousinglaw06_bytes.mono _ _ _)
   | (with_reducible exact digest_Sum.mono _ _)
   | (with_reducible exact LeO.refl _)
   | (with_reducible exact LeO.none _)
   | (with_reducible refine LeO.ite ?_ ?_)
   | (with_reducible refine LeO.bind ?_ (fun _ => ?_))
   | exact ih0 _ _ _ _ _ _ _
   | exact ih1 _ _ _ _ _ _ _ _
   | exact ih2 _ _ _ _ _ _ _
   | exact ih3 _ _ _ _ _ _ _ _
   | exact ih4 _ _ _ _ _ _ _
   | exact cohousinglaw06_bytes.mono _ _ _
   | exact digest_Sum.mono _ _
   | exact LeO.none _
   | refine LeO.ite ?_ ?_
   | refine LeO.bind ?_ (fun _ => ?_)
  ·intro y0 y1 y2 y3 y4 y5 y6 y7
   unfold cohousinglaw06_clash.j4
   repeat' first
   | (with_reducible exact ih0 _ _ _ _ _ _ _)
   | (with_reducible exact ih1 _ _ _ _ _ _ _ _)
   | (with_reducible exact ih2 _ _ _ _ _ _ _)
   | (with_reducible exact ih3 _ _ _ _ _ _ _ _)
   | (with_reducible exact ih4 _ _ _ _ _ _ _)
   | (with_reducible exact cohousinglaw06_bytes.mono _ _ _)
   | (with_reducible exact digest_Sum.mono _ _)
   | (with_reducible exact LeO.refl _)
   | (with_reducible exact LeO.none _)
   | (with_reducible refine LeO.ite ?_ ?_)
   | (with_reducible refine LeO.bind ?_ (fun _ => ?_))
   | exact ih0 _ _ _ _ _ _ _
   | exact ih1 _ _ _ _ _ _ _ _
   | exact ih2 _ _ _ _ _ _ _
   | exact ih3 _ _ _ _ _ _ _ _
   | exact ih4 _ _ _ _ _ _ _
   | exact cohousinglaw06_bytes.mono _ _ _
   | exact digest_Sum.mono _ _
   | exact LeO.none _
   | refine LeO.ite ?_ ?_
   | refine LeO.bind ?_ (fun _ => ?_)
  ·intro y0 y1 y2 y3 y4 y5 y6
   unfold cohousinglaw06_clash.l1
   repeat' first
   | (with_reducible exact ih0 _ _ _ _ _ _ _)
   | (with_reducible exact ih1 _ _ _ _ _ _ _ _)
   | (with_reducible exact ih2 _ _ _ _ _ _ _)
   | (with_reducible exact ih3 _ _ _ _ _ _ _ _)
   | (with_reducible exact ih4 _ _ _ _ _ _ _)
   | (with_reducible exact cohousinglaw06_bytes.mono _ _ _)
   | (with_reducible exact digest_Sum.mono _ _)
   | (with_reducible exact LeO.refl _)
   | (with_reducible exact LeO.none _)
   | (with_reducible refine LeO.ite ?_ ?_)
   | (with_reducible refine LeO.bind ?_ (fun _ => ?_))
   | exact ih0 _ _ _ _ _ _ _
   | exact ih1 _ _ _ _ _ _ _ _
   | exact ih2 _ _ _ _ _ _ _
   | exact ih3 _ _ _ _ _ _ _ _
   | exact ih4 _ _ _ _ _ _ _
   | exact cohousinglaw06_bytes.mono _ _ _
   | exact digest_Sum.mono _ _
   | exact LeO.none _
   | refine LeO.ite ?_ ?_
   | refine LeO.bind ?_ (fun _ => ?_)
theorem cohousinglaw06_clash.mono : ∀ a0 a1 a2 a3 a4 a5 k, LeO (cohousinglaw06_clash.f k a0 a1 a2 a3 a4 a5) (cohousinglaw06_clash.f (k + 1) a0 a1 a2 a3 a4 a5) := by
 intro a0 a1 a2 a3 a4 a5 k
 obtain ⟨ih0, ih1, ih2, ih3, ih4⟩ := cohousinglaw06_clash.mono_l k
 unfold cohousinglaw06_clash.f
 repeat' first
   | (with_reducible exact ih0 _ _ _ _ _ _ _)
   | (with_reducible exact ih1 _ _ _ _ _ _ _ _)
   | (with_reducible exact ih2 _ _ _ _ _ _ _)
   | (with_reducible exact ih3 _ _ _ _ _ _ _ _)
   | (with_reducible exact ih4 _ _ _ _ _ _ _)
   | (with_reducible exact cohousinglaw06_bytes.mono _ _ _)
   | (with_reducible exact digest_Sum.mono _ _)
   | (with_reducible exact LeO.refl _)
   | (with_reducible exact LeO.none _)
   | (with_reducible refine LeO.ite ?_ ?_)
   | (with_reducible refine LeO.bind ?_ (fun _ => ?_))
   | exact ih0 _ _ _ _ _ _ _
   | exact ih1 _ _ _ _ _ _ _ _
   | exact ih2 _ _ _ _ _ _ _
   | exact ih3 _ _ _ _ _ _ _ _
   | exact ih4 _ _ _ _ _ _ _
   | exact cohousinglaw06_bytes.mono _ _ _
   | exact digest_Sum.mono _ _
   | exact LeO.none _
   | refine LeO.ite ?_ ?_
   | refine LeO.bind ?_ (fun _ => ?_)
def cohousinglaw06_clash.T11 : Bool × List (List Nat × List Nat) := (true, [([], []), ([], []), ([0, 1], [0, 1]), ([2], [2]), ([], []), ([3, 4], [3, 4]), ([5], [5]), ([], []), ([], []), ([7, 8], [7, 8]), ([9], [9]), ([], []), ([10, 11], [10, 11]), ([12, 6], [12]), ([6, 13, 0, 1, 2, 3, 4, 5, 6], [6]), ([13, 14, 0, 1, 2, 3, 4, 5, 6, 7, 8, 9, 10, 11, 12, 13, 14], [13])])
def cohousinglaw06_clash.B11 : List Nat := [0, 0, 3, 7, 0, 31, 63, 0, 0, 384, 896, 0, 3968, 8191, 16383, 32767]
theorem cohousinglaw06_clash.tab11 : rtab .any (opsOf Tryd.f24 11) = cohousinglaw06_clash.T11 := by kernel_rfl
theorem cohousinglaw06_clash.bits11 : waitsOk cohousinglaw06_clash.T11.2 cohousinglaw06_clash.B11 = true := by kernel_rfl
def cohousinglaw06_clash.T12 : Bool × List (List Nat × List Nat) := (true, [([], []), ([], []), ([], []), ([1, 2], [1, 2]), ([3], [3]), ([0, 4], [0, 4]), ([5], [5]), ([], []), ([], []), ([], []), ([8, 9], [8, 9]), ([10], [10]), ([7, 11], [7, 11]), ([12, 6], [12]), ([6, 13, 0, 1, 2, 3, 4, 5, 6], [6]), ([13, 14, 0, 1, 2, 3, 4, 5, 6, 7, 8, 9, 10, 11, 12, 13, 14], [13])])
def cohousinglaw06_clash.B12 : List Nat := [0, 0, 0, 6, 14, 31, 63, 0, 0, 0, 768, 1792, 3968, 8191, 16383, 32767]
theorem cohousinglaw06_clash.tab12 : rtab .any (opsOf Tryd.f24 12) = cohousinglaw06_clash.T12 := by kernel_rfl
theorem cohousinglaw06_clash.bits12 : waitsOk cohousinglaw06_clash.T12.2 cohousinglaw06_clash.B12 = true := by kernel_rfl
set_option maxHeartbeats 8000000 in
set_option maxRecDepth 100000 in
theorem cohousinglaw06_clash.calls (k : Nat) (a0 : Int) (a1 : Int) (a2 : Int) (a3 : Int) (A4 : Option Addr) (c4 : Nat) (l4 : List Int) (A5 : Option Addr) (c5 : Nat) (l5 : List Int) (r : Bool) (w : World) (hr4 : Kd.C (Kd.int .u64) w A4 l4.length l4) (hc4 : l4.length ≤ c4) (hr5 : Kd.C (Kd.int .u64) w A5 l5.length l5) (hc5 : l5.length ≤ c5) (h : cohousinglaw06_clash.f k a0 a1 a2 a3 l4 l5 = some r) :
  Calls Tryd.prog 24 #[.int .u64 a0, .int .u64 a1, .int .i64 a2, .int .i64 a3, .slice A4 l4.length c4, .slice A5 l5.length c5] w fun e w' => e = .returned (.bool r) ∧ Below w.heap.size w w' := by
 have HR4 := Aside0.mk hr4
 have HC4 := Aside0.mk hc4
 clear hr4 hc4
 have HR5 := Aside0.mk hr5
 have HC5 := Aside0.mk hc5
 clear hr5 hc5
 have HB := Aside0.mk (Below.refl w.heap.size w)
 have H : ((cohousinglaw06_bytes.f k 0 (([a0] : List Int))).bind fun t336 => ((cohousinglaw06_bytes.f k 0 (([a1] : List Int))).bind fun t342 => (cohousinglaw06_clash.l0 k a2 a3 l4 l5 t336 t342 0))) = some r := h
 clear h
 obtain ⟨y333, hy333⟩ : ∃ y_ : List Int, y_ = (([a0] : List Int)) := ⟨_, rfl⟩
 replace H : ((cohousinglaw06_bytes.f k 0 y333).bind fun t336 => ((cohousinglaw06_bytes.f k 0 (([a1] : List Int))).bind fun t342 => (cohousinglaw06_clash.l0 k a2 a3 l4 l5 t336 t342 0))) = some r := by first | (rw [hy333]; with_reducible exact H) | (have H2_ := (Option.bind_some _ _).symm.trans H; rw [hy333]; with_reducible exact H2_) | (have H2_ := (Option.bind_some _ _).symm.trans H; with_reducible exact H2_) | with_reducible exact H | (rw [hy333]; exact H) | exact H
 have Ny333 := Aside0.mk hy333
 clear hy333
 replace H := Option.bind_eq_some_iff.mp H
 obtain ⟨t336, A70, H⟩ := H
 replace H : ((cohousinglaw06_bytes.f k 0 (([a1] : List Int))).bind fun t342 => (cohousinglaw06_clash.l0 k a2 a3 l4 l5 t336 t342 0)) = some r := H
 have A7 := Aside0.mk A70
 clear A70
 obtain ⟨y339, hy339⟩ : ∃ y_ : List Int, y_ = (([a1] : List Int)) := ⟨_, rfl⟩
 replace H : ((cohousinglaw06_bytes.f k 0 y339).bind fun t342 => (cohousinglaw06_clash.l0 k a2 a3 l4 l5 t336 t342 0)) = some r := by first | (rw [hy339]; with_reducible exact H) | (have H2_ := (Option.bind_some _ _).symm.trans H; rw [hy339]; with_reducible exact H2_) | (have H2_ := (Option.bind_some _ _).symm.trans H; with_reducible exact H2_) | with_reducible exact H | (rw [hy339]; exact H) | exact H
 have Ny339 := Aside0.mk hy339
 clear hy339
 replace H := Option.bind_eq_some_iff.mp H
 obtain ⟨t342, A80, H⟩ := H
 replace H : (cohousinglaw06_clash.l0 k a2 a3 l4 l5 t336 t342 0) = some r := H
 have A8 := Aside0.mk A80
 clear A80
 have H' := Aside0.mk H
 clear H
 go_enter Tryd.func24, Tryd.ntmps24
 go_wp2_with (first | ((with_reducible refine gate_dst (N := 19) rfl ?_); (try (refine gate_guard (by rfl) ?_; dsimp only)); refine Kd.R_lit (Kd.int .u64) _ 25 ?hg (N := 19) ?hd (xs := ([a0] : List Int)) (inner := [.int .u64 a0]) (ok := fun _ => True) (okp := fun _ => True) ?hr ?hp (fun _ hk => hk) trivial (Below.refl _ _) (Nat.le_refl _) (by simp) ?_; (case hd => rfl); (case hg => rfl); (case hr => first | (go_simp; done) | (go_simp; rfl)); (case hp => exact (Reps.one (show Kd.M (Kd.int .u64) _ _ _ a0 [.int .u64 a0] from rfl) (Reps.none _ _))); intro v334 w9 ho10 hb hg_ hnew_; clear hg_ hnew_; (first | rw [← Ny333.out] at ho10 | (simp only [Int.reduceToNat] at ho10; rw [← Ny333.out] at ho10)); have n0_ := Aside0.mk (Kd.R_lower ho10 (below_size (by repeat (first | (with_reducible first | exact HB.out | apply below_alloc | apply pw_below_drewN | apply below_drew1) | exact HB.out)))); have n1_ := Aside0.mk (below_step (by repeat (first | (with_reducible first | exact HB.out | apply below_alloc | apply pw_below_drewN | apply below_drew1) | exact HB.out)) hb); clear HB; have HO335 := n0_; have HB := n1_; clear n0_ n1_; clear hb ho10; obtain ⟨Ao11, co11, eo11⟩ := Kd.R_slice HO335.out; subst eo11) | ((with_reducible refine gate_callee (f := 23) rfl ?_); refine goesL_ (some 20) rfl rfl Tryd.func23 (by kernel_rfl) rfl #[.int .u8 0, .slice Ao11 y333.length co11] rfl (by (try simp only [List.map_toArray, List.map_cons, List.map_nil]); first | done | rfl | (simp only [List.length_drop, List.length_take]; rfl)) ?_; (with_reducible refine (cohousinglaw06_bytes.calls k 0 _ _ y333 t336 _ ?side1 ?side2 A7.out).mono ?_); (case side1 => repeat (first | exact (Kd.R_reads' HO335.out).2.2 | (with_reducible refine Kd.C_alloc ?_ _) | (with_reducible refine Kd.C_drewN ?_ _) | (with_reducible refine Kd.C_drew ?_))); (case side2 => exact (Kd.R_reads' HO335.out).2.1); rintro e w12 ⟨v337, rfl, ho0, hb⟩; refine ⟨_, rfl, ?_⟩; have n0_ := Aside0.mk (Kd.R_below (by (with_reducible repeat (first | apply Kd.R_alloc | apply Kd.R_drewN | apply Kd.R_drew)); exact HO335.out) hb); have n1_ := Aside0.mk (Kd.R_lower ho0 (below_size (by repeat (first | (with_reducible first | exact HB.out | apply below_alloc | apply pw_below_drewN | apply below_drew1) | exact HB.out)))); have n2_ := Aside0.mk (below_step (by repeat (first | (with_reducible first | exact HB.out | apply below_alloc | apply pw_below_drewN | apply below_drew1) | exact HB.out)) hb); clear HO335; clear HB; have HO335 := n0_; have HO338 := n1_; have HB := n2_; clear n0_ n1_ n2_; (try clear hb); (try clear hb2); (try clear hk); (try clear hi); (try clear ho0)) | ((with_reducible refine gate_dst (N := 22) rfl ?_); (try (refine gate_guard (by rfl) ?_; dsimp only)); refine Kd.R_lit (Kd.int .u64) _ 25 ?hg (N := 22) ?hd (xs := ([a1] : List Int)) (inner := [.int .u64 a1]) (ok := fun _ => True) (okp := fun _ => True) ?hr ?hp (fun _ hk => hk) trivial (Below.refl _ _) (Nat.le_refl _) (by simp) ?_; (case hd => rfl); (case hg => rfl); (case hr => first | (go_simp; done) | (go_simp; rfl)); (case hp => exact (Reps.one (show Kd.M (Kd.int .u64) _ _ _ a1 [.int .u64 a1] from rfl) (Reps.none _ _))); intro v340 w13 ho14 hb hg_ hnew_; clear hg_ hnew_; (first | rw [← Ny339.out] at ho14 | (simp only [Int.reduceToNat] at ho14; rw [← Ny339.out] at ho14)); have n0_ := Aside0.mk (Kd.R_elder' (by (with_reducible repeat (first | apply Kd.R_alloc | apply Kd.R_drewN | apply Kd.R_drew)); exact HO335.out) (Kd.R_base ho14) hb); have n1_ := Aside0.mk (Kd.R_below (by (with_reducible repeat (first | apply Kd.R_alloc | apply Kd.R_drewN | apply Kd.R_drew)); exact HO338.out) hb); have n2_ := Aside0.mk (Kd.R_lower (Kd.R_new' ho14 (Kd.R_lt (by (with_reducible repeat (first | apply Kd.R_alloc | apply Kd.R_drewN | apply Kd.R_drew)); exact HO335.out))) (below_size (by repeat (first | (with_reducible first | exact HB.out | apply below_alloc | apply pw_below_drewN | apply below_drew1) | exact HB.out)))); have n3_ := Aside0.mk (below_step (by repeat (first | (with_reducible first | exact HB.out | apply below_alloc | apply pw_below_drewN | apply below_drew1) | exact HB.out)) hb); clear HO335; clear HO338; clear HB; have HO335 := n0_; have HO338 := n1_; have HO341 := n2_; have HB := n3_; clear n0_ n1_ n2_ n3_; clear hb ho14; obtain ⟨Ao15, co15, eo15⟩ := Kd.R_slice HO341.out; subst eo15) | ((with_reducible refine gate_callee (f := 23) rfl ?_); refine goesL_ (some 23) rfl rfl Tryd.func23 (by kernel_rfl) rfl #[.int .u8 0, .slice Ao15 y339.length co15] rfl (by (try simp only [List.map_toArray, List.map_cons, List.map_nil]); first | done | rfl | (simp only [List.length_drop, List.length_take]; rfl)) ?_; (with_reducible refine (cohousinglaw06_bytes.calls k 0 _ _ y339 t342 _ ?side1 ?side2 A8.out).mono ?_); (case side1 => repeat (first | exact (Kd.R_reads' HO341.out).2.2 | (with_reducible refine Kd.C_alloc ?_ _) | (with_reducible refine Kd.C_drewN ?_ _) | (with_reducible refine Kd.C_drew ?_))); (case side2 => exact (Kd.R_reads' HO341.out).2.1); rintro e w16 ⟨v343, rfl, ho0, hb⟩; refine ⟨_, rfl, ?_⟩; have n0_ := Aside0.mk (Kd.R_below (by (with_reducible repeat (first | apply Kd.R_alloc | apply Kd.R_drewN | apply Kd.R_drew)); exact HO335.out) hb); have n1_ := Aside0.mk (Kd.R_elder' (by (with_reducible repeat (first | apply Kd.R_alloc | apply Kd.R_drewN | apply Kd.R_drew)); exact HO338.out) (Kd.R_base ho0) hb); have n2_ := Aside0.mk (Kd.R_below (by (with_reducible repeat (first | apply Kd.R_alloc | apply Kd.R_drewN | apply Kd.R_drew)); exact HO341.out) hb); have n3_ := Aside0.mk (Kd.R_lower (Kd.R_new' ho0 (Kd.R_lt (by (with_reducible repeat (first | apply Kd.R_alloc | apply Kd.R_drewN | apply Kd.R_drew)); exact HO338.out))) (below_size (by repeat (first | (with_reducible first | exact HB.out | apply below_alloc | apply pw_below_drewN | apply below_drew1) | exact HB.out)))); have n4_ := Aside0.mk (below_step (by repeat (first | (with_reducible first | exact HB.out | apply below_alloc | apply pw_below_drewN | apply below_drew1) | exact HB.out)) hb); clear HO335; clear HO338; clear HO341; clear HB; have HO335 := n0_; have HO338 := n1_; have HO341 := n2_; have HO344 := n3_; have HB := n4_; clear n0_ n1_ n2_ n3_ n4_; (try clear hb); (try clear hb2); (try clear hk); (try clear hi); (try clear ho0)))
 go_loopg [2, 3, 13, 14, 15] k (fun kq v2 v3 v13 v14 v15 w' => ∃ (x2_1 : Int) (x3_1 : Int) (x13_1 : List Int) (x14_1 : List Int) (x15_1 : Int), v2 = .int .i64 x2_1 ∧ v3 = .int .i64 x3_1 ∧ v15 = .int .i64 x15_1 ∧ Aside0 (cohousinglaw06_clash.l0 kq x2_1 x3_1 l4 l5 x13_1 x14_1 x15_1 = some r) ∧ Aside0 (kq ≤ k) ∧ Aside0 (Kd.R (Kd.int .u8) 5 w' w.heap.size (fun _ => True) v13 x13_1) ∧ Aside0 (Kd.R (Kd.int .u8) 5 w' w.heap.size (fun _ => True) v14 x14_1) ∧ Aside0 (Below w.heap.size w w'))
 case atStart => exact ⟨(a2), (a3), (t336), (t342), (0), (by first | rfl | (simp; done) | (simp [*]; done)), (by first | rfl | (simp; done) | (simp [*]; done)), (by first | rfl | (simp; done) | (simp [*]; done)), H', ⟨Nat.le_refl _⟩, ⟨by (with_reducible repeat (first | apply Kd.R_alloc | apply Kd.R_drewN | apply Kd.R_drew)); exact Kd.R_mono HO338.out (fun _ _ => trivial)⟩, ⟨by (with_reducible repeat (first | apply Kd.R_alloc | apply Kd.R_drewN | apply Kd.R_drew)); exact Kd.R_mono HO344.out (fun _ _ => trivial)⟩, ⟨by repeat (first | (with_reducible first | exact HB.out | apply below_alloc | apply pw_below_drewN | apply below_drew1) | exact HB.out)⟩⟩
 case round =>
  clear H'
  try clear c2
  try clear p2
  try clear c4
  try clear c5
  obtain ⟨x2_1, x3_1, x13_1, x14_1, x15_1, rfl, rfl, rfl, HA, HK1, HO_13, HO_14, HB⟩ := hrel
  cases gk with
  | zero => exact absurd HA.out (by simp [cohousinglaw06_clash.l0])
  | succ k1 =>
   have H := HA.out
   clear HA
   simp only [cohousinglaw06_clash.l0] at H
   replace H := Option.bind_eq_some_iff.mp H
   obtain ⟨t345, A170, H⟩ := H
   replace H : ((digest_Sum.f k1 x14_1).bind fun t346 => (if (strOfNums x13_1).toList = (strOfNums x14_1).toList then (cohousinglaw06_clash.j1 k1 x2_1 x3_1 l4 l5 x15_1 t345 t346 false) else (cohousinglaw06_clash.j1 k1 x2_1 x3_1 l4 l5 x15_1 t345 t346 (t345 == t346)))) = some r := H
   have A17 := Aside0.mk A170
   clear A170
   replace H := Option.bind_eq_some_iff.mp H
   obtain ⟨t346, A180, H⟩ := H
   replace H : (if (strOfNums x13_1).toList = (strOfNums x14_1).toList then (cohousinglaw06_clash.j1 k1 x2_1 x3_1 l4 l5 x15_1 t345 t346 false) else (cohousinglaw06_clash.j1 k1 x2_1 x3_1 l4 l5 x15_1 t345 t346 (t345 == t346))) = some r := H
   have A18 := Aside0.mk A180
   clear A180
   have HC19 := Aside0.mk H
   clear H
   obtain ⟨Ao20, co20, eo20⟩ := Kd.R_slice HO_13.out
   subst eo20
   go_upto_region 4 with (first | ((with_reducible refine gate_callee (f := 11) rfl ?_); refine goesL_ (some 25) rfl rfl Tryd.func11 (by kernel_rfl) rfl #[.slice Ao20 x13_1.length co20] rfl (by (try simp only [List.map_toArray, List.map_cons, List.map_nil]); first | done | rfl | (simp only [List.length_drop, List.length_take]; rfl)) ?_; (with_reducible refine (digest_Sum.calls k1 _ _ x13_1 t345 _ ?side1 ?side2 A17.out).mono ?_); (case side1 => repeat (first | exact (Kd.R_reads' HO_13.out).2.2 | (with_reducible refine Kd.C_alloc ?_ _) | (with_reducible refine Kd.C_drewN ?_ _) | (with_reducible refine Kd.C_drew ?_))); (case side2 => exact (Kd.R_reads' HO_13.out).2.1); rintro e w' ⟨rfl, ⟨nd, rfl⟩⟩; refine ⟨_, rfl, ?_⟩; obtain ⟨Ao21, co21, eo21⟩ := Kd.R_slice HO_14.out; subst eo21) | ((with_reducible refine gate_callee (f := 11) rfl ?_); refine goesL_ (some 27) rfl rfl Tryd.func11 (by kernel_rfl) rfl #[.slice Ao21 x14_1.length co21] rfl (by (try simp only [List.map_toArray, List.map_cons, List.map_nil]); first | done | rfl | (simp only [List.length_drop, List.length_take]; rfl)) ?_; (with_reducible refine (digest_Sum.calls k1 _ _ x14_1 t346 _ ?side1 ?side2 A18.out).mono ?_); (case side1 => repeat (first | exact (Kd.R_reads' HO_14.out).2.2 | (with_reducible refine Kd.C_alloc ?_ _) | (with_reducible refine Kd.C_drewN ?_ _) | (with_reducible refine Kd.C_drew ?_))); (case side2 => exact (Kd.R_reads' HO_14.out).2.1); rintro e w' ⟨rfl, ⟨nd, rfl⟩⟩; refine ⟨_, rfl, ?_⟩))
   (try simp only [Act.put, List.setIfInBounds_toArray, List.set_cons_zero, List.set_cons_succ])
   go_cut [37] (fun v37 wc => ∃ (kq : Nat) (x37_18 : Bool), v37 = .bool x37_18 ∧ Aside0 (cohousinglaw06_clash.j1 kq x2_1 x3_1 l4 l5 x15_1 t345 t346 x37_18 = some r) ∧ Aside0 (kq ≤ k1) ∧ Aside0 (Below w.heap.size w wc))
   case first =>
    have H := HC19.out
    clear HC19
    by_cases c22 : (strOfNums x13_1).toList = (strOfNums x14_1).toList
    ·rw [if_pos c22] at H
     have c22b0 : ((strOfNums x13_1).toList == (strOfNums x14_1).toList) = true := beq_iff_eq.mpr c22
     have c22b1 : ((strOfNums x13_1).toList != (strOfNums x14_1).toList) = false := bne_eq_false_iff_eq.mpr c22
     clear c22
     (first | rw [c22b0] | (simp only [i64_w, i32_w]; rw [c22b0]) | skip)
     have H' := Aside0.mk H
     clear H
     have hcv23 := own_string (P := Tryd.prog) Tryd.underlying22 Tryd.underlying5 Tryd.underlying9 (Kd.own_of_R HO_13.out)
     have hcv23d := fun n_ => own_string (P := Tryd.prog) Tryd.underlying22 Tryd.underlying5 Tryd.underlying9 (Kd.own_of_R (Kd.R_drewN HO_13.out n_))
     have hcv24 := own_string (P := Tryd.prog) Tryd.underlying22 Tryd.underlying5 Tryd.underlying9 (Kd.own_of_R HO_14.out)
     have hcv24d := fun n_ => own_string (P := Tryd.prog) Tryd.underlying22 Tryd.underlying5 Tryd.underlying9 (Kd.own_of_R (Kd.R_drewN HO_14.out n_))
     go_wp2
     go_meet
     case rel => exact ⟨_, (false), (by first | rfl | (simp; done) | (simp [*]; done)), H', ⟨by have := HK1.out; first | omega | exact Nat.le_refl _⟩, ⟨by repeat (first | (with_reducible first | exact HB.out | apply below_alloc | apply pw_below_drewN | apply below_drew1) | exact HB.out)⟩⟩
    ·rw [if_neg c22] at H
     have c22b0 : ((strOfNums x13_1).toList == (strOfNums x14_1).toList) = false := beq_eq_false_iff_ne.mpr c22
     have c22b1 : ((strOfNums x13_1).toList != (strOfNums x14_1).toList) = true := bne_iff_ne.mpr c22
     (first | rw [c22b0] | (simp only [i64_w, i32_w]; rw [c22b0]) | skip)
     have H' := Aside0.mk H
     clear H
     have hcv25 := own_string (P := Tryd.prog) Tryd.underlying22 Tryd.underlying5 Tryd.underlying9 (Kd.own_of_R HO_13.out)
     have hcv25d := fun n_ => own_string (P := Tryd.prog) Tryd.underlying22 Tryd.underlying5 Tryd.underlying9 (Kd.own_of_R (Kd.R_drewN HO_13.out n_))
     have hcv26 := own_string (P := Tryd.prog) Tryd.underlying22 Tryd.underlying5 Tryd.underlying9 (Kd.own_of_R HO_14.out)
     have hcv26d := fun n_ => own_string (P := Tryd.prog) Tryd.underlying22 Tryd.underlying5 Tryd.underlying9 (Kd.own_of_R (Kd.R_drewN HO_14.out n_))
     go_wp2
     go_meet
     case rel => exact ⟨_, ((t345 == t346)), (by first | rfl | (simp; done) | (simp [*]; done)), H', ⟨by have := HK1.out; first | omega | exact Nat.le_refl _⟩, ⟨by repeat (first | (with_reducible first | exact HB.out | apply below_alloc | apply pw_below_drewN | apply below_drew1) | exact HB.out)⟩⟩
   case rest =>
    clear HC19
    try clear c1
    try clear c2
    try clear p2
    try clear hcv2
    try clear c4
    try clear c5
    try clear c11
    try clear c22
    try clear c22b0
    try clear c22b1
    try clear c23
    try clear hcv23
    try clear c24
    try clear hcv24
    try clear hcv25
    try clear hcv26
    try clear p2
    obtain ⟨kq, x37_18, rfl, HA, HJ18, HB⟩ := hcut
    cases kq with
    | zero => exact absurd HA.out (by simp [cohousinglaw06_clash.j1])
    | succ kj18 =>
     have H := HA.out
     clear HA
     simp only [cohousinglaw06_clash.j1] at H
     by_cases c27 : x37_18 = true
     ·subst c27
      have H1 : (some true) = some r := by rw [if_pos rfl] at H; exact H
      clear H
      have H := H1
      clear H1
      obtain rfl := Option.some.inj H
      go_wp2
      go_ret
      exact ⟨by first | rfl | (simp [errW_none, errW_some] <;> rfl) | (simp [*, errW_none, errW_some] <;> rfl), by repeat (first | (with_reducible first | exact HB.out | apply below_alloc | apply pw_below_drewN | apply below_drew1) | exact HB.out)⟩
     ·replace c27 := Bool.eq_false_iff.mpr c27
      subst c27
      have H1 : (cohousinglaw06_clash.l1 kj18 x2_1 x3_1 l4 l5 x15_1 t345 t346) = some r := by rw [if_neg (show ¬ (false = true) by decide)] at H; exact H
      clear H
      have H := H1
      clear H1
      have HC28 := Aside0.mk H
      clear H
      go_upto_block 2 with (fail)
      go_cut [2, 3] (fun v2 v3 wc => ∃ (kq : Nat) (x2_27 : Int) (x3_27 : Int), v2 = .int .i64 x2_27 ∧ v3 = .int .i64 x3_27 ∧ Aside0 (cohousinglaw06_clash.j3 kq x2_27 x3_27 l4 l5 x15_1 t345 t346 = some r) ∧ Aside0 (kq ≤ kj18) ∧ Aside0 (Below w.heap.size w wc))
      case first =>
       have H := HC28.out
       clear HC28
       have H' := Aside0.mk H
       clear H
       go_wp2
       go_loopg [2, 3] kj18 (fun kq v2 v3 w' => ∃ (x2_3 : Int) (x3_3 : Int), v2 = .int .i64 x2_3 ∧ v3 = .int .i64 x3_3 ∧ Aside0 (cohousinglaw06_clash.l1 kq x2_3 x3_3 l4 l5 x15_1 t345 t346 = some r) ∧ Aside0 (kq ≤ kj18) ∧ Aside0 (Below w.heap.size w w'))
       case atStart => exact ⟨(x2_1), (x3_1), (by first | rfl | (simp; done) | (simp [*]; done)), (by first | rfl | (simp; done) | (simp [*]; done)), H', ⟨Nat.le_refl _⟩, ⟨by repeat (first | (with_reducible first | exact HB.out | apply below_alloc | apply pw_below_drewN | apply below_drew1) | exact HB.out)⟩⟩
       case round =>
        clear H'
        try clear c1
        try clear c2
        try clear p2
        try clear hcv2
        try clear c4
        try clear c5
        try clear c11
        try clear c22
        try clear c22b0
        try clear c22b1
        try clear c23
        try clear hcv23
        try clear c24
        try clear hcv24
        try clear hcv25
        try clear hcv26
        try clear c27
        try clear p2
        obtain ⟨x2_3, x3_3, rfl, rfl, HA, HK3, HB⟩ := hrel
        cases gk with
        | zero => exact absurd HA.out (by simp [cohousinglaw06_clash.l1])
        | succ k3 =>
         have H := HA.out
         clear HA
         simp only [cohousinglaw06_clash.l1] at H
         by_cases c29 : x3_3 > 1
         ·rw [if_pos c29] at H
          have c29b0 : decide (1 < x3_3) = true := decide_eq_true c29
          clear c29
          (first | rw [c29b0] | (simp only [i64_w, i32_w]; rw [c29b0]) | skip)
          by_cases c30 : (Int.tmod x2_3 2) = 0
          ·rw [if_pos c30] at H
           have c30b0 : ((Int.tmod x2_3 2) == 0) = true := beq_iff_eq.mpr c30
           have c30b1 : ((Int.tmod x2_3 2) != 0) = false := bne_eq_false_iff_eq.mpr c30
           clear c30
           by_cases c31 : (wrap64 (x2_3 + 1)) ≥ x3_3
           ·rw [if_pos c31] at H
            have c31b0 : decide (x3_3 ≤ (wrap64 (x2_3 + 1))) = true := decide_eq_true c31
            clear c31
            have H' := Aside0.mk H
            clear H
            go_wp2
            go_roundg k3
            case measure => have := HK1.out; have := HJ18.out; have := HK3.out; omega
            case rel => exact ⟨(wrap64 (Int.tdiv x2_3 2)), (wrap64 (Int.tdiv (wrap64 (x3_3 + 1)) 2)), (by first | rfl | (simp; done) | (simp [*]; done)), (by first | rfl | (simp; done) | (simp [*]; done)), H', ⟨by have := HK1.out; have := HJ18.out; have := HK3.out; omega⟩, ⟨by repeat (first | (with_reducible first | exact HB.out | apply below_alloc | apply pw_below_drewN | apply below_drew1) | exact HB.out)⟩⟩
           ·rw [if_neg c31] at H
            have c31b0 : decide (x3_3 ≤ (wrap64 (x2_3 + 1))) = false := decide_eq_false c31
            clear c31
            have H' := Aside0.mk H
            clear H
            go_wp2
            go_meet
            case rel => exact ⟨_, (x2_3), (x3_3), (by first | rfl | (simp; done) | (simp [*]; done)), (by first | rfl | (simp; done) | (simp [*]; done)), H', ⟨by have := HK1.out; have := HJ18.out; have := HK3.out; first | omega | exact Nat.le_refl _⟩, ⟨by repeat (first | (with_reducible first | exact HB.out | apply below_alloc | apply pw_below_drewN | apply below_drew1) | exact HB.out)⟩⟩
          ·rw [if_neg c30] at H
           have c30b0 : ((Int.tmod x2_3 2) == 0) = false := beq_eq_false_iff_ne.mpr c30
           have c30b1 : ((Int.tmod x2_3 2) != 0) = true := bne_iff_ne.mpr c30
           have H' := Aside0.mk H
           clear H
           go_wp2
           go_meet
           case rel => exact ⟨_, (x2_3), (x3_3), (by first | rfl | (simp; done) | (simp [*]; done)), (by first | rfl | (simp; done) | (simp [*]; done)), H', ⟨by have := HK1.out; have := HJ18.out; have := HK3.out; first | omega | exact Nat.le_refl _⟩, ⟨by repeat (first | (with_reducible first | exact HB.out | apply below_alloc | apply pw_below_drewN | apply below_drew1) | exact HB.out)⟩⟩
         ·rw [if_neg c29] at H
          have c29b0 : decide (1 < x3_3) = false := decide_eq_false c29
          clear c29
          (first | rw [c29b0] | (simp only [i64_w, i32_w]; rw [c29b0]) | skip)
          have H' := Aside0.mk H
          clear H
          go_wp2
          go_meet
          case rel => exact ⟨_, (x2_3), (x3_3), (by first | rfl | (simp; done) | (simp [*]; done)), (by first | rfl | (simp; done) | (simp [*]; done)), H', ⟨by have := HK1.out; have := HJ18.out; have := HK3.out; first | omega | exact Nat.le_refl _⟩, ⟨by repeat (first | (with_reducible first | exact HB.out | apply below_alloc | apply pw_below_drewN | apply below_drew1) | exact HB.out)⟩⟩
      case rest =>
       clear HC28
       try clear c1
       try clear c2
       try clear p2
       try clear hcv2
       try clear c3
       try clear c4
       try clear c5
       try clear p6
       try clear c11
       try clear c22
       try clear c22b0
       try clear c22b1
       try clear c23
       try clear hcv23
       try clear c24
       try clear hcv24
       try clear hcv25
       try clear hcv26
       try clear c27
       try clear c29
       try clear c29b0
       try clear c30
       try clear c30b0
       try clear c30b1
       try clear c31
       try clear c31b0
       try clear p2
       obtain ⟨kq, x2_27, x3_27, rfl, rfl, HA, HJ27, HB⟩ := hcut
       cases kq with
       | zero => exact absurd HA.out (by simp [cohousinglaw06_clash.j3])
       | succ kj27 =>
        have H := HA.out
        clear HA
        simp only [cohousinglaw06_clash.j3] at H
        have HC32 := Aside0.mk H
        clear H
        go_upto_region 8 with (fail)
        go_cut [69] (fun v69 wc => ∃ (kq : Nat) (x69_31 : Bool), v69 = .bool x69_31 ∧ Aside0 (cohousinglaw06_clash.j4 kq x2_27 x3_27 l4 l5 x15_1 t345 t346 x69_31 = some r) ∧ Aside0 (kq ≤ kj27) ∧ Aside0 (Below w.heap.size w wc))
        case first =>
         have H := HC32.out
         clear HC32
         by_cases c33 : x3_27 ≤ 1
         ·rw [if_pos c33] at H
          have c33b0 : decide (x3_27 ≤ 1) = true := decide_eq_true c33
          clear c33
          (first | rw [c33b0] | (simp only [i64_w, i32_w]; rw [c33b0]) | skip)
          have H' := Aside0.mk H
          clear H
          go_wp2
          go_meet
          case rel => exact ⟨_, (true), (by first | rfl | (simp; done) | (simp [*]; done)), H', ⟨by have := HK1.out; have := HJ18.out; have := HJ27.out; first | omega | exact Nat.le_refl _⟩, ⟨by repeat (first | (with_reducible first | exact HB.out | apply below_alloc | apply pw_below_drewN | apply below_drew1) | exact HB.out)⟩⟩
         ·rw [if_neg c33] at H
          have c33b0 : decide (x3_27 ≤ 1) = false := decide_eq_false c33
          clear c33
          (first | rw [c33b0] | (simp only [i64_w, i32_w]; rw [c33b0]) | skip)
          by_cases c34 : x15_1 ≥ (l4.length : Int)
          ·rw [if_pos c34] at H
           have c34b0 : decide ((l4.length : Int) ≤ x15_1) = true := decide_eq_true c34
           clear c34
           have H' := Aside0.mk H
           clear H
           go_wp2
           go_meet
           case rel => exact ⟨_, (true), (by first | rfl | (simp; done) | (simp [*]; done)), H', ⟨by have := HK1.out; have := HJ18.out; have := HJ27.out; first | omega | exact Nat.le_refl _⟩, ⟨by repeat (first | (with_reducible first | exact HB.out | apply below_alloc | apply pw_below_drewN | apply below_drew1) | exact HB.out)⟩⟩
          ·rw [if_neg c34] at H
           have c34b0 : decide ((l4.length : Int) ≤ x15_1) = false := decide_eq_false c34
           clear c34
           have H' := Aside0.mk H
           clear H
           go_wp2
           go_meet
           case rel => exact ⟨_, (decide (x15_1 ≥ (l5.length : Int))), (by first | rfl | (simp; done) | (simp [*]; done)), H', ⟨by have := HK1.out; have := HJ18.out; have := HJ27.out; first | omega | exact Nat.le_refl _⟩, ⟨by repeat (first | (with_reducible first | exact HB.out | apply below_alloc | apply pw_below_drewN | apply below_drew1) | exact HB.out)⟩⟩
        case rest =>
         clear HC32
         try clear c1
         try clear c2
         try clear p2
         try clear hcv2
         try clear c3
         try clear c4
         try clear c5
         try clear p6
         try clear c11
         try clear c22
         try clear c22b0
         try clear c22b1
         try clear c23
         try clear hcv23
         try clear c24
         try clear hcv24
         try clear hcv25
         try clear hcv26
         try clear c27
         try clear c29
         try clear c29b0
         try clear c30
         try clear c30b0
         try clear c30b1
         try clear c31
         try clear c31b0
         try clear c33
         try clear c33b0
         try clear c34
         try clear c34b0
         try clear p2
         try clear p6
         obtain ⟨kq, x69_31, rfl, HA, HJ31, HB⟩ := hcut
         cases kq with
         | zero => exact absurd HA.out (by simp [cohousinglaw06_clash.j4])
         | succ kj31 =>
          have H := HA.out
          clear HA
          simp only [cohousinglaw06_clash.j4] at H
          by_cases c35 : x69_31 = true
          ·subst c35
           have H1 : (some false) = some r := by rw [if_pos rfl] at H; exact H
           clear H
           have H := H1
           clear H1
           obtain rfl := Option.some.inj H
           go_wp2
           go_ret
           exact ⟨by first | rfl | (simp [errW_none, errW_some] <;> rfl) | (simp [*, errW_none, errW_some] <;> rfl), by repeat (first | (with_reducible first | exact HB.out | apply below_alloc | apply pw_below_drewN | apply below_drew1) | exact HB.out)⟩
          ·replace c35 := Bool.eq_false_iff.mpr c35
           subst c35
           have H1 : (if (Int.tmod x2_27 2) = 1 then (if 0 ≤ x15_1 then (if x15_1 < (l4.length : Int) then ((cohousinglaw06_bytes.f kj31 1 (([rd l4 x15_1, t345] : List Int))).bind fun t351 => (if x15_1 < (l5.length : Int) then ((cohousinglaw06_bytes.f kj31 1 (([rd l5 x15_1, t346] : List Int))).bind fun t358 => (cohousinglaw06_clash.l0 kj31 (wrap64 (Int.tdiv x2_27 2)) (wrap64 (Int.tdiv (wrap64 (x3_27 + 1)) 2)) l4 l5 t351 t358 (wrap64 (x15_1 + 1)))) else (none))) else (none)) else (none)) else (if 0 ≤ x15_1 then (if x15_1 < (l4.length : Int) then ((cohousinglaw06_bytes.f kj31 1 (([t345, rd l4 x15_1] : List Int))).bind fun t365 => (if x15_1 < (l5.length : Int) then ((cohousinglaw06_bytes.f kj31 1 (([t346, rd l5 x15_1] : List Int))).bind fun t372 => (cohousinglaw06_clash.l0 kj31 (wrap64 (Int.tdiv x2_27 2)) (wrap64 (Int.tdiv (wrap64 (x3_27 + 1)) 2)) l4 l5 t365 t372 (wrap64 (x15_1 + 1)))) else (none))) else (none)) else (none))) = some r := by rw [if_neg (show ¬ (false = true) by decide)] at H; exact H
           clear H
           have H := H1
           clear H1
           by_cases c36 : (Int.tmod x2_27 2) = 1
           ·rw [if_pos c36] at H
            have c36b0 : ((Int.tmod x2_27 2) == 1) = true := beq_iff_eq.mpr c36
            have c36b1 : ((Int.tmod x2_27 2) != 1) = false := bne_eq_false_iff_eq.mpr c36
            clear c36
            by_cases c37 : 0 ≤ x15_1
            ·rw [if_pos c37] at H
             have c37b0 : decide (0 ≤ x15_1) = true := decide_eq_true c37
             clear c37
             by_cases c38 : x15_1 < (l4.length : Int)
             ·rw [if_pos c38] at H
              have c38b0 : decide (x15_1 < (l4.length : Int)) = true := decide_eq_true c38
              clear c38
              obtain ⟨y348, hy348⟩ : ∃ y_ : List Int, y_ = (([rd l4 x15_1, t345] : List Int)) := ⟨_, rfl⟩
              replace H : ((cohousinglaw06_bytes.f kj31 1 y348).bind fun t351 => (if x15_1 < (l5.length : Int) then ((cohousinglaw06_bytes.f kj31 1 (([rd l5 x15_1, t346] : List Int))).bind fun t358 => (cohousinglaw06_clash.l0 kj31 (wrap64 (Int.tdiv x2_27 2)) (wrap64 (Int.tdiv (wrap64 (x3_27 + 1)) 2)) l4 l5 t351 t358 (wrap64 (x15_1 + 1)))) else (none))) = some r := by first | (rw [hy348]; with_reducible exact H) | (have H2_ := (Option.bind_some _ _).symm.trans H; rw [hy348]; with_reducible exact H2_) | (have H2_ := (Option.bind_some _ _).symm.trans H; with_reducible exact H2_) | with_reducible exact H | (rw [hy348]; exact H) | exact H
              have Ny348 := Aside0.mk hy348
              clear hy348
              replace H := Option.bind_eq_some_iff.mp H
              obtain ⟨t351, A390, H⟩ := H
              replace H : (if x15_1 < (l5.length : Int) then ((cohousinglaw06_bytes.f kj31 1 (([rd l5 x15_1, t346] : List Int))).bind fun t358 => (cohousinglaw06_clash.l0 kj31 (wrap64 (Int.tdiv x2_27 2)) (wrap64 (Int.tdiv (wrap64 (x3_27 + 1)) 2)) l4 l5 t351 t358 (wrap64 (x15_1 + 1)))) else (none)) = some r := H
              have A39 := Aside0.mk A390
              clear A390
              by_cases c40 : x15_1 < (l5.length : Int)
              ·rw [if_pos c40] at H
               have c40b0 : decide (x15_1 < (l5.length : Int)) = true := decide_eq_true c40
               clear c40
               obtain ⟨y355, hy355⟩ : ∃ y_ : List Int, y_ = (([rd l5 x15_1, t346] : List Int)) := ⟨_, rfl⟩
               replace H : ((cohousinglaw06_bytes.f kj31 1 y355).bind fun t358 => (cohousinglaw06_clash.l0 kj31 (wrap64 (Int.tdiv x2_27 2)) (wrap64 (Int.tdiv (wrap64 (x3_27 + 1)) 2)) l4 l5 t351 t358 (wrap64 (x15_1 + 1)))) = some r := by first | (rw [hy355]; with_reducible exact H) | (have H2_ := (Option.bind_some _ _).symm.trans H; rw [hy355]; with_reducible exact H2_) | (have H2_ := (Option.bind_some _ _).symm.trans H; with_reducible exact H2_) | with_reducible exact H | (rw [hy355]; exact H) | exact H
               have Ny355 := Aside0.mk hy355
               clear hy355
               replace H := Option.bind_eq_some_iff.mp H
               obtain ⟨t358, A410, H⟩ := H
               replace H : (cohousinglaw06_clash.l0 kj31 (wrap64 (Int.tdiv x2_27 2)) (wrap64 (Int.tdiv (wrap64 (x3_27 + 1)) 2)) l4 l5 t351 t358 (wrap64 (x15_1 + 1))) = some r := H
               have A41 := Aside0.mk A410
               clear A410
               have H' := Aside0.mk H
               clear H
               try go_wp2
               have n0_ := Aside0.mk (below_drew1 HB.out)
               clear HB
               have HB := n0_
               clear n0_
               have p347 : 0 ≤ (x15_1 : Int) := of_decide_eq_true (by first | (with_reducible assumption) | assumption)
               have q347 : x15_1 < (l4.length : Int) := of_decide_eq_true (by first | (with_reducible assumption) | assumption)
               obtain ⟨ad347, e347, hx347_0⟩ := Kd.at_int HR4.out x15_1 p347 q347
               have hw347_0 := hx347_0
               cases e347
               replace hx347_0 := (HB.out.cell (World.block_lt_of_cell? w _ hx347_0)).trans hx347_0
               replace p347 := eq_true p347
               replace q347 := eq_true q347
               have p354 : 0 ≤ (x15_1 : Int) := of_decide_eq_true (by first | (with_reducible assumption) | assumption)
               have q354 : x15_1 < (l5.length : Int) := of_decide_eq_true (by first | (with_reducible assumption) | assumption)
               obtain ⟨ad354, e354, hx354_0⟩ := Kd.at_int HR5.out x15_1 p354 q354
               have hw354_0 := hx354_0
               cases e354
               replace hx354_0 := (HB.out.cell (World.block_lt_of_cell? w _ hx354_0)).trans hx354_0
               replace p354 := eq_true p354
               replace q354 := eq_true q354
               refine start_ (n := 16) (S := fun w' => True) (ds := []) #[false, false, false, false, false, false, false, false, false, false, false, false, false, false, false, false] (by kernel_rfl) rfl rfl trivial (fun hHeld => ?_); refine with_tabW cohousinglaw06_clash.tab11 cohousinglaw06_clash.bits11 (fun HT_ HW_ => ?_)
               generalize wc.drew = w42 at HB hx347_0 hx354_0 hHeld ⊢
               refine pure_ (i := 0) (N := some 73) (v := ?_) (a' := ?_) #[true, false, false, false, false, false, false, false, false, false, false, false, false, false, false, false] rfl rfl (any_of HT_.out (by kernel_rfl)) (fun _ _ _ h => h) (Or.inl ⟨by rfl, ?_⟩) ?_ ?_
               rotate_left
               ·intro w'
                go_simp
                with_reducible rfl
               rotate_left
               ·simp only [Act.put, List.setIfInBounds_toArray, List.set_cons_zero, List.set_cons_succ, i64_w, i32_w]
                rfl
               refine pure_ (i := 1) (N := some 74) (v := ?_) (a' := ?_) #[true, true, false, false, false, false, false, false, false, false, false, false, false, false, false, false] rfl rfl (any_of HT_.out (by kernel_rfl)) (fun _ _ _ h => h) (Or.inl ⟨by rfl, ?_⟩) ?_ ?_
               rotate_left
               ·intro w'
                go_simp
                with_reducible rfl
               rotate_left
               ·simp only [Act.put, List.setIfInBounds_toArray, List.set_cons_zero, List.set_cons_succ, i64_w, i32_w]
                rfl
               refine pure_ (i := 4) (N := some 77) (v := ?_) (a' := ?_) #[true, true, false, false, true, false, false, false, false, false, false, false, false, false, false, false] rfl rfl (any_of HT_.out (by kernel_rfl)) (fun _ _ _ h => h) (Or.inl ⟨by rfl, ?_⟩) ?_ ?_
               rotate_left
               ·intro w'
                go_simp
                with_reducible rfl
               rotate_left
               ·simp only [Act.put, List.setIfInBounds_toArray, List.set_cons_zero, List.set_cons_succ, i64_w, i32_w]
                rfl
               refine pure_ (i := 7) (N := some 80) (v := ?_) (a' := ?_) #[true, true, false, false, true, false, false, true, false, false, false, false, false, false, false, false] rfl rfl (any_of HT_.out (by kernel_rfl)) (fun _ _ _ h => h) (Or.inl ⟨by rfl, ?_⟩) ?_ ?_
               rotate_left
               ·intro w'
                go_simp
                with_reducible rfl
               rotate_left
               ·simp only [Act.put, List.setIfInBounds_toArray, List.set_cons_zero, List.set_cons_succ, i64_w, i32_w]
                rfl
               refine pure_ (i := 8) (N := some 81) (v := ?_) (a' := ?_) #[true, true, false, false, true, false, false, true, true, false, false, false, false, false, false, false] rfl rfl (any_of HT_.out (by kernel_rfl)) (fun _ _ _ h => h) (Or.inl ⟨by rfl, ?_⟩) ?_ ?_
               rotate_left
               ·intro w'
                go_simp
                with_reducible rfl
               rotate_left
               ·simp only [Act.put, List.setIfInBounds_toArray, List.set_cons_zero, List.set_cons_succ, i64_w, i32_w]
                rfl
               refine pure_ (i := 11) (N := some 84) (v := ?_) (a' := ?_) #[true, true, false, false, true, false, false, true, true, false, false, true, false, false, false, false] rfl rfl (any_of HT_.out (by kernel_rfl)) (fun _ _ _ h => h) (Or.inl ⟨by rfl, ?_⟩) ?_ ?_
               rotate_left
               ·intro w'
                go_simp
                with_reducible rfl
               rotate_left
               ·simp only [Act.put, List.setIfInBounds_toArray, List.set_cons_zero, List.set_cons_succ, i64_w, i32_w]
                rfl
               refine inv_at [2, 3, 5, 6, 9, 10, 12, 13, 14, 15] (fun a0_ b a w' => ∃ (v349 : Value) (v352 : Value) (v356 : Value) (v359 : Value) (m14_ : Value) (m15_ : Value), a = putSel a0_ b [(2, 75, .pointer (some (ad347.add (x15_1).toNat))), (3, 76, .int .u64 (rd l4 x15_1)), (5, 78, v349), (6, 79, v352), (9, 82, .pointer (some (ad354.add (x15_1).toNat))), (10, 83, .int .u64 (rd l5 x15_1)), (12, 85, v356), (13, 86, v359), (14, 13, m14_), (15, 14, m15_)] ∧ (Below w.heap.size w w') ∧ (b 5 = true → Kd.R (Kd.int .u64) 25 w' w.heap.size (fun _ => True) v349 y348) ∧ (b 6 = true → Kd.R (Kd.int .u8) 5 w' w.heap.size (fun _ => True) v352 t351) ∧ (b 12 = true → Kd.R (Kd.int .u64) 25 w' w.heap.size (fun _ => True) v356 y355) ∧ (b 13 = true → Kd.R (Kd.int .u8) 5 w' w.heap.size (fun _ => True) v359 t358) ∧ (b 14 = true → (m14_ : Value) = v352) ∧ (b 15 = true → (m15_ : Value) = v359)) HT_.out HW_.out (by kernel_rfl) (by kernel_rfl) ?_ ?_ ?_
               ·exact ⟨.bool false, .bool false, .bool false, .bool false, .bool false, .bool false, by simp only [putSel, Bool.false_eq_true, if_false], HB.out, fun h_ => absurd h_ (by decide), fun h_ => absurd h_ (by decide), fun h_ => absurd h_ (by decide), fun h_ => absurd h_ (by decide), fun h_ => absurd h_ (by decide), fun h_ => absurd h_ (by decide)⟩
               ·skip
                clear HB
                refine steps_cons ?_ ?_
                ·rintro b a w' ⟨v349, v352, v356, v359, m14_, m15_, ha, Q_HB, Q_HO350, Q_HO353, Q_HO357, Q_HO360, Q_X14_, Q_X15_⟩ hb_ hon hoff
                 refine ⟨_, rfl, fun K hK => ?_⟩
                 have e73 : a.tmps[73]? = some (.slice (some ad347) l4.length c4) := by rw [ha]; exact (putSel_off rfl).trans rfl
                 have e74 : a.tmps[74]? = some (.int .i64 x15_1) := by rw [ha]; exact (putSel_off rfl).trans rfl
                 replace ha := Aside0.mk ha
                 have HB := Aside0.mk Q_HB
                 have hs0_ : w'.cell? (ad347.add (x15_1).toNat) = some (.int .u64 (rd l4 x15_1)) := ((HB.out.cell (World.block_lt_of_cell? w _ hw347_0)).trans hw347_0)
                 refine value_ (w1 := w') (v := .pointer (some (ad347.add (x15_1).toNat))) (by rfl) rfl ?_ ?_
                 ·go_simp
                  (try simp only [i64_w])
                  try rfl
                 refine hK.out _ _ ⟨v349, v352, v356, v359, m14_, m15_, (by rw [ha.out]; exact putSel_upk 0 hb_ rfl rfl rfl), Q_HB, fun h0_ => absurd ((hoff 5 (by kernel_rfl)).symm.trans h0_) (by decide), fun h0_ => absurd ((hoff 6 (by kernel_rfl)).symm.trans h0_) (by decide), Q_HO357, fun h0_ => absurd ((hoff 13 (by kernel_rfl)).symm.trans h0_) (by decide), fun h0_ => absurd ((hoff 14 (by kernel_rfl)).symm.trans h0_) (by decide), fun h0_ => absurd ((hoff 15 (by kernel_rfl)).symm.trans h0_) (by decide)⟩
                refine steps_cons ?_ ?_
                ·rintro b a w' ⟨v349, v352, v356, v359, m14_, m15_, ha, Q_HB, Q_HO350, Q_HO353, Q_HO357, Q_HO360, Q_X14_, Q_X15_⟩ hb_ hon hoff
                 refine ⟨_, rfl, fun K hK => ?_⟩
                 have e75 : a.tmps[75]? = some (.pointer (some (ad347.add (x15_1).toNat))) := by rw [ha]; exact putSel_on (e := (2, 75, .pointer (some (ad347.add (x15_1).toNat)))) 0 rfl rfl (hon 2 (by kernel_rfl)) rfl
                 replace ha := Aside0.mk ha
                 have HB := Aside0.mk Q_HB
                 have hs0_ : w'.cell? (ad347.add (x15_1).toNat) = some (.int .u64 (rd l4 x15_1)) := ((HB.out.cell (World.block_lt_of_cell? w _ hw347_0)).trans hw347_0)
                 refine value_ (w1 := w') (v := .int .u64 (rd l4 x15_1)) (by rfl) rfl ?_ ?_
                 ·go_simp
                  (try simp only [i64_w])
                  try rfl
                 refine hK.out _ _ ⟨v349, v352, v356, v359, m14_, m15_, (by rw [ha.out]; exact putSel_upk 1 hb_ rfl rfl rfl), Q_HB, fun h0_ => absurd ((hoff 5 (by kernel_rfl)).symm.trans h0_) (by decide), fun h0_ => absurd ((hoff 6 (by kernel_rfl)).symm.trans h0_) (by decide), Q_HO357, fun h0_ => absurd ((hoff 13 (by kernel_rfl)).symm.trans h0_) (by decide), fun h0_ => absurd ((hoff 14 (by kernel_rfl)).symm.trans h0_) (by decide), fun h0_ => absurd ((hoff 15 (by kernel_rfl)).symm.trans h0_) (by decide)⟩
                refine steps_cons ?_ ?_
                ·rintro b a w' ⟨v349, v352, v356, v359, m14_, m15_, ha, Q_HB, Q_HO350, Q_HO353, Q_HO357, Q_HO360, Q_X14_, Q_X15_⟩ hb_ hon hoff
                 refine ⟨_, rfl, fun K hK => ?_⟩
                 have e76 : a.tmps[76]? = some (.int .u64 (rd l4 x15_1)) := by rw [ha]; exact putSel_on (e := (3, 76, .int .u64 (rd l4 x15_1))) 1 rfl rfl (hon 3 (by kernel_rfl)) rfl
                 have e77 : a.tmps[77]? = some (.int .u64 t345) := by rw [ha]; exact (putSel_off rfl).trans rfl
                 replace ha := Aside0.mk ha
                 have HB := Aside0.mk Q_HB
                 refine Kd.R_lit_step (Kd.int .u64) _ 25 ?hg (N := 78) ?hd (xs := ([rd l4 x15_1, t345] : List Int)) (inner := [.int .u64 (rd l4 x15_1), .int .u64 t345]) (ok := fun _ => True) (okp := fun _ => True) ?hr ?hp (fun _ hk => hk) trivial (Below.refl _ _) (Nat.le_refl _) (by simp) ?_; (case hd => rfl); (case hg => rfl); (case hr => first | (go_simp; done) | (go_simp; rfl)); (case hp => exact (Reps.one (show Kd.M (Kd.int .u64) _ _ _ (rd l4 x15_1) [.int .u64 (rd l4 x15_1)] from rfl) (Reps.one (show Kd.M (Kd.int .u64) _ _ _ t345 [.int .u64 t345] from rfl) (Reps.none _ _))))
                 intro v349 w43 ho44 hb hg_ hnew_
                 clear hg_ hnew_
                 (first | rw [← Ny348.out] at ho44 | (simp only [Int.reduceToNat] at ho44; rw [← Ny348.out] at ho44))
                 have n0_ := Aside0.mk (Kd.R_lower ho44 (below_size (by repeat (first | (with_reducible first | exact HB.out | apply below_alloc | apply pw_below_drewN | apply below_drew1) | exact HB.out))))
                 have n1_ := Aside0.mk (below_step (by repeat (first | (with_reducible first | exact HB.out | apply below_alloc | apply pw_below_drewN | apply below_drew1) | exact HB.out)) hb)
                 have z_HO357 := fun (h0_ : b 12 = true) => (show Kd.R (Kd.int .u64) 25 w43 w.heap.size (fun _ => True) v356 y355 from by first | exact (Kd.R_elder' (by (with_reducible repeat (first | apply Kd.R_alloc | apply Kd.R_drewN | apply Kd.R_drew)); exact (Q_HO357 h0_)) (Kd.R_base ho44) hb) | exact Kd.R_mono (Kd.R_elder' (by (with_reducible repeat (first | apply Kd.R_alloc | apply Kd.R_drewN | apply Kd.R_drew)); exact (Q_HO357 h0_)) (Kd.R_base ho44) hb) (fun _ h_ => by first | trivial | exact h_ | exact h_.1))
                 clear HB
                 have HO350 := n0_
                 have HB := n1_
                 clear n0_ n1_
                 clear hb ho44
                 refine hK.out _ _ ⟨v349, v352, v356, v359, m14_, m15_, (by rw [ha.out]; exact putSel_upk 2 hb_ rfl rfl rfl), (by repeat (first | (with_reducible first | exact HB.out | apply below_alloc | apply pw_below_drewN | apply below_drew1) | exact HB.out)), fun _ => (by (with_reducible repeat (first | apply Kd.R_alloc | apply Kd.R_drewN | apply Kd.R_drew)); exact HO350.out), fun h0_ => absurd ((hoff 6 (by kernel_rfl)).symm.trans h0_) (by decide), z_HO357, fun h0_ => absurd ((hoff 13 (by kernel_rfl)).symm.trans h0_) (by decide), fun h0_ => absurd ((hoff 14 (by kernel_rfl)).symm.trans h0_) (by decide), fun h0_ => absurd ((hoff 15 (by kernel_rfl)).symm.trans h0_) (by decide)⟩
                refine steps_cons ?_ ?_
                ·rintro b a w' ⟨v349, v352, v356, v359, m14_, m15_, ha, Q_HB, Q_HO350, Q_HO353, Q_HO357, Q_HO360, Q_X14_, Q_X15_⟩ hb_ hon hoff
                 refine ⟨_, rfl, fun K hK => ?_⟩
                 have e78 : a.tmps[78]? = some (v349) := by rw [ha]; exact putSel_on (e := (5, 78, v349)) 2 rfl rfl (hon 5 (by kernel_rfl)) rfl
                 replace ha := Aside0.mk ha
                 have HB := Aside0.mk Q_HB
                 have HO350 := Aside0.mk (Q_HO350 (hon 5 (by kernel_rfl)))
                 obtain ⟨Ao46, co46, eo46⟩ := Kd.R_slice HO350.out
                 (first | subst eo46 | (injection eo46 with f1_ f2_ f3_; have f4_ := f1_.symm; have f5_ := f3_.symm; clear f1_ f2_ f3_; subst f4_; subst f5_))
                 refine goes_ Tryd.func23 (by kernel_rfl) rfl #[.int .u8 1, .slice Ao46 y348.length co46] (by rfl) rfl rfl (by first | (simp only [List.map_toArray, List.map_cons, List.map_nil, Act.eval, Array.getD_eq_getD_getElem?, Option.getD_some, e78]; done) | (simp only [List.map_toArray, List.map_cons, List.map_nil, Act.eval, Array.getD_eq_getD_getElem?, Option.getD_some, e78]; rfl)) ?_
                 with_reducible refine (cohousinglaw06_bytes.calls kj31 1 _ _ y348 t351 _ ?side1 ?side2 A39.out).mono ?_
                 (case side1 => repeat (first | exact (Kd.R_reads' HO350.out).2.2 | (with_reducible refine Kd.C_alloc ?_ _) | (with_reducible refine Kd.C_drewN ?_ _) | (with_reducible refine Kd.C_drew ?_)))
                 (case side2 => exact (Kd.R_reads' HO350.out).2.1)
                 rintro e w47 ⟨v352, rfl, ho0, hb⟩
                 refine ⟨_, rfl, ?_⟩
                 have n0_ := Aside0.mk (Kd.R_below (by (with_reducible repeat (first | apply Kd.R_alloc | apply Kd.R_drewN | apply Kd.R_drew)); exact HO350.out) hb)
                 have n1_ := Aside0.mk (Kd.R_lower ho0 (below_size (by repeat (first | (with_reducible first | exact HB.out | apply below_alloc | apply pw_below_drewN | apply below_drew1) | exact HB.out))))
                 have n2_ := Aside0.mk (below_step (by repeat (first | (with_reducible first | exact HB.out | apply below_alloc | apply pw_below_drewN | apply below_drew1) | exact HB.out)) hb)
                 have z_HO357 := fun (h0_ : b 12 = true) => (show Kd.R (Kd.int .u64) 25 w47 w.heap.size (fun _ => True) v356 y355 from by first | exact (Kd.R_below (by (with_reducible repeat (first | apply Kd.R_alloc | apply Kd.R_drewN | apply Kd.R_drew)); exact (Q_HO357 h0_)) hb) | exact Kd.R_mono (Kd.R_below (by (with_reducible repeat (first | apply Kd.R_alloc | apply Kd.R_drewN | apply Kd.R_drew)); exact (Q_HO357 h0_)) hb) (fun _ h_ => by first | trivial | exact h_ | exact h_.1))
                 clear HO350
                 clear HB
                 have HO350 := n0_
                 have HO353 := n1_
                 have HB := n2_
                 clear n0_ n1_ n2_
                 (try clear hb)
                 (try clear hb2)
                 (try clear hk)
                 (try clear hi)
                 (try clear ho0)
                 refine hK.out _ _ ⟨.slice Ao46 y348.length co46, v352, v356, v359, m14_, m15_, (by rw [ha.out]; exact putSel_upk 3 hb_ rfl rfl rfl), (by repeat (first | (with_reducible first | exact HB.out | apply below_alloc | apply pw_below_drewN | apply below_drew1) | exact HB.out)), fun _ => (by (with_reducible repeat (first | apply Kd.R_alloc | apply Kd.R_drewN | apply Kd.R_drew)); exact HO350.out), fun _ => (by (with_reducible repeat (first | apply Kd.R_alloc | apply Kd.R_drewN | apply Kd.R_drew)); exact HO353.out), z_HO357, fun h0_ => absurd ((hoff 13 (by kernel_rfl)).symm.trans h0_) (by decide), fun h0_ => absurd ((hoff 14 (by kernel_rfl)).symm.trans h0_) (by decide), fun h0_ => absurd ((hoff 15 (by kernel_rfl)).symm.trans h0_) (by decide)⟩
                refine steps_cons ?_ ?_
                ·rintro b a w' ⟨v349, v352, v356, v359, m14_, m15_, ha, Q_HB, Q_HO350, Q_HO353, Q_HO357, Q_HO360, Q_X14_, Q_X15_⟩ hb_ hon hoff
                 refine ⟨_, rfl, fun K hK => ?_⟩
                 have e80 : a.tmps[80]? = some (.slice (some ad354) l5.length c5) := by rw [ha]; exact (putSel_off rfl).trans rfl
                 have e81 : a.tmps[81]? = some (.int .i64 x15_1) := by rw [ha]; exact (putSel_off rfl).trans rfl
                 replace ha := Aside0.mk ha
                 have HB := Aside0.mk Q_HB
                 have hs1_ : w'.cell? (ad354.add (x15_1).toNat) = some (.int .u64 (rd l5 x15_1)) := ((HB.out.cell (World.block_lt_of_cell? w _ hw354_0)).trans hw354_0)
                 refine value_ (w1 := w') (v := .pointer (some (ad354.add (x15_1).toNat))) (by rfl) rfl ?_ ?_
                 ·go_simp
                  (try simp only [i64_w])
                  try rfl
                 refine hK.out _ _ ⟨v349, v352, v356, v359, m14_, m15_, (by rw [ha.out]; exact putSel_upk 4 hb_ rfl rfl rfl), Q_HB, Q_HO350, Q_HO353, fun h0_ => absurd ((hoff 12 (by kernel_rfl)).symm.trans h0_) (by decide), fun h0_ => absurd ((hoff 13 (by kernel_rfl)).symm.trans h0_) (by decide), fun h0_ => absurd ((hoff 14 (by kernel_rfl)).symm.trans h0_) (by decide), fun h0_ => absurd ((hoff 15 (by kernel_rfl)).symm.trans h0_) (by decide)⟩
                refine steps_cons ?_ ?_
                ·rintro b a w' ⟨v349, v352, v356, v359, m14_, m15_, ha, Q_HB, Q_HO350, Q_HO353, Q_HO357, Q_HO360, Q_X14_, Q_X15_⟩ hb_ hon hoff
                 refine ⟨_, rfl, fun K hK => ?_⟩
                 have e82 : a.tmps[82]? = some (.pointer (some (ad354.add (x15_1).toNat))) := by rw [ha]; exact putSel_on (e := (9, 82, .pointer (some (ad354.add (x15_1).toNat)))) 4 rfl rfl (hon 9 (by kernel_rfl)) rfl
                 replace ha := Aside0.mk ha
                 have HB := Aside0.mk Q_HB
                 have hs1_ : w'.cell? (ad354.add (x15_1).toNat) = some (.int .u64 (rd l5 x15_1)) := ((HB.out.cell (World.block_lt_of_cell? w _ hw354_0)).trans hw354_0)
                 refine value_ (w1 := w') (v := .int .u64 (rd l5 x15_1)) (by rfl) rfl ?_ ?_
                 ·go_simp
                  (try simp only [i64_w])
                  try rfl
                 refine hK.out _ _ ⟨v349, v352, v356, v359, m14_, m15_, (by rw [ha.out]; exact putSel_upk 5 hb_ rfl rfl rfl), Q_HB, Q_HO350, Q_HO353, fun h0_ => absurd ((hoff 12 (by kernel_rfl)).symm.trans h0_) (by decide), fun h0_ => absurd ((hoff 13 (by kernel_rfl)).symm.trans h0_) (by decide), fun h0_ => absurd ((hoff 14 (by kernel_rfl)).symm.trans h0_) (by decide), fun h0_ => absurd ((hoff 15 (by kernel_rfl)).symm.trans h0_) (by decide)⟩
                refine steps_cons ?_ ?_
                ·rintro b a w' ⟨v349, v352, v356, v359, m14_, m15_, ha, Q_HB, Q_HO350, Q_HO353, Q_HO357, Q_HO360, Q_X14_, Q_X15_⟩ hb_ hon hoff
                 refine ⟨_, rfl, fun K hK => ?_⟩
                 have e83 : a.tmps[83]? = some (.int .u64 (rd l5 x15_1)) := by rw [ha]; exact putSel_on (e := (10, 83, .int .u64 (rd l5 x15_1))) 5 rfl rfl (hon 10 (by kernel_rfl)) rfl
                 have e84 : a.tmps[84]? = some (.int .u64 t346) := by rw [ha]; exact (putSel_off rfl).trans rfl
                 replace ha := Aside0.mk ha
                 have HB := Aside0.mk Q_HB
                 refine Kd.R_lit_step (Kd.int .u64) _ 25 ?hg (N := 85) ?hd (xs := ([rd l5 x15_1, t346] : List Int)) (inner := [.int .u64 (rd l5 x15_1), .int .u64 t346]) (ok := fun _ => True) (okp := fun _ => True) ?hr ?hp (fun _ hk => hk) trivial (Below.refl _ _) (Nat.le_refl _) (by simp) ?_; (case hd => rfl); (case hg => rfl); (case hr => first | (go_simp; done) | (go_simp; rfl)); (case hp => exact (Reps.one (show Kd.M (Kd.int .u64) _ _ _ (rd l5 x15_1) [.int .u64 (rd l5 x15_1)] from rfl) (Reps.one (show Kd.M (Kd.int .u64) _ _ _ t346 [.int .u64 t346] from rfl) (Reps.none _ _))))
                 intro v356 w43 ho44 hb hg_ hnew_
                 clear hg_ hnew_
                 (first | rw [← Ny355.out] at ho44 | (simp only [Int.reduceToNat] at ho44; rw [← Ny355.out] at ho44))
                 have n0_ := Aside0.mk (Kd.R_lower ho44 (below_size (by repeat (first | (with_reducible first | exact HB.out | apply below_alloc | apply pw_below_drewN | apply below_drew1) | exact HB.out))))
                 have n1_ := Aside0.mk (below_step (by repeat (first | (with_reducible first | exact HB.out | apply below_alloc | apply pw_below_drewN | apply below_drew1) | exact HB.out)) hb)
                 have z_HO350 := fun (h0_ : b 5 = true) => (show Kd.R (Kd.int .u64) 25 w43 w.heap.size (fun _ => True) v349 y348 from by first | exact (Kd.R_elder' (by (with_reducible repeat (first | apply Kd.R_alloc | apply Kd.R_drewN | apply Kd.R_drew)); exact (Q_HO350 h0_)) (Kd.R_base ho44) hb) | exact Kd.R_mono (Kd.R_elder' (by (with_reducible repeat (first | apply Kd.R_alloc | apply Kd.R_drewN | apply Kd.R_drew)); exact (Q_HO350 h0_)) (Kd.R_base ho44) hb) (fun _ h_ => by first | trivial | exact h_ | exact h_.1))
                 have z_HO353 := fun (h0_ : b 6 = true) => (show Kd.R (Kd.int .u8) 5 w43 w.heap.size (fun _ => True) v352 t351 from by first | exact (Kd.R_below (by (with_reducible repeat (first | apply Kd.R_alloc | apply Kd.R_drewN | apply Kd.R_drew)); exact (Q_HO353 h0_)) hb) | exact Kd.R_mono (Kd.R_below (by (with_reducible repeat (first | apply Kd.R_alloc | apply Kd.R_drewN | apply Kd.R_drew)); exact (Q_HO353 h0_)) hb) (fun _ h_ => by first | trivial | exact h_ | exact h_.1))
                 clear HB
                 have HO357 := n0_
                 have HB := n1_
                 clear n0_ n1_
                 clear hb ho44
                 refine hK.out _ _ ⟨v349, v352, v356, v359, m14_, m15_, (by rw [ha.out]; exact putSel_upk 6 hb_ rfl rfl rfl), (by repeat (first | (with_reducible first | exact HB.out | apply below_alloc | apply pw_below_drewN | apply below_drew1) | exact HB.out)), z_HO350, z_HO353, fun _ => (by (with_reducible repeat (first | apply Kd.R_alloc | apply Kd.R_drewN | apply Kd.R_drew)); exact HO357.out), fun h0_ => absurd ((hoff 13 (by kernel_rfl)).symm.trans h0_) (by decide), fun h0_ => absurd ((hoff 14 (by kernel_rfl)).symm.trans h0_) (by decide), fun h0_ => absurd ((hoff 15 (by kernel_rfl)).symm.trans h0_) (by decide)⟩
                refine steps_cons ?_ ?_
                ·rintro b a w' ⟨v349, v352, v356, v359, m14_, m15_, ha, Q_HB, Q_HO350, Q_HO353, Q_HO357, Q_HO360, Q_X14_, Q_X15_⟩ hb_ hon hoff
                 refine ⟨_, rfl, fun K hK => ?_⟩
                 have e85 : a.tmps[85]? = some (v356) := by rw [ha]; exact putSel_on (e := (12, 85, v356)) 6 rfl rfl (hon 12 (by kernel_rfl)) rfl
                 replace ha := Aside0.mk ha
                 have HB := Aside0.mk Q_HB
                 have HO350 := Aside0.mk (Q_HO350 (hon 5 (by kernel_rfl)))
                 have HO353 := Aside0.mk (Q_HO353 (hon 6 (by kernel_rfl)))
                 have HO357 := Aside0.mk (Q_HO357 (hon 12 (by kernel_rfl)))
                 obtain ⟨Ao50, co50, eo50⟩ := Kd.R_slice HO357.out
                 (first | subst eo50 | (injection eo50 with f1_ f2_ f3_; have f4_ := f1_.symm; have f5_ := f3_.symm; clear f1_ f2_ f3_; subst f4_; subst f5_))
                 refine goes_ Tryd.func23 (by kernel_rfl) rfl #[.int .u8 1, .slice Ao50 y355.length co50] (by rfl) rfl rfl (by first | (simp only [List.map_toArray, List.map_cons, List.map_nil, Act.eval, Array.getD_eq_getD_getElem?, Option.getD_some, e85]; done) | (simp only [List.map_toArray, List.map_cons, List.map_nil, Act.eval, Array.getD_eq_getD_getElem?, Option.getD_some, e85]; rfl)) ?_
                 with_reducible refine (cohousinglaw06_bytes.calls kj31 1 _ _ y355 t358 _ ?side1 ?side2 A41.out).mono ?_
                 (case side1 => repeat (first | exact (Kd.R_reads' HO357.out).2.2 | (with_reducible refine Kd.C_alloc ?_ _) | (with_reducible refine Kd.C_drewN ?_ _) | (with_reducible refine Kd.C_drew ?_)))
                 (case side2 => exact (Kd.R_reads' HO357.out).2.1)
                 rintro e w51 ⟨v359, rfl, ho0, hb⟩
                 refine ⟨_, rfl, ?_⟩
                 have n0_ := Aside0.mk (Kd.R_below (by (with_reducible repeat (first | apply Kd.R_alloc | apply Kd.R_drewN | apply Kd.R_drew)); exact HO350.out) hb)
                 have n1_ := Aside0.mk (Kd.R_elder' (by (with_reducible repeat (first | apply Kd.R_alloc | apply Kd.R_drewN | apply Kd.R_drew)); exact HO353.out) (Kd.R_base ho0) hb)
                 have n2_ := Aside0.mk (Kd.R_below (by (with_reducible repeat (first | apply Kd.R_alloc | apply Kd.R_drewN | apply Kd.R_drew)); exact HO357.out) hb)
                 have n3_ := Aside0.mk (Kd.R_lower (Kd.R_new' ho0 (Kd.R_lt (by (with_reducible repeat (first | apply Kd.R_alloc | apply Kd.R_drewN | apply Kd.R_drew)); exact HO353.out))) (below_size (by repeat (first | (with_reducible first | exact HB.out | apply below_alloc | apply pw_below_drewN | apply below_drew1) | exact HB.out))))
                 have n4_ := Aside0.mk (below_step (by repeat (first | (with_reducible first | exact HB.out | apply below_alloc | apply pw_below_drewN | apply below_drew1) | exact HB.out)) hb)
                 clear HO350
                 clear HO353
                 clear HO357
                 clear HB
                 have HO350 := n0_
                 have HO353 := n1_
                 have HO357 := n2_
                 have HO360 := n3_
                 have HB := n4_
                 clear n0_ n1_ n2_ n3_ n4_
                 (try clear hb)
                 (try clear hb2)
                 (try clear hk)
                 (try clear hi)
                 (try clear ho0)
                 refine hK.out _ _ ⟨v349, v352, .slice Ao50 y355.length co50, v359, m14_, m15_, (by rw [ha.out]; exact putSel_upk 7 hb_ rfl rfl rfl), (by repeat (first | (with_reducible first | exact HB.out | apply below_alloc | apply pw_below_drewN | apply below_drew1) | exact HB.out)), fun _ => (by (with_reducible repeat (first | apply Kd.R_alloc | apply Kd.R_drewN | apply Kd.R_drew)); exact HO350.out), fun _ => (by (with_reducible repeat (first | apply Kd.R_alloc | apply Kd.R_drewN | apply Kd.R_drew)); exact Kd.R_mono HO353.out (fun _ _ => trivial)), fun _ => (by (with_reducible repeat (first | apply Kd.R_alloc | apply Kd.R_drewN | apply Kd.R_drew)); exact HO357.out), fun _ => (by (with_reducible repeat (first | apply Kd.R_alloc | apply Kd.R_drewN | apply Kd.R_drew)); exact Kd.R_mono HO360.out (fun _ _ => trivial)), fun h0_ => absurd ((hoff 14 (by kernel_rfl)).symm.trans h0_) (by decide), fun h0_ => absurd ((hoff 15 (by kernel_rfl)).symm.trans h0_) (by decide)⟩
                refine steps_cons ?_ ?_
                ·rintro b a w' ⟨v349, v352, v356, v359, m14_, m15_, ha, Q_HB, Q_HO350, Q_HO353, Q_HO357, Q_HO360, Q_X14_, Q_X15_⟩ hb_ hon hoff
                 refine ⟨_, rfl, fun K hK => ?_⟩
                 have e79 : a.tmps[79]? = some (v352) := by rw [ha]; exact putSel_on (e := (6, 79, v352)) 3 rfl rfl (hon 6 (by kernel_rfl)) rfl
                 replace ha := Aside0.mk ha
                 have HB := Aside0.mk Q_HB
                 have HO350 := Aside0.mk (Q_HO350 (hon 5 (by kernel_rfl)))
                 have HO353 := Aside0.mk (Q_HO353 (hon 6 (by kernel_rfl)))
                 have HO357 := Aside0.mk (Q_HO357 (hon 12 (by kernel_rfl)))
                 have HO360 := Aside0.mk (Q_HO360 (hon 13 (by kernel_rfl)))
                 refine value_ (w1 := w') (v := v352) (by rfl) rfl ?_ ?_
                 ·go_simp
                  (try simp only [i64_w])
                  try rfl
                 refine hK.out _ _ ⟨v349, v352, v356, v359, (v352), m15_, (by rw [ha.out]; exact putSel_upk 8 hb_ rfl rfl rfl), Q_HB, Q_HO350, Q_HO353, Q_HO357, Q_HO360, fun _ => rfl, fun h0_ => absurd ((hoff 15 (by kernel_rfl)).symm.trans h0_) (by decide)⟩
                refine steps_cons ?_ ?_
                ·rintro b a w' ⟨v349, v352, v356, v359, m14_, m15_, ha, Q_HB, Q_HO350, Q_HO353, Q_HO357, Q_HO360, Q_X14_, Q_X15_⟩ hb_ hon hoff
                 refine ⟨_, rfl, fun K hK => ?_⟩
                 have e86 : a.tmps[86]? = some (v359) := by rw [ha]; exact putSel_on (e := (13, 86, v359)) 7 rfl rfl (hon 13 (by kernel_rfl)) rfl
                 replace ha := Aside0.mk ha
                 have HB := Aside0.mk Q_HB
                 have HO350 := Aside0.mk (Q_HO350 (hon 5 (by kernel_rfl)))
                 have HO353 := Aside0.mk (Q_HO353 (hon 6 (by kernel_rfl)))
                 have HO357 := Aside0.mk (Q_HO357 (hon 12 (by kernel_rfl)))
                 have HO360 := Aside0.mk (Q_HO360 (hon 13 (by kernel_rfl)))
                 refine value_ (w1 := w') (v := v359) (by rfl) rfl ?_ ?_
                 ·go_simp
                  (try simp only [i64_w])
                  try rfl
                 refine hK.out _ _ ⟨v349, v352, v356, v359, m14_, (v359), (by rw [ha.out]; exact putSel_upk 9 hb_ rfl rfl rfl), Q_HB, Q_HO350, Q_HO353, Q_HO357, Q_HO360, Q_X14_, fun _ => rfl⟩
                exact steps_nil
               rintro b a w51 hall ⟨v349, v352, v356, v359, m14_, m15_, ha, Q_HB, Q_HO350, Q_HO353, Q_HO357, Q_HO360, Q_X14_, Q_X15_⟩
               clear HB
               have hb2_ := hall 2 (by kernel_rfl)
               have hb3_ := hall 3 (by kernel_rfl)
               have hb5_ := hall 5 (by kernel_rfl)
               have hb6_ := hall 6 (by kernel_rfl)
               have hb9_ := hall 9 (by kernel_rfl)
               have hb10_ := hall 10 (by kernel_rfl)
               have hb12_ := hall 12 (by kernel_rfl)
               have hb13_ := hall 13 (by kernel_rfl)
               have hb14_ := hall 14 (by kernel_rfl)
               have hb15_ := hall 15 (by kernel_rfl)
               subst ha
               obtain rfl := Q_X14_ hb14_
               obtain rfl := Q_X15_ hb15_
               simp only [putSel, hb2_, hb3_, hb5_, hb6_, hb9_, hb10_, hb12_, hb13_, hb14_, hb15_, if_true, Act.put, List.setIfInBounds_toArray, List.set_cons_zero, List.set_cons_succ]
               have HB := Aside0.mk Q_HB
               clear Q_HB
               have HO350 := Aside0.mk (Q_HO350 hb5_)
               clear Q_HO350
               have HO353 := Aside0.mk (Q_HO353 hb6_)
               clear Q_HO353
               have HO357 := Aside0.mk (Q_HO357 hb12_)
               clear Q_HO357
               have HO360 := Aside0.mk (Q_HO360 hb13_)
               clear Q_HO360
               clear hall hb2_ hb3_ hb5_ hb6_ hb9_ hb10_ hb12_ hb13_ hb14_ hb15_
               try go_wp2
               go_roundg kj31
               case measure => have := HK1.out; have := HJ18.out; have := HJ27.out; have := HJ31.out; omega
               case rel => exact ⟨(wrap64 (Int.tdiv x2_27 2)), (wrap64 (Int.tdiv (wrap64 (x3_27 + 1)) 2)), (t351), (t358), (wrap64 (x15_1 + 1)), (by first | rfl | (simp; done) | (simp [*]; done)), (by first | rfl | (simp; done) | (simp [*]; done)), (by first | rfl | (simp; done) | (simp [*]; done)), H', ⟨by have := HK1.out; have := HJ18.out; have := HJ27.out; have := HJ31.out; omega⟩, ⟨by (with_reducible repeat (first | apply Kd.R_alloc | apply Kd.R_drewN | apply Kd.R_drew)); exact HO353.out⟩, ⟨by (with_reducible repeat (first | apply Kd.R_alloc | apply Kd.R_drewN | apply Kd.R_drew)); exact HO360.out⟩, ⟨by repeat (first | (with_reducible first | exact HB.out | apply below_alloc | apply pw_below_drewN | apply below_drew1) | exact HB.out)⟩⟩
              ·rw [if_neg c40] at H
               exact absurd H (by simp)
             ·rw [if_neg c38] at H
              exact absurd H (by simp)
            ·rw [if_neg c37] at H
             exact absurd H (by simp)
           ·rw [if_neg c36] at H
            have c36b0 : ((Int.tmod x2_27 2) == 1) = false := beq_eq_false_iff_ne.mpr c36
            have c36b1 : ((Int.tmod x2_27 2) != 1) = true := bne_iff_ne.mpr c36
            by_cases c52 : 0 ≤ x15_1
            ·rw [if_pos c52] at H
             have c52b0 : decide (0 ≤ x15_1) = true := decide_eq_true c52
             clear c52
             by_cases c53 : x15_1 < (l4.length : Int)
             ·rw [if_pos c53] at H
              have c53b0 : decide (x15_1 < (l4.length : Int)) = true := decide_eq_true c53
              clear c53
              obtain ⟨y362, hy362⟩ : ∃ y_ : List Int, y_ = (([t345, rd l4 x15_1] : List Int)) := ⟨_, rfl⟩
              replace H : ((cohousinglaw06_bytes.f kj31 1 y362).bind fun t365 => (if x15_1 < (l5.length : Int) then ((cohousinglaw06_bytes.f kj31 1 (([t346, rd l5 x15_1] : List Int))).bind fun t372 => (cohousinglaw06_clash.l0 kj31 (wrap64 (Int.tdiv x2_27 2)) (wrap64 (Int.tdiv (wrap64 (x3_27 + 1)) 2)) l4 l5 t365 t372 (wrap64 (x15_1 + 1)))) else (none))) = some r := by first | (rw [hy362]; with_reducible exact H) | (have H2_ := (Option.bind_some _ _).symm.trans H; rw [hy362]; with_reducible exact H2_) | (have H2_ := (Option.bind_some _ _).symm.trans H; with_reducible exact H2_) | with_reducible exact H | (rw [hy362]; exact H) | exact H
              have Ny362 := Aside0.mk hy362
              clear hy362
              replace H := Option.bind_eq_some_iff.mp H
              obtain ⟨t365, A540, H⟩ := H
              replace H : (if x15_1 < (l5.length : Int) then ((cohousinglaw06_bytes.f kj31 1 (([t346, rd l5 x15_1] : List Int))).bind fun t372 => (cohousinglaw06_clash.l0 kj31 (wrap64 (Int.tdiv x2_27 2)) (wrap64 (Int.tdiv (wrap64 (x3_27 + 1)) 2)) l4 l5 t365 t372 (wrap64 (x15_1 + 1)))) else (none)) = some r := H
              have A54 := Aside0.mk A540
              clear A540
              by_cases c55 : x15_1 < (l5.length : Int)
              ·rw [if_pos c55] at H
               have c55b0 : decide (x15_1 < (l5.length : Int)) = true := decide_eq_true c55
               clear c55
               obtain ⟨y369, hy369⟩ : ∃ y_ : List Int, y_ = (([t346, rd l5 x15_1] : List Int)) := ⟨_, rfl⟩
               replace H : ((cohousinglaw06_bytes.f kj31 1 y369).bind fun t372 => (cohousinglaw06_clash.l0 kj31 (wrap64 (Int.tdiv x2_27 2)) (wrap64 (Int.tdiv (wrap64 (x3_27 + 1)) 2)) l4 l5 t365 t372 (wrap64 (x15_1 + 1)))) = some r := by first | (rw [hy369]; with_reducible exact H) | (have H2_ := (Option.bind_some _ _).symm.trans H; rw [hy369]; with_reducible exact H2_) | (have H2_ := (Option.bind_some _ _).symm.trans H; with_reducible exact H2_) | with_reducible exact H | (rw [hy369]; exact H) | exact H
               have Ny369 := Aside0.mk hy369
               clear hy369
               replace H := Option.bind_eq_some_iff.mp H
               obtain ⟨t372, A560, H⟩ := H
               replace H : (cohousinglaw06_clash.l0 kj31 (wrap64 (Int.tdiv x2_27 2)) (wrap64 (Int.tdiv (wrap64 (x3_27 + 1)) 2)) l4 l5 t365 t372 (wrap64 (x15_1 + 1))) = some r := H
               have A56 := Aside0.mk A560
               clear A560
               have H' := Aside0.mk H
               clear H
               try go_wp2
               have n0_ := Aside0.mk (below_drew1 HB.out)
               clear HB
               have HB := n0_
               clear n0_
               have p361 : 0 ≤ (x15_1 : Int) := of_decide_eq_true (by first | (with_reducible assumption) | assumption)
               have q361 : x15_1 < (l4.length : Int) := of_decide_eq_true (by first | (with_reducible assumption) | assumption)
               obtain ⟨ad361, e361, hx361_0⟩ := Kd.at_int HR4.out x15_1 p361 q361
               have hw361_0 := hx361_0
               cases e361
               replace hx361_0 := (HB.out.cell (World.block_lt_of_cell? w _ hx361_0)).trans hx361_0
               replace p361 := eq_true p361
               replace q361 := eq_true q361
               have p368 : 0 ≤ (x15_1 : Int) := of_decide_eq_true (by first | (with_reducible assumption) | assumption)
               have q368 : x15_1 < (l5.length : Int) := of_decide_eq_true (by first | (with_reducible assumption) | assumption)
               obtain ⟨ad368, e368, hx368_0⟩ := Kd.at_int HR5.out x15_1 p368 q368
               have hw368_0 := hx368_0
               cases e368
               replace hx368_0 := (HB.out.cell (World.block_lt_of_cell? w _ hx368_0)).trans hx368_0
               replace p368 := eq_true p368
               replace q368 := eq_true q368
               refine start_ (n := 16) (S := fun w' => True) (ds := []) #[false, false, false, false, false, false, false, false, false, false, false, false, false, false, false, false] (by kernel_rfl) rfl rfl trivial (fun hHeld => ?_); refine with_tabW cohousinglaw06_clash.tab12 cohousinglaw06_clash.bits12 (fun HT_ HW_ => ?_)
               generalize wc.drew = w57 at HB hx361_0 hx368_0 hHeld ⊢
               refine pure_ (i := 0) (N := some 87) (v := ?_) (a' := ?_) #[true, false, false, false, false, false, false, false, false, false, false, false, false, false, false, false] rfl rfl (any_of HT_.out (by kernel_rfl)) (fun _ _ _ h => h) (Or.inl ⟨by rfl, ?_⟩) ?_ ?_
               rotate_left
               ·intro w'
                go_simp
                with_reducible rfl
               rotate_left
               ·simp only [Act.put, List.setIfInBounds_toArray, List.set_cons_zero, List.set_cons_succ, i64_w, i32_w]
                rfl
               refine pure_ (i := 1) (N := some 88) (v := ?_) (a' := ?_) #[true, true, false, false, false, false, false, false, false, false, false, false, false, false, false, false] rfl rfl (any_of HT_.out (by kernel_rfl)) (fun _ _ _ h => h) (Or.inl ⟨by rfl, ?_⟩) ?_ ?_
               rotate_left
               ·intro w'
                go_simp
                with_reducible rfl
               rotate_left
               ·simp only [Act.put, List.setIfInBounds_toArray, List.set_cons_zero, List.set_cons_succ, i64_w, i32_w]
                rfl
               refine pure_ (i := 2) (N := some 89) (v := ?_) (a' := ?_) #[true, true, true, false, false, false, false, false, false, false, false, false, false, false, false, false] rfl rfl (any_of HT_.out (by kernel_rfl)) (fun _ _ _ h => h) (Or.inl ⟨by rfl, ?_⟩) ?_ ?_
               rotate_left
               ·intro w'
                go_simp
                with_reducible rfl
               rotate_left
               ·simp only [Act.put, List.setIfInBounds_toArray, List.set_cons_zero, List.set_cons_succ, i64_w, i32_w]
                rfl
               refine pure_ (i := 7) (N := some 94) (v := ?_) (a' := ?_) #[true, true, true, false, false, false, false, true, false, false, false, false, false, false, false, false] rfl rfl (any_of HT_.out (by kernel_rfl)) (fun _ _ _ h => h) (Or.inl ⟨by rfl, ?_⟩) ?_ ?_
               rotate_left
               ·intro w'
                go_simp
                with_reducible rfl
               rotate_left
               ·simp only [Act.put, List.setIfInBounds_toArray, List.set_cons_zero, List.set_cons_succ, i64_w, i32_w]
                rfl
               refine pure_ (i := 8) (N := some 95) (v := ?_) (a' := ?_) #[true, true, true, false, false, false, false, true, true, false, false, false, false, false, false, false] rfl rfl (any_of HT_.out (by kernel_rfl)) (fun _ _ _ h => h) (Or.inl ⟨by rfl, ?_⟩) ?_ ?_
               rotate_left
               ·intro w'
                go_simp
                with_reducible rfl
               rotate_left
               ·simp only [Act.put, List.setIfInBounds_toArray, List.set_cons_zero, List.set_cons_succ, i64_w, i32_w]
                rfl
               refine pure_ (i := 9) (N := some 96) (v := ?_) (a' := ?_) #[true, true, true, false, false, false, false, true, true, true, false, false, false, false, false, false] rfl rfl (any_of HT_.out (by kernel_rfl)) (fun _ _ _ h => h) (Or.inl ⟨by rfl, ?_⟩) ?_ ?_
               rotate_left
               ·intro w'
                go_simp
                with_reducible rfl
               rotate_left
               ·simp only [Act.put, List.setIfInBounds_toArray, List.set_cons_zero, List.set_cons_succ, i64_w, i32_w]
                rfl
               refine inv_at [3, 4, 5, 6, 10, 11, 12, 13, 14, 15] (fun a0_ b a w' => ∃ (v363 : Value) (v366 : Value) (v370 : Value) (v373 : Value) (m14_ : Value) (m15_ : Value), a = putSel a0_ b [(3, 90, .pointer (some (ad361.add (x15_1).toNat))), (4, 91, .int .u64 (rd l4 x15_1)), (5, 92, v363), (6, 93, v366), (10, 97, .pointer (some (ad368.add (x15_1).toNat))), (11, 98, .int .u64 (rd l5 x15_1)), (12, 99, v370), (13, 100, v373), (14, 13, m14_), (15, 14, m15_)] ∧ (Below w.heap.size w w') ∧ (b 5 = true → Kd.R (Kd.int .u64) 25 w' w.heap.size (fun _ => True) v363 y362) ∧ (b 6 = true → Kd.R (Kd.int .u8) 5 w' w.heap.size (fun _ => True) v366 t365) ∧ (b 12 = true → Kd.R (Kd.int .u64) 25 w' w.heap.size (fun _ => True) v370 y369) ∧ (b 13 = true → Kd.R (Kd.int .u8) 5 w' w.heap.size (fun _ => True) v373 t372) ∧ (b 14 = true → (m14_ : Value) = v366) ∧ (b 15 = true → (m15_ : Value) = v373)) HT_.out HW_.out (by kernel_rfl) (by kernel_rfl) ?_ ?_ ?_
               ·exact ⟨.bool false, .bool false, .bool false, .bool false, .bool false, .bool false, by simp only [putSel, Bool.false_eq_true, if_false], HB.out, fun h_ => absurd h_ (by decide), fun h_ => absurd h_ (by decide), fun h_ => absurd h_ (by decide), fun h_ => absurd h_ (by decide), fun h_ => absurd h_ (by decide), fun h_ => absurd h_ (by decide)⟩
               ·skip
                clear HB
                refine steps_cons ?_ ?_
                ·rintro b a w' ⟨v363, v366, v370, v373, m14_, m15_, ha, Q_HB, Q_HO364, Q_HO367, Q_HO371, Q_HO374, Q_X14_, Q_X15_⟩ hb_ hon hoff
                 refine ⟨_, rfl, fun K hK => ?_⟩
                 have e88 : a.tmps[88]? = some (.slice (some ad361) l4.length c4) := by rw [ha]; exact (putSel_off rfl).trans rfl
                 have e89 : a.tmps[89]? = some (.int .i64 x15_1) := by rw [ha]; exact (putSel_off rfl).trans rfl
                 replace ha := Aside0.mk ha
                 have HB := Aside0.mk Q_HB
                 have hs0_ : w'.cell? (ad361.add (x15_1).toNat) = some (.int .u64 (rd l4 x15_1)) := ((HB.out.cell (World.block_lt_of_cell? w _ hw361_0)).trans hw361_0)
                 refine value_ (w1 := w') (v := .pointer (some (ad361.add (x15_1).toNat))) (by rfl) rfl ?_ ?_
                 ·go_simp
                  (try simp only [i64_w])
                  try rfl
                 refine hK.out _ _ ⟨v363, v366, v370, v373, m14_, m15_, (by rw [ha.out]; exact putSel_upk 0 hb_ rfl rfl rfl), Q_HB, fun h0_ => absurd ((hoff 5 (by kernel_rfl)).symm.trans h0_) (by decide), fun h0_ => absurd ((hoff 6 (by kernel_rfl)).symm.trans h0_) (by decide), Q_HO371, fun h0_ => absurd ((hoff 13 (by kernel_rfl)).symm.trans h0_) (by decide), fun h0_ => absurd ((hoff 14 (by kernel_rfl)).symm.trans h0_) (by decide), fun h0_ => absurd ((hoff 15 (by kernel_rfl)).symm.trans h0_) (by decide)⟩
                refine steps_cons ?_ ?_
                ·rintro b a w' ⟨v363, v366, v370, v373, m14_, m15_, ha, Q_HB, Q_HO364, Q_HO367, Q_HO371, Q_HO374, Q_X14_, Q_X15_⟩ hb_ hon hoff
                 refine ⟨_, rfl, fun K hK => ?_⟩
                 have e90 : a.tmps[90]? = some (.pointer (some (ad361.add (x15_1).toNat))) := by rw [ha]; exact putSel_on (e := (3, 90, .pointer (some (ad361.add (x15_1).toNat)))) 0 rfl rfl (hon 3 (by kernel_rfl)) rfl
                 replace ha := Aside0.mk ha
                 have HB := Aside0.mk Q_HB
                 have hs0_ : w'.cell? (ad361.add (x15_1).toNat) = some (.int .u64 (rd l4 x15_1)) := ((HB.out.cell (World.block_lt_of_cell? w _ hw361_0)).trans hw361_0)
                 refine value_ (w1 := w') (v := .int .u64 (rd l4 x15_1)) (by rfl) rfl ?_ ?_
                 ·go_simp
                  (try simp only [i64_w])
                  try rfl
                 refine hK.out _ _ ⟨v363, v366, v370, v373, m14_, m15_, (by rw [ha.out]; exact putSel_upk 1 hb_ rfl rfl rfl), Q_HB, fun h0_ => absurd ((hoff 5 (by kernel_rfl)).symm.trans h0_) (by decide), fun h0_ => absurd ((hoff 6 (by kernel_rfl)).symm.trans h0_) (by decide), Q_HO371, fun h0_ => absurd ((hoff 13 (by kernel_rfl)).symm.trans h0_) (by decide), fun h0_ => absurd ((hoff 14 (by kernel_rfl)).symm.trans h0_) (by decide), fun h0_ => absurd ((hoff 15 (by kernel_rfl)).symm.trans h0_) (by decide)⟩
                refine steps_cons ?_ ?_
                ·rintro b a w' ⟨v363, v366, v370, v373, m14_, m15_, ha, Q_HB, Q_HO364, Q_HO367, Q_HO371, Q_HO374, Q_X14_, Q_X15_⟩ hb_ hon hoff
                 refine ⟨_, rfl, fun K hK => ?_⟩
                 have e87 : a.tmps[87]? = some (.int .u64 t345) := by rw [ha]; exact (putSel_off rfl).trans rfl
                 have e91 : a.tmps[91]? = some (.int .u64 (rd l4 x15_1)) := by rw [ha]; exact putSel_on (e := (4, 91, .int .u64 (rd l4 x15_1))) 1 rfl rfl (hon 4 (by kernel_rfl)) rfl
                 replace ha := Aside0.mk ha
                 have HB := Aside0.mk Q_HB
                 refine Kd.R_lit_step (Kd.int .u64) _ 25 ?hg (N := 92) ?hd (xs := ([t345, rd l4 x15_1] : List Int)) (inner := [.int .u64 t345, .int .u64 (rd l4 x15_1)]) (ok := fun _ => True) (okp := fun _ => True) ?hr ?hp (fun _ hk => hk) trivial (Below.refl _ _) (Nat.le_refl _) (by simp) ?_; (case hd => rfl); (case hg => rfl); (case hr => first | (go_simp; done) | (go_simp; rfl)); (case hp => exact (Reps.one (show Kd.M (Kd.int .u64) _ _ _ t345 [.int .u64 t345] from rfl) (Reps.one (show Kd.M (Kd.int .u64) _ _ _ (rd l4 x15_1) [.int .u64 (rd l4 x15_1)] from rfl) (Reps.none _ _))))
                 intro v363 w58 ho59 hb hg_ hnew_
                 clear hg_ hnew_
                 (first | rw [← Ny362.out] at ho59 | (simp only [Int.reduceToNat] at ho59; rw [← Ny362.out] at ho59))
                 have n0_ := Aside0.mk (Kd.R_lower ho59 (below_size (by repeat (first | (with_reducible first | exact HB.out | apply below_alloc | apply pw_below_drewN | apply below_drew1) | exact HB.out))))
                 have n1_ := Aside0.mk (below_step (by repeat (first | (with_reducible first | exact HB.out | apply below_alloc | apply pw_below_drewN | apply below_drew1) | exact HB.out)) hb)
                 have z_HO371 := fun (h0_ : b 12 = true) => (show Kd.R (Kd.int .u64) 25 w58 w.heap.size (fun _ => True) v370 y369 from by first | exact (Kd.R_elder' (by (with_reducible repeat (first | apply Kd.R_alloc | apply Kd.R_drewN | apply Kd.R_drew)); exact (Q_HO371 h0_)) (Kd.R_base ho59) hb) | exact Kd.R_mono (Kd.R_elder' (by (with_reducible repeat (first | apply Kd.R_alloc | apply Kd.R_drewN | apply Kd.R_drew)); exact (Q_HO371 h0_)) (Kd.R_base ho59) hb) (fun _ h_ => by first | trivial | exact h_ | exact h_.1))
                 clear HB
                 have HO364 := n0_
                 have HB := n1_
                 clear n0_ n1_
                 clear hb ho59
                 refine hK.out _ _ ⟨v363, v366, v370, v373, m14_, m15_, (by rw [ha.out]; exact putSel_upk 2 hb_ rfl rfl rfl), (by repeat (first | (with_reducible first | exact HB.out | apply below_alloc | apply pw_below_drewN | apply below_drew1) | exact HB.out)), fun _ => (by (with_reducible repeat (first | apply Kd.R_alloc | apply Kd.R_drewN | apply Kd.R_drew)); exact HO364.out), fun h0_ => absurd ((hoff 6 (by kernel_rfl)).symm.trans h0_) (by decide), z_HO371, fun h0_ => absurd ((hoff 13 (by kernel_rfl)).symm.trans h0_) (by decide), fun h0_ => absurd ((hoff 14 (by kernel_rfl)).symm.trans h0_) (by decide), fun h0_ => absurd ((hoff 15 (by kernel_rfl)).symm.trans h0_) (by decide)⟩
                refine steps_cons ?_ ?_
                ·rintro b a w' ⟨v363, v366, v370, v373, m14_, m15_, ha, Q_HB, Q_HO364, Q_HO367, Q_HO371, Q_HO374, Q_X14_, Q_X15_⟩ hb_ hon hoff
                 refine ⟨_, rfl, fun K hK => ?_⟩
                 have e92 : a.tmps[92]? = some (v363) := by rw [ha]; exact putSel_on (e := (5, 92, v363)) 2 rfl rfl (hon 5 (by kernel_rfl)) rfl
                 replace ha := Aside0.mk ha
                 have HB := Aside0.mk Q_HB
                 have HO364 := Aside0.mk (Q_HO364 (hon 5 (by kernel_rfl)))
                 obtain ⟨Ao61, co61, eo61⟩ := Kd.R_slice HO364.out
                 (first | subst eo61 | (injection eo61 with f1_ f2_ f3_; have f4_ := f1_.symm; have f5_ := f3_.symm; clear f1_ f2_ f3_; subst f4_; subst f5_))
                 refine goes_ Tryd.func23 (by kernel_rfl) rfl #[.int .u8 1, .slice Ao61 y362.length co61] (by rfl) rfl rfl (by first | (simp only [List.map_toArray, List.map_cons, List.map_nil, Act.eval, Array.getD_eq_getD_getElem?, Option.getD_some, e92]; done) | (simp only [List.map_toArray, List.map_cons, List.map_nil, Act.eval, Array.getD_eq_getD_getElem?, Option.getD_some, e92]; rfl)) ?_
                 with_reducible refine (cohousinglaw06_bytes.calls kj31 1 _ _ y362 t365 _ ?side1 ?side2 A54.out).mono ?_
                 (case side1 => repeat (first | exact (Kd.R_reads' HO364.out).2.2 | (with_reducible refine Kd.C_alloc ?_ _) | (with_reducible refine Kd.C_drewN ?_ _) | (with_reducible refine Kd.C_drew ?_)))
                 (case side2 => exact (Kd.R_reads' HO364.out).2.1)
                 rintro e w62 ⟨v366, rfl, ho0, hb⟩
                 refine ⟨_, rfl, ?_⟩
                 have n0_ := Aside0.mk (Kd.R_below (by (with_reducible repeat (first | apply Kd.R_alloc | apply Kd.R_drewN | apply Kd.R_drew)); exact HO364.out) hb)
                 have n1_ := Aside0.mk (Kd.R_lower ho0 (below_size (by repeat (first | (with_reducible first | exact HB.out | apply below_alloc | apply pw_below_drewN | apply below_drew1) | exact HB.out))))
                 have n2_ := Aside0.mk (below_step (by repeat (first | (with_reducible first | exact HB.out | apply below_alloc | apply pw_below_drewN | apply below_drew1) | exact HB.out)) hb)
                 have z_HO371 := fun (h0_ : b 12 = true) => (show Kd.R (Kd.int .u64) 25 w62 w.heap.size (fun _ => True) v370 y369 from by first | exact (Kd.R_below (by (with_reducible repeat (first | apply Kd.R_alloc | apply Kd.R_drewN | apply Kd.R_drew)); exact (Q_HO371 h0_)) hb) | exact Kd.R_mono (Kd.R_below (by (with_reducible repeat (first | apply Kd.R_alloc | apply Kd.R_drewN | apply Kd.R_drew)); exact (Q_HO371 h0_)) hb) (fun _ h_ => by first | trivial | exact h_ | exact h_.1))
                 clear HO364
                 clear HB
                 have HO364 := n0_
                 have HO367 := n1_
                 have HB := n2_
                 clear n0_ n1_ n2_
                 (try clear hb)
                 (try clear hb2)
                 (try clear hk)
                 (try clear hi)
                 (try clear ho0)
                 refine hK.out _ _ ⟨.slice Ao61 y362.length co61, v366, v370, v373, m14_, m15_, (by rw [ha.out]; exact putSel_upk 3 hb_ rfl rfl rfl), (by repeat (first | (with_reducible first | exact HB.out | apply below_alloc | apply pw_below_drewN | apply below_drew1) | exact HB.out)), fun _ => (by (with_reducible repeat (first | apply Kd.R_alloc | apply Kd.R_drewN | apply Kd.R_drew)); exact HO364.out), fun _ => (by (with_reducible repeat (first | apply Kd.R_alloc | apply Kd.R_drewN | apply Kd.R_drew)); exact HO367.out), z_HO371, fun h0_ => absurd ((hoff 13 (by kernel_rfl)).symm.trans h0_) (by decide), fun h0_ => absurd ((hoff 14 (by kernel_rfl)).symm.trans h0_) (by decide), fun h0_ => absurd ((hoff 15 (by kernel_rfl)).symm.trans h0_) (by decide)⟩
                refine steps_cons ?_ ?_
                ·rintro b a w' ⟨v363, v366, v370, v373, m14_, m15_, ha, Q_HB, Q_HO364, Q_HO367, Q_HO371, Q_HO374, Q_X14_, Q_X15_⟩ hb_ hon hoff
                 refine ⟨_, rfl, fun K hK => ?_⟩
                 have e95 : a.tmps[95]? = some (.slice (some ad368) l5.length c5) := by rw [ha]; exact (putSel_off rfl).trans rfl
                 have e96 : a.tmps[96]? = some (.int .i64 x15_1) := by rw [ha]; exact (putSel_off rfl).trans rfl
                 replace ha := Aside0.mk ha
                 have HB := Aside0.mk Q_HB
                 have hs1_ : w'.cell? (ad368.add (x15_1).toNat) = some (.int .u64 (rd l5 x15_1)) := ((HB.out.cell (World.block_lt_of_cell? w _ hw368_0)).trans hw368_0)
                 refine value_ (w1 := w') (v := .pointer (some (ad368.add (x15_1).toNat))) (by rfl) rfl ?_ ?_
                 ·go_simp
                  (try simp only [i64_w])
                  try rfl
                 refine hK.out _ _ ⟨v363, v366, v370, v373, m14_, m15_, (by rw [ha.out]; exact putSel_upk 4 hb_ rfl rfl rfl), Q_HB, Q_HO364, Q_HO367, fun h0_ => absurd ((hoff 12 (by kernel_rfl)).symm.trans h0_) (by decide), fun h0_ => absurd ((hoff 13 (by kernel_rfl)).symm.trans h0_) (by decide), fun h0_ => absurd ((hoff 14 (by kernel_rfl)).symm.trans h0_) (by decide), fun h0_ => absurd ((hoff 15 (by kernel_rfl)).symm.trans h0_) (by decide)⟩
                refine steps_cons ?_ ?_
                ·rintro b a w' ⟨v363, v366, v370, v373, m14_, m15_, ha, Q_HB, Q_HO364, Q_HO367, Q_HO371, Q_HO374, Q_X14_, Q_X15_⟩ hb_ hon hoff
                 refine ⟨_, rfl, fun K hK => ?_⟩
                 have e97 : a.tmps[97]? = some (.pointer (some (ad368.add (x15_1).toNat))) := by rw [ha]; exact putSel_on (e := (10, 97, .pointer (some (ad368.add (x15_1).toNat)))) 4 rfl rfl (hon 10 (by kernel_rfl)) rfl
                 replace ha := Aside0.mk ha
                 have HB := Aside0.mk Q_HB
                 have hs1_ : w'.cell? (ad368.add (x15_1).toNat) = some (.int .u64 (rd l5 x15_1)) := ((HB.out.cell (World.block_lt_of_cell? w _ hw368_0)).trans hw368_0)
                 refine value_ (w1 := w') (v := .int .u64 (rd l5 x15_1)) (by rfl) rfl ?_ ?_
                 ·go_simp
                  (try simp only [i64_w])
                  try rfl
                 refine hK.out _ _ ⟨v363, v366, v370, v373, m14_, m15_, (by rw [ha.out]; exact putSel_upk 5 hb_ rfl rfl rfl), Q_HB, Q_HO364, Q_HO367, fun h0_ => absurd ((hoff 12 (by kernel_rfl)).symm.trans h0_) (by decide), fun h0_ => absurd ((hoff 13 (by kernel_rfl)).symm.trans h0_) (by decide), fun h0_ => absurd ((hoff 14 (by kernel_rfl)).symm.trans h0_) (by decide), fun h0_ => absurd ((hoff 15 (by kernel_rfl)).symm.trans h0_) (by decide)⟩
                refine steps_cons ?_ ?_
                ·rintro b a w' ⟨v363, v366, v370, v373, m14_, m15_, ha, Q_HB, Q_HO364, Q_HO367, Q_HO371, Q_HO374, Q_X14_, Q_X15_⟩ hb_ hon hoff
                 refine ⟨_, rfl, fun K hK => ?_⟩
                 have e94 : a.tmps[94]? = some (.int .u64 t346) := by rw [ha]; exact (putSel_off rfl).trans rfl
                 have e98 : a.tmps[98]? = some (.int .u64 (rd l5 x15_1)) := by rw [ha]; exact putSel_on (e := (11, 98, .int .u64 (rd l5 x15_1))) 5 rfl rfl (hon 11 (by kernel_rfl)) rfl
                 replace ha := Aside0.mk ha
                 have HB := Aside0.mk Q_HB
                 refine Kd.R_lit_step (Kd.int .u64) _ 25 ?hg (N := 99) ?hd (xs := ([t346, rd l5 x15_1] : List Int)) (inner := [.int .u64 t346, .int .u64 (rd l5 x15_1)]) (ok := fun _ => True) (okp := fun _ => True) ?hr ?hp (fun _ hk => hk) trivial (Below.refl _ _) (Nat.le_refl _) (by simp) ?_; (case hd => rfl); (case hg => rfl); (case hr => first | (go_simp; done) | (go_simp; rfl)); (case hp => exact (Reps.one (show Kd.M (Kd.int .u64) _ _ _ t346 [.int .u64 t346] from rfl) (Reps.one (show Kd.M (Kd.int .u64) _ _ _ (rd l5 x15_1) [.int .u64 (rd l5 x15_1)] from rfl) (Reps.none _ _))))
                 intro v370 w58 ho59 hb hg_ hnew_
                 clear hg_ hnew_
                 (first | rw [← Ny369.out] at ho59 | (simp only [Int.reduceToNat] at ho59; rw [← Ny369.out] at ho59))
                 have n0_ := Aside0.mk (Kd.R_lower ho59 (below_size (by repeat (first | (with_reducible first | exact HB.out | apply below_alloc | apply pw_below_drewN | apply below_drew1) | exact HB.out))))
                 have n1_ := Aside0.mk (below_step (by repeat (first | (with_reducible first | exact HB.out | apply below_alloc | apply pw_below_drewN | apply below_drew1) | exact HB.out)) hb)
                 have z_HO364 := fun (h0_ : b 5 = true) => (show Kd.R (Kd.int .u64) 25 w58 w.heap.size (fun _ => True) v363 y362 from by first | exact (Kd.R_elder' (by (with_reducible repeat (first | apply Kd.R_alloc | apply Kd.R_drewN | apply Kd.R_drew)); exact (Q_HO364 h0_)) (Kd.R_base ho59) hb) | exact Kd.R_mono (Kd.R_elder' (by (with_reducible repeat (first | apply Kd.R_alloc | apply Kd.R_drewN | apply Kd.R_drew)); exact (Q_HO364 h0_)) (Kd.R_base ho59) hb) (fun _ h_ => by first | trivial | exact h_ | exact h_.1))
                 have z_HO367 := fun (h0_ : b 6 = true) => (show Kd.R (Kd.int .u8) 5 w58 w.heap.size (fun _ => True) v366 t365 from by first | exact (Kd.R_below (by (with_reducible repeat (first | apply Kd.R_alloc | apply Kd.R_drewN | apply Kd.R_drew)); exact (Q_HO367 h0_)) hb) | exact Kd.R_mono (Kd.R_below (by (with_reducible repeat (first | apply Kd.R_alloc | apply Kd.R_drewN | apply Kd.R_drew)); exact (Q_HO367 h0_)) hb) (fun _ h_ => by first | trivial | exact h_ | exact h_.1))
                 clear HB
                 have HO371 := n0_
                 have HB := n1_
                 clear n0_ n1_
                 clear hb ho59
                 refine hK.out _ _ ⟨v363, v366, v370, v373, m14_, m15_, (by rw [ha.out]; exact putSel_upk 6 hb_ rfl rfl rfl), (by repeat (first | (with_reducible first | exact HB.out | apply below_alloc | apply pw_below_drewN | apply below_drew1) | exact HB.out)), z_HO364, z_HO367, fun _ => (by (with_reducible repeat (first | apply Kd.R_alloc | apply Kd.R_drewN | apply Kd.R_drew)); exact HO371.out), fun h0_ => absurd ((hoff 13 (by kernel_rfl)).symm.trans h0_) (by decide), fun h0_ => absurd ((hoff 14 (by kernel_rfl)).symm.trans h0_) (by decide), fun h0_ => absurd ((hoff 15 (by kernel_rfl)).symm.trans h0_) (by decide)⟩
                refine steps_cons ?_ ?_
                ·rintro b a w' ⟨v363, v366, v370, v373, m14_, m15_, ha, Q_HB, Q_HO364, Q_HO367, Q_HO371, Q_HO374, Q_X14_, Q_X15_⟩ hb_ hon hoff
                 refine ⟨_, rfl, fun K hK => ?_⟩
                 have e99 : a.tmps[99]? = some (v370) := by rw [ha]; exact putSel_on (e := (12, 99, v370)) 6 rfl rfl (hon 12 (by kernel_rfl)) rfl
                 replace ha := Aside0.mk ha
                 have HB := Aside0.mk Q_HB
                 have HO364 := Aside0.mk (Q_HO364 (hon 5 (by kernel_rfl)))
                 have HO367 := Aside0.mk (Q_HO367 (hon 6 (by kernel_rfl)))
                 have HO371 := Aside0.mk (Q_HO371 (hon 12 (by kernel_rfl)))
                 obtain ⟨Ao65, co65, eo65⟩ := Kd.R_slice HO371.out
                 (first | subst eo65 | (injection eo65 with f1_ f2_ f3_; have f4_ := f1_.symm; have f5_ := f3_.symm; clear f1_ f2_ f3_; subst f4_; subst f5_))
                 refine goes_ Tryd.func23 (by kernel_rfl) rfl #[.int .u8 1, .slice Ao65 y369.length co65] (by rfl) rfl rfl (by first | (simp only [List.map_toArray, List.map_cons, List.map_nil, Act.eval, Array.getD_eq_getD_getElem?, Option.getD_some, e99]; done) | (simp only [List.map_toArray, List.map_cons, List.map_nil, Act.eval, Array.getD_eq_getD_getElem?, Option.getD_some, e99]; rfl)) ?_
                 with_reducible refine (cohousinglaw06_bytes.calls kj31 1 _ _ y369 t372 _ ?side1 ?side2 A56.out).mono ?_
                 (case side1 => repeat (first | exact (Kd.R_reads' HO371.out).2.2 | (with_reducible refine Kd.C_alloc ?_ _) | (with_reducible refine Kd.C_drewN ?_ _) | (with_reducible refine Kd.C_drew ?_)))
                 (case side2 => exact (Kd.R_reads' HO371.out).2.1)
                 rintro e w66 ⟨v373, rfl, ho0, hb⟩
                 refine ⟨_, rfl, ?_⟩
                 have n0_ := Aside0.mk (Kd.R_below (by (with_reducible repeat (first | apply Kd.R_alloc | apply Kd.R_drewN | apply Kd.R_drew)); exact HO364.out) hb)
                 have n1_ := Aside0.mk (Kd.R_elder' (by (with_reducible repeat (first | apply Kd.R_alloc | apply Kd.R_drewN | apply Kd.R_drew)); exact HO367.out) (Kd.R_base ho0) hb)
                 have n2_ := Aside0.mk (Kd.R_below (by (with_reducible repeat (first | apply Kd.R_alloc | apply Kd.R_drewN | apply Kd.R_drew)); exact HO371.out) hb)
                 have n3_ := Aside0.mk (Kd.R_lower (Kd.R_new' ho0 (Kd.R_lt (by (with_reducible repeat (first | apply Kd.R_alloc | apply Kd.R_drewN | apply Kd.R_drew)); exact HO367.out))) (below_size (by repeat (first | (with_reducible first | exact HB.out | apply below_alloc | apply pw_below_drewN | apply below_drew1) | exact HB.out))))
                 have n4_ := Aside0.mk (below_step (by repeat (first | (with_reducible first | exact HB.out | apply below_alloc | apply pw_below_drewN | apply below_drew1) | exact HB.out)) hb)
                 clear HO364
                 clear HO367
                 clear HO371
                 clear HB
                 have HO364 := n0_
                 have HO367 := n1_
                 have HO371 := n2_
                 have HO374 := n3_
                 have HB := n4_
                 clear n0_ n1_ n2_ n3_ n4_
                 (try clear hb)
                 (try clear hb2)
                 (try clear hk)
                 (try clear hi)
                 (try clear ho0)
                 refine hK.out _ _ ⟨v363, v366, .slice Ao65 y369.length co65, v373, m14_, m15_, (by rw [ha.out]; exact putSel_upk 7 hb_ rfl rfl rfl), (by repeat (first | (with_reducible first | exact HB.out | apply below_alloc | apply pw_below_drewN | apply below_drew1) | exact HB.out)), fun _ => (by (with_reducible repeat (first | apply Kd.R_alloc | apply Kd.R_drewN | apply Kd.R_drew)); exact HO364.out), fun _ => (by (with_reducible repeat (first | apply Kd.R_alloc | apply Kd.R_drewN | apply Kd.R_drew)); exact Kd.R_mono HO367.out (fun _ _ => trivial)), fun _ => (by (with_reducible repeat (first | apply Kd.R_alloc | apply Kd.R_drewN | apply Kd.R_drew)); exact HO371.out), fun _ => (by (with_reducible repeat (first | apply Kd.R_alloc | apply Kd.R_drewN | apply Kd.R_drew)); exact Kd.R_mono HO374.out (fun _ _ => trivial)), fun h0_ => absurd ((hoff 14 (by kernel_rfl)).symm.trans h0_) (by decide), fun h0_ => absurd ((hoff 15 (by kernel_rfl)).symm.trans h0_) (by decide)⟩
                refine steps_cons ?_ ?_
                ·rintro b a w' ⟨v363, v366, v370, v373, m14_, m15_, ha, Q_HB, Q_HO364, Q_HO367, Q_HO371, Q_HO374, Q_X14_, Q_X15_⟩ hb_ hon hoff
                 refine ⟨_, rfl, fun K hK => ?_⟩
                 have e93 : a.tmps[93]? = some (v366) := by rw [ha]; exact putSel_on (e := (6, 93, v366)) 3 rfl rfl (hon 6 (by kernel_rfl)) rfl
                 replace ha := Aside0.mk ha
                 have HB := Aside0.mk Q_HB
                 have HO364 := Aside0.mk (Q_HO364 (hon 5 (by kernel_rfl)))
                 have HO367 := Aside0.mk (Q_HO367 (hon 6 (by kernel_rfl)))
                 have HO371 := Aside0.mk (Q_HO371 (hon 12 (by kernel_rfl)))
                 have HO374 := Aside0.mk (Q_HO374 (hon 13 (by kernel_rfl)))
                 refine value_ (w1 := w') (v := v366) (by rfl) rfl ?_ ?_
                 ·go_simp
                  (try simp only [i64_w])
                  try rfl
                 refine hK.out _ _ ⟨v363, v366, v370, v373, (v366), m15_, (by rw [ha.out]; exact putSel_upk 8 hb_ rfl rfl rfl), Q_HB, Q_HO364, Q_HO367, Q_HO371, Q_HO374, fun _ => rfl, fun h0_ => absurd ((hoff 15 (by kernel_rfl)).symm.trans h0_) (by decide)⟩
                refine steps_cons ?_ ?_
                ·rintro b a w' ⟨v363, v366, v370, v373, m14_, m15_, ha, Q_HB, Q_HO364, Q_HO367, Q_HO371, Q_HO374, Q_X14_, Q_X15_⟩ hb_ hon hoff
                 refine ⟨_, rfl, fun K hK => ?_⟩
                 have e100 : a.tmps[100]? = some (v373) := by rw [ha]; exact putSel_on (e := (13, 100, v373)) 7 rfl rfl (hon 13 (by kernel_rfl)) rfl
                 replace ha := Aside0.mk ha
                 have HB := Aside0.mk Q_HB
                 have HO364 := Aside0.mk (Q_HO364 (hon 5 (by kernel_rfl)))
                 have HO367 := Aside0.mk (Q_HO367 (hon 6 (by kernel_rfl)))
                 have HO371 := Aside0.mk (Q_HO371 (hon 12 (by kernel_rfl)))
                 have HO374 := Aside0.mk (Q_HO374 (hon 13 (by kernel_rfl)))
                 refine value_ (w1 := w') (v := v373) (by rfl) rfl ?_ ?_
                 ·go_simp
                  (try simp only [i64_w])
                  try rfl
                 refine hK.out _ _ ⟨v363, v366, v370, v373, m14_, (v373), (by rw [ha.out]; exact putSel_upk 9 hb_ rfl rfl rfl), Q_HB, Q_HO364, Q_HO367, Q_HO371, Q_HO374, Q_X14_, fun _ => rfl⟩
                exact steps_nil
               rintro b a w66 hall ⟨v363, v366, v370, v373, m14_, m15_, ha, Q_HB, Q_HO364, Q_HO367, Q_HO371, Q_HO374, Q_X14_, Q_X15_⟩
               clear HB
               have hb3_ := hall 3 (by kernel_rfl)
               have hb4_ := hall 4 (by kernel_rfl)
               have hb5_ := hall 5 (by kernel_rfl)
               have hb6_ := hall 6 (by kernel_rfl)
               have hb10_ := hall 10 (by kernel_rfl)
               have hb11_ := hall 11 (by kernel_rfl)
               have hb12_ := hall 12 (by kernel_rfl)
               have hb13_ := hall 13 (by kernel_rfl)
               have hb14_ := hall 14 (by kernel_rfl)
               have hb15_ := hall 15 (by kernel_rfl)
               subst ha
               obtain rfl := Q_X14_ hb14_
               obtain rfl := Q_X15_ hb15_
               simp only [putSel, hb3_, hb4_, hb5_, hb6_, hb10_, hb11_, hb12_, hb13_, hb14_, hb15_, if_true, Act.put, List.setIfInBounds_toArray, List.set_cons_zero, List.set_cons_succ]
               have HB := Aside0.mk Q_HB
               clear Q_HB
               have HO364 := Aside0.mk (Q_HO364 hb5_)
               clear Q_HO364
               have HO367 := Aside0.mk (Q_HO367 hb6_)
               clear Q_HO367
               have HO371 := Aside0.mk (Q_HO371 hb12_)
               clear Q_HO371
               have HO374 := Aside0.mk (Q_HO374 hb13_)
               clear Q_HO374
               clear hall hb3_ hb4_ hb5_ hb6_ hb10_ hb11_ hb12_ hb13_ hb14_ hb15_
               try go_wp2
               go_roundg kj31
               case measure => have := HK1.out; have := HJ18.out; have := HJ27.out; have := HJ31.out; omega
               case rel => exact ⟨(wrap64 (Int.tdiv x2_27 2)), (wrap64 (Int.tdiv (wrap64 (x3_27 + 1)) 2)), (t365), (t372), (wrap64 (x15_1 + 1)), (by first | rfl | (simp; done) | (simp [*]; done)), (by first | rfl | (simp; done) | (simp [*]; done)), (by first | rfl | (simp; done) | (simp [*]; done)), H', ⟨by have := HK1.out; have := HJ18.out; have := HJ27.out; have := HJ31.out; omega⟩, ⟨by (with_reducible repeat (first | apply Kd.R_alloc | apply Kd.R_drewN | apply Kd.R_drew)); exact HO367.out⟩, ⟨by (with_reducible repeat (first | apply Kd.R_alloc | apply Kd.R_drewN | apply Kd.R_drew)); exact HO374.out⟩, ⟨by repeat (first | (with_reducible first | exact HB.out | apply below_alloc | apply pw_below_drewN | apply below_drew1) | exact HB.out)⟩⟩
              ·rw [if_neg c55] at H
               exact absurd H (by simp)
             ·rw [if_neg c53] at H
              exact absurd H (by simp)
            ·rw [if_neg c52] at H
             exact absurd H (by simp)

end Go.Proofs.YtolgpnbjjehdiaaDoor.P
