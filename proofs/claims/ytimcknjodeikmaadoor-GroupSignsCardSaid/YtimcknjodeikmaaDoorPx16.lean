-- Written by a program of this session out of the translation (wip/pp: the kit's print, turned). Not trusted: Lean checks it.
import Derived.Test.YtimcknjodeikmaaDoorPx0
import Derived.Test.YtimcknjodeikmaaDoorPx2
import Derived.Test.YtimcknjodeikmaaDoorPx3
import Derived.Test.YtimcknjodeikmaaDoorPx6
import Derived.Test.YtimcknjodeikmaaDoorPx7
import Derived.Test.YtimcknjodeikmaaDoorPx9
import Derived.Test.YtimcknjodeikmaaDoorXrest
namespace Go.Proofs.YtimcknjodeikmaaDoor.P
open Go.RowKit Go.Proofs.YtimcknjodeikmaaDoorW.PrintWords Go.Proofs.YtimcknjodeikmaaDoorW.PrintLast Go.Proofs.YtimcknjodeikmaaDoorW.PrintMore
attribute [local go_sem] max2_int min2_int max_two min_two max_three min_three max_four min_four   -- for this text's walks alone
set_option linter.unusedVariables false
set_option linter.unusedSimpArgs false

/-! ### cohousinglaw08_GroupSigns: function 7 -/
def cohousinglaw08_GroupSigns.j0 : Nat → List Int → Bool → Int → Bool → Int → Int → Option (Bool)
 | 0, _, _, _, _, _, _ => none
 | k + 1, x2, x9, x11, x50, x398000, x398001 => if x50 = true then (some false) else ((cohousingref08_Rest.f (Int.tmod x398000 1073741789)).bind fun t411 => ((cohousingref08_Rest.f (Int.tmod x398001 1073741789)).bind fun t412 => ((group_Verify.f k x11 t411 t412 x2).bind fun bt413 => ((cohousingref08_Back.f k 4 x11 t411 t412).bind fun t415 => ((some (([t415, x11] : List Int) : List Int)).bind fun y416 => (if y416.length + x2.length < 17592186044416 then (if x9 = true then (if bt413.2 = 0 then ((cohousingref08_Challenge.f k (y416 ++ x2)).bind fun t422 => (some (bt413.1 == (t422 == t411)))) else (some false)) else (some false)) else (none)))))))
def cohousinglaw08_GroupSigns.f (k : Nat) (a0 : Int) (a1 : Int) (l2 : List Int) (a3_0 : Int) (a3_1 : Int) : Option (Bool) := (cohousinglaw08_head.f k).bind fun t398 => ((cohousinglaw08_few.f l2).bind fun t399 => ((cohousingref08_Secret.f a0).bind fun t402 => ((cohousingref08_Power.f k 4 t402 2147483579).bind fun t403 => ((cohousingref08_Secret.f a1).bind fun t404 => ((group_Sign.f k t402 t404 t399).bind fun bt405 => ((group_Verify.f k t403 bt405.1 bt405.2.1 t399).bind fun bt409 => (if bt405.2.2 = 0 then (if bt409.2 = 0 then (cohousinglaw08_GroupSigns.j0 k t399 t398 t403 (!bt409.1) a3_0 a3_1) else (cohousinglaw08_GroupSigns.j0 k t399 t398 t403 true a3_0 a3_1)) else (cohousinglaw08_GroupSigns.j0 k t399 t398 t403 true a3_0 a3_1))))))))
theorem cohousinglaw08_GroupSigns.mono_l : ∀ k, (∀ y0 y1 y2 y3 y4 y5, LeO (cohousinglaw08_GroupSigns.j0 k y0 y1 y2 y3 y4 y5) (cohousinglaw08_GroupSigns.j0 (k + 1) y0 y1 y2 y3 y4 y5))
 | 0 => fun _ _ _ _ _ _ r h => by simp [cohousinglaw08_GroupSigns.j0] at h
 | k + 1 => by
  have ih0 := cohousinglaw08_GroupSigns.mono_l k
  ·intro y0 y1 y2 y3 y4 y5
   unfold cohousinglaw08_GroupSigns.j0
   repeat' first
   | (with_reducible exact ih0 _ _ _ _ _ _)
   | (with_reducible exact cohousinglaw08_head.mono _)
   | (with_reducible exact cohousingref08_Back.mono _ _ _ _ _)
   | (with_reducible exact cohousingref08_Challenge.mono _ _)
   | (with_reducible exact cohousingref08_Power.mono _ _ _ _)
   | (with_reducible exact group_Sign.mono _ _ _ _)
   | (with_reducible exact group_Verify.mono _ _ _ _ _)
   | (with_reducible exact LeO.refl _)
   | (with_reducible exact LeO.none _)
   | (with_reducible refine LeO.ite ?_ ?_)
   | (with_reducible refine LeO.bind ?_ (fun _ => ?_))
   | exact ih0 _ _ _ _ _ _
   | exact cohousinglaw08_head.mono _
   | exact cohousingref08_Back.mono _ _ _ _ _
   | exact cohousingref08_Challenge.mono _ _
   | exact cohousingref08_Power.mono _ _ _ _
   | exact group_Sign.mono _ _ _ _
   | exact group_Verify.mono _ _ _ _ _
   | exact LeO.none _
   | refine LeO.ite ?_ ?_
   | refine LeO.bind ?_ (fun _ => ?_)
theorem cohousinglaw08_GroupSigns.mono : ∀ a0 a1 a2 a3 a4 k, LeO (cohousinglaw08_GroupSigns.f k a0 a1 a2 a3 a4) (cohousinglaw08_GroupSigns.f (k + 1) a0 a1 a2 a3 a4) := by
 intro a0 a1 a2 a3 a4 k
 have ih0 := cohousinglaw08_GroupSigns.mono_l k
 unfold cohousinglaw08_GroupSigns.f
 repeat' first
   | (with_reducible exact ih0 _ _ _ _ _ _)
   | (with_reducible exact cohousinglaw08_head.mono _)
   | (with_reducible exact cohousingref08_Back.mono _ _ _ _ _)
   | (with_reducible exact cohousingref08_Challenge.mono _ _)
   | (with_reducible exact cohousingref08_Power.mono _ _ _ _)
   | (with_reducible exact group_Sign.mono _ _ _ _)
   | (with_reducible exact group_Verify.mono _ _ _ _ _)
   | (with_reducible exact LeO.refl _)
   | (with_reducible exact LeO.none _)
   | (with_reducible refine LeO.ite ?_ ?_)
   | (with_reducible refine LeO.bind ?_ (fun _ => ?_))
   | exact ih0 _ _ _ _ _ _
   | exact cohousinglaw08_head.mono _
   | exact cohousingref08_Back.mono _ _ _ _ _
   | exact cohousingref08_Challenge.mono _ _
   | exact cohousingref08_Power.mono _ _ _ _
   | exact group_Sign.mono _ _ _ _
   | exact group_Verify.mono _ _ _ _ _
   | exact LeO.none _
   | refine LeO.ite ?_ ?_
   | refine LeO.bind ?_ (fun _ => ?_)
def cohousinglaw08_GroupSigns.T13 : Bool × List (List Nat × List Nat) := (true, [([], []), ([0], [0]), ([1], [1]), ([2, 1], [1, 2]), ([1, 3], [1, 3]), ([4, 1], [4]), ([5], [5]), ([5], [5]), ([7, 5, 5], [5, 7]), ([5], [5]), ([9, 5], [5, 9]), ([8, 10, 5], [5, 8, 10]), ([6, 11, 5], [5, 6, 11]), ([5, 12], [5, 12]), ([13, 8, 0, 1, 2, 3, 4, 5, 6, 7, 8, 9, 10, 11, 12, 13], [13])])
def cohousinglaw08_GroupSigns.B13 : List Nat := [0, 1, 3, 7, 15, 31, 63, 63, 191, 63, 575, 1983, 4095, 8191, 16383]
theorem cohousinglaw08_GroupSigns.tab13 : rtab .any (opsOf Tryd.f7 13) = cohousinglaw08_GroupSigns.T13 := by kernel_rfl
theorem cohousinglaw08_GroupSigns.bits13 : waitsOk cohousinglaw08_GroupSigns.T13.2 cohousinglaw08_GroupSigns.B13 = true := by kernel_rfl
set_option maxHeartbeats 8000000 in
set_option maxRecDepth 100000 in
theorem cohousinglaw08_GroupSigns.calls (k : Nat) (a0 : Int) (a1 : Int) (A2 : Option Addr) (c2 : Nat) (l2 : List Int) (a3_0 : Int) (a3_1 : Int) (r : Bool) (w : World) (hr2 : Kd.C (Kd.int .i64) w A2 l2.length l2) (hc2 : l2.length ≤ c2) (hT : TabOk w) (h : cohousinglaw08_GroupSigns.f k a0 a1 l2 a3_0 a3_1 = some r) :
  Calls Tryd.prog 7 #[.int .u64 a0, .int .u64 a1, .slice A2 l2.length c2, .agg #[.int .i64 a3_0, .int .i64 a3_1]] w fun e w' => e = .returned (.bool r) ∧ Below w.heap.size w w' := by
 have hu23 := Tryd.underlying23
 have HR2 := Aside0.mk hr2
 have HC2 := Aside0.mk hc2
 clear hr2 hc2
 have HT := Aside0.mk hT
 clear hT
 have HB := Aside0.mk (Below.refl w.heap.size w)
 have H : ((cohousinglaw08_head.f k).bind fun t398 => ((cohousinglaw08_few.f l2).bind fun t399 => ((cohousingref08_Secret.f a0).bind fun t402 => ((cohousingref08_Power.f k 4 t402 2147483579).bind fun t403 => ((cohousingref08_Secret.f a1).bind fun t404 => ((group_Sign.f k t402 t404 t399).bind fun bt405 => ((group_Verify.f k t403 bt405.1 bt405.2.1 t399).bind fun bt409 => (if bt405.2.2 = 0 then (if bt409.2 = 0 then (cohousinglaw08_GroupSigns.j0 k t399 t398 t403 (!bt409.1) a3_0 a3_1) else (cohousinglaw08_GroupSigns.j0 k t399 t398 t403 true a3_0 a3_1)) else (cohousinglaw08_GroupSigns.j0 k t399 t398 t403 true a3_0 a3_1))))))))) = some r := h
 clear h
 replace H := Option.bind_eq_some_iff.mp H
 obtain ⟨t398, A50, H⟩ := H
 replace H : ((cohousinglaw08_few.f l2).bind fun t399 => ((cohousingref08_Secret.f a0).bind fun t402 => ((cohousingref08_Power.f k 4 t402 2147483579).bind fun t403 => ((cohousingref08_Secret.f a1).bind fun t404 => ((group_Sign.f k t402 t404 t399).bind fun bt405 => ((group_Verify.f k t403 bt405.1 bt405.2.1 t399).bind fun bt409 => (if bt405.2.2 = 0 then (if bt409.2 = 0 then (cohousinglaw08_GroupSigns.j0 k t399 t398 t403 (!bt409.1) a3_0 a3_1) else (cohousinglaw08_GroupSigns.j0 k t399 t398 t403 true a3_0 a3_1)) else (cohousinglaw08_GroupSigns.j0 k t399 t398 t403 true a3_0 a3_1)))))))) = some r := H
 have A5 := Aside0.mk A50
 clear A50
 replace H := Option.bind_eq_some_iff.mp H
 obtain ⟨t399, A60, H⟩ := H
 replace H : ((cohousingref08_Secret.f a0).bind fun t402 => ((cohousingref08_Power.f k 4 t402 2147483579).bind fun t403 => ((cohousingref08_Secret.f a1).bind fun t404 => ((group_Sign.f k t402 t404 t399).bind fun bt405 => ((group_Verify.f k t403 bt405.1 bt405.2.1 t399).bind fun bt409 => (if bt405.2.2 = 0 then (if bt409.2 = 0 then (cohousinglaw08_GroupSigns.j0 k t399 t398 t403 (!bt409.1) a3_0 a3_1) else (cohousinglaw08_GroupSigns.j0 k t399 t398 t403 true a3_0 a3_1)) else (cohousinglaw08_GroupSigns.j0 k t399 t398 t403 true a3_0 a3_1))))))) = some r := H
 have A6 := Aside0.mk A60
 clear A60
 replace H := Option.bind_eq_some_iff.mp H
 obtain ⟨t402, A70, H⟩ := H
 replace H : ((cohousingref08_Power.f k 4 t402 2147483579).bind fun t403 => ((cohousingref08_Secret.f a1).bind fun t404 => ((group_Sign.f k t402 t404 t399).bind fun bt405 => ((group_Verify.f k t403 bt405.1 bt405.2.1 t399).bind fun bt409 => (if bt405.2.2 = 0 then (if bt409.2 = 0 then (cohousinglaw08_GroupSigns.j0 k t399 t398 t403 (!bt409.1) a3_0 a3_1) else (cohousinglaw08_GroupSigns.j0 k t399 t398 t403 true a3_0 a3_1)) else (cohousinglaw08_GroupSigns.j0 k t399 t398 t403 true a3_0 a3_1)))))) = some r := H
 have A7 := Aside0.mk A70
 clear A70
 replace H := Option.bind_eq_some_iff.mp H
 obtain ⟨t403, A80, H⟩ := H
 replace H : ((cohousingref08_Secret.f a1).bind fun t404 => ((group_Sign.f k t402 t404 t399).bind fun bt405 => ((group_Verify.f k t403 bt405.1 bt405.2.1 t399).bind fun bt409 => (if bt405.2.2 = 0 then (if bt409.2 = 0 then (cohousinglaw08_GroupSigns.j0 k t399 t398 t403 (!bt409.1) a3_0 a3_1) else (cohousinglaw08_GroupSigns.j0 k t399 t398 t403 true a3_0 a3_1)) else (cohousinglaw08_GroupSigns.j0 k t399 t398 t403 true a3_0 a3_1))))) = some r := H
 have A8 := Aside0.mk A80
 clear A80
 replace H := Option.bind_eq_some_iff.mp H
 obtain ⟨t404, A90, H⟩ := H
 replace H : ((group_Sign.f k t402 t404 t399).bind fun bt405 => ((group_Verify.f k t403 bt405.1 bt405.2.1 t399).bind fun bt409 => (if bt405.2.2 = 0 then (if bt409.2 = 0 then (cohousinglaw08_GroupSigns.j0 k t399 t398 t403 (!bt409.1) a3_0 a3_1) else (cohousinglaw08_GroupSigns.j0 k t399 t398 t403 true a3_0 a3_1)) else (cohousinglaw08_GroupSigns.j0 k t399 t398 t403 true a3_0 a3_1)))) = some r := H
 have A9 := Aside0.mk A90
 clear A90
 replace H := Option.bind_eq_some_iff.mp H
 obtain ⟨⟨t405, t406, t407⟩, A100, H⟩ := H
 replace H : ((group_Verify.f k t403 t405 t406 t399).bind fun bt409 => (if t407 = 0 then (if bt409.2 = 0 then (cohousinglaw08_GroupSigns.j0 k t399 t398 t403 (!bt409.1) a3_0 a3_1) else (cohousinglaw08_GroupSigns.j0 k t399 t398 t403 true a3_0 a3_1)) else (cohousinglaw08_GroupSigns.j0 k t399 t398 t403 true a3_0 a3_1))) = some r := H
 have A10 := Aside0.mk A100
 clear A100
 replace H := Option.bind_eq_some_iff.mp H
 obtain ⟨⟨t409, t410⟩, A110, H⟩ := H
 replace H : (if t407 = 0 then (if t410 = 0 then (cohousinglaw08_GroupSigns.j0 k t399 t398 t403 (!t409) a3_0 a3_1) else (cohousinglaw08_GroupSigns.j0 k t399 t398 t403 true a3_0 a3_1)) else (cohousinglaw08_GroupSigns.j0 k t399 t398 t403 true a3_0 a3_1)) = some r := H
 have A11 := Aside0.mk A110
 clear A110
 have HC12 := Aside0.mk H
 clear H
 go_enter Tryd.func7, Tryd.ntmps7
 go_upto_region 7 with (first | ((with_reducible refine gate_dst (N := 7) rfl ?_); refine box_event ?hg (N := 7) ?hd (cs := #[.int .i64 a3_0, .int .i64 a3_1]) (t := 23) ?hr ?_; (case hd => rfl); (case hg => rfl); (case hr => first | (go_simp; done) | (go_simp; rfl)); intro gb397 hg w13 hbox hb; have n0_ := Aside0.mk (below_step (by repeat (first | (with_reducible first | exact HB.out | apply below_alloc | apply pw_below_drewN | apply below_drew1) | exact HB.out)) hb); have n1_ := Aside0.mk (hbox); have n2_ := Aside0.mk ((by rw [hg]; exact (below_size (by repeat (first | (with_reducible first | exact HB.out | apply below_alloc | apply pw_below_drewN | apply below_drew1) | exact HB.out))) : w.heap.size ≤ gb397)); have n3_ := Aside0.mk ((by rw [hg]; exact (below_size (by repeat (first | (with_reducible first | exact HB.out | apply below_alloc | apply pw_below_drewN | apply below_drew1) | exact HB.out))) : w.heap.size ≤ gb397)); clear HB; have HB := n0_; have BK397 := n1_; have GW397 := n2_; have GE397 := n3_; clear n0_ n1_ n2_ n3_; clear hb hbox hg) | ((with_reducible refine gate_callee (f := 10) rfl ?_); refine goesL_ (some 19) rfl rfl Tryd.func10 (by kernel_rfl) rfl #[] rfl (by (try simp only [List.map_toArray, List.map_cons, List.map_nil]); first | done | rfl | (simp only [List.length_drop, List.length_take]; rfl)) ?_; (with_reducible refine (cohousinglaw08_head.calls k  t398 _ ?side1 A5.out).mono ?_); (case side1 => exact TabOk.below HT.out (by repeat (first | (with_reducible first | exact HB.out | apply below_alloc | apply pw_below_drewN | apply below_drew1 | refine below_set ?_ GE397.out) | exact HB.out))); rintro e w14 ⟨rfl, hb⟩; refine ⟨_, rfl, ?_⟩; have n0_ := Aside0.mk (blk_below (g := gb397) (o := .cells #[.int .i64 a3_0, .int .i64 a3_1] 23 (0, 0)) (by (with_reducible repeat (first | refine blk_drewN ?_ _ | refine blk_drew ?_ | refine blk_alloc ?_ _)); exact BK397.out) hb); have n1_ := Aside0.mk (below_step (by repeat (first | (with_reducible first | exact HB.out | apply below_alloc | apply pw_below_drewN | apply below_drew1 | refine below_set ?_ GE397.out) | exact HB.out)) hb); clear BK397; clear HB; have BK397 := n0_; have HB := n1_; clear n0_ n1_; (try clear hb); (try clear hb2); (try clear hk); (try clear hi)) | ((with_reducible refine gate_callee (f := 11) rfl ?_); refine goesL_ (some 21) rfl rfl Tryd.func11 (by kernel_rfl) rfl #[.slice A2 l2.length c2] rfl (by (try simp only [List.map_toArray, List.map_cons, List.map_nil]); first | done | rfl | (simp only [List.length_drop, List.length_take]; rfl)) ?_; (with_reducible refine (cohousinglaw08_few.calls (fun k_ => k_ < w.heap.size) _ _ l2 t399 _ ?side1 A6.out).mono ?_); (case side1 => exact Kd.V_mk HC2.out (Kd.F_below (Kd.C_F (Kd.heap_int .i64) HR2.out) (by repeat (first | (with_reducible first | exact HB.out | apply below_alloc | apply pw_below_drewN | apply below_drew1 | refine below_set ?_ GE397.out) | exact HB.out)))); rintro e w15 ⟨v400, rfl, ho0, hb⟩; refine ⟨_, rfl, ?_⟩; have n0_ := Aside0.mk (Kd.V_lower (Kd.V_mono (ok' := fun k_ => k_ ≠ gb397) ho0 (fun k_ hk_ => Or.elim hk_ (fun hs_ => fun e_ => Nat.not_le.2 hs_ (by rw [e_]; exact GW397.out)) (fun hn_ => (Kd.freshB (g := gb397) (o := .cells #[.int .i64 a3_0, .int .i64 a3_1] 23 (0, 0)) (by (with_reducible repeat (first | refine blk_drewN ?_ _ | refine blk_drew ?_ | refine blk_alloc ?_ _)); exact BK397.out) k_ hn_)))) (below_size (by repeat (first | (with_reducible first | exact HB.out | apply below_alloc | apply pw_below_drewN | apply below_drew1 | refine below_set ?_ GE397.out) | exact HB.out)))); have n1_ := Aside0.mk (blk_below (g := gb397) (o := .cells #[.int .i64 a3_0, .int .i64 a3_1] 23 (0, 0)) (by (with_reducible repeat (first | refine blk_drewN ?_ _ | refine blk_drew ?_ | refine blk_alloc ?_ _)); exact BK397.out) hb); have n2_ := Aside0.mk (below_step (by repeat (first | (with_reducible first | exact HB.out | apply below_alloc | apply pw_below_drewN | apply below_drew1 | refine below_set ?_ GE397.out) | exact HB.out)) hb); clear BK397; clear HB; have HO401 := n0_; have BK397 := n1_; have HB := n2_; clear n0_ n1_ n2_; (try clear hb); (try clear hb2); (try clear hk); (try clear hi); (try clear ho0)) | ((with_reducible refine gate_callee (f := 30) rfl ?_); refine goesL_ (some 23) rfl rfl Tryd.func30 (by kernel_rfl) rfl #[.int .u64 a0] rfl (by (try simp only [List.map_toArray, List.map_cons, List.map_nil]); first | done | rfl | (simp only [List.length_drop, List.length_take]; rfl)) ?_; (with_reducible refine (cohousingref08_Secret.calls a0 t402 _ A7.out).mono ?_); rintro e w' ⟨rfl, ⟨nd, rfl⟩⟩; refine ⟨_, rfl, ?_⟩; (try (rw [drewN_self w15]; generalize hq_ : World.drewN w15 _ = w15; have n0_ : Aside0 (Kd.V (Kd.int .i64) 3 w15 w.heap.size (fun k_ => k_ ≠ gb397) v400 t399) := ⟨by rw [← hq_]; exact (by (with_reducible repeat (first | apply Kd.V_alloc | apply Kd.V_drewN | apply Kd.V_drew)); exact HO401.out)⟩; have n1_ : Aside0 (w15.heap[gb397]? = some (.cells #[.int .i64 a3_0, .int .i64 a3_1] 23 (0, 0))) := ⟨by rw [← hq_]; exact (by (with_reducible repeat (first | refine blk_drewN ?_ _ | refine blk_drew ?_ | refine blk_alloc ?_ _)); exact BK397.out)⟩; have n2_ : Aside0 (Below w.heap.size w w15) := ⟨by rw [← hq_]; exact (by repeat (first | (with_reducible first | exact HB.out | apply below_alloc | apply pw_below_drewN | apply below_drew1 | refine below_set ?_ GE397.out) | exact HB.out))⟩; clear HO401 BK397 HB hq_; have HO401 := n0_; have BK397 := n1_; have HB := n2_; clear n0_ n1_ n2_))) | ((with_reducible refine gate_callee (f := 29) rfl ?_); refine goesL_ (some 25) rfl rfl Tryd.func29 (by kernel_rfl) rfl #[.int .i64 4, .int .i64 t402, .int .i64 2147483579] rfl (by (try simp only [List.map_toArray, List.map_cons, List.map_nil]); first | done | rfl | (simp only [List.length_drop, List.length_take]; rfl)) ?_; (with_reducible refine (cohousingref08_Power.calls k 4 t402 2147483579 t403 _ A8.out).mono ?_); rintro e w' ⟨rfl, ⟨nd, rfl⟩⟩; refine ⟨_, rfl, ?_⟩; (try (rw [drewN_self w15]; generalize hq_ : World.drewN w15 _ = w15; have n0_ : Aside0 (Kd.V (Kd.int .i64) 3 w15 w.heap.size (fun k_ => k_ ≠ gb397) v400 t399) := ⟨by rw [← hq_]; exact (by (with_reducible repeat (first | apply Kd.V_alloc | apply Kd.V_drewN | apply Kd.V_drew)); exact HO401.out)⟩; have n1_ : Aside0 (w15.heap[gb397]? = some (.cells #[.int .i64 a3_0, .int .i64 a3_1] 23 (0, 0))) := ⟨by rw [← hq_]; exact (by (with_reducible repeat (first | refine blk_drewN ?_ _ | refine blk_drew ?_ | refine blk_alloc ?_ _)); exact BK397.out)⟩; have n2_ : Aside0 (Below w.heap.size w w15) := ⟨by rw [← hq_]; exact (by repeat (first | (with_reducible first | exact HB.out | apply below_alloc | apply pw_below_drewN | apply below_drew1 | refine below_set ?_ GE397.out) | exact HB.out))⟩; clear HO401 BK397 HB hq_; have HO401 := n0_; have BK397 := n1_; have HB := n2_; clear n0_ n1_ n2_))) | ((with_reducible refine gate_callee (f := 30) rfl ?_); refine goesL_ (some 29) rfl rfl Tryd.func30 (by kernel_rfl) rfl #[.int .u64 a1] rfl (by (try simp only [List.map_toArray, List.map_cons, List.map_nil]); first | done | rfl | (simp only [List.length_drop, List.length_take]; rfl)) ?_; (with_reducible refine (cohousingref08_Secret.calls a1 t404 _ A9.out).mono ?_); rintro e w' ⟨rfl, ⟨nd, rfl⟩⟩; refine ⟨_, rfl, ?_⟩; (try (rw [drewN_self w15]; generalize hq_ : World.drewN w15 _ = w15; have n0_ : Aside0 (Kd.V (Kd.int .i64) 3 w15 w.heap.size (fun k_ => k_ ≠ gb397) v400 t399) := ⟨by rw [← hq_]; exact (by (with_reducible repeat (first | apply Kd.V_alloc | apply Kd.V_drewN | apply Kd.V_drew)); exact HO401.out)⟩; have n1_ : Aside0 (w15.heap[gb397]? = some (.cells #[.int .i64 a3_0, .int .i64 a3_1] 23 (0, 0))) := ⟨by rw [← hq_]; exact (by (with_reducible repeat (first | refine blk_drewN ?_ _ | refine blk_drew ?_ | refine blk_alloc ?_ _)); exact BK397.out)⟩; have n2_ : Aside0 (Below w.heap.size w w15) := ⟨by rw [← hq_]; exact (by repeat (first | (with_reducible first | exact HB.out | apply below_alloc | apply pw_below_drewN | apply below_drew1 | refine below_set ?_ GE397.out) | exact HB.out))⟩; clear HO401 BK397 HB hq_; have HO401 := n0_; have BK397 := n1_; have HB := n2_; clear n0_ n1_ n2_)); obtain ⟨Ao16, co16, eo16⟩ := Kd.V_slice HO401.out; subst eo16) | ((with_reducible refine gate_callee (f := 20) rfl ?_); refine goesL_ (some 31) rfl rfl Tryd.func20 (by kernel_rfl) rfl #[.int .i64 t402, .int .i64 t404, .slice Ao16 t399.length co16] rfl (by (try simp only [List.map_toArray, List.map_cons, List.map_nil]); first | done | rfl | (simp only [List.length_drop, List.length_take]; rfl)) ?_; (with_reducible refine (group_Sign.calls k t402 t404 _ _ t399 t405 t406 t407 _ ?side1 ?side2 ?side3 A10.out).mono ?_); (case side1 => repeat (first | exact (Kd.V_reads' HO401.out).2.2 | (with_reducible refine Kd.C_alloc ?_ _) | (with_reducible refine Kd.C_drewN ?_ _) | (with_reducible refine Kd.C_drew ?_))); (case side2 => exact (Kd.V_reads' HO401.out).2.1); (case side3 => exact TabOk.below HT.out (by repeat (first | (with_reducible first | exact HB.out | apply below_alloc | apply pw_below_drewN | apply below_drew1 | refine below_set ?_ GE397.out) | exact HB.out))); rintro e w17 ⟨rfl, hb⟩; refine ⟨_, rfl, ?_⟩; have n0_ := Aside0.mk (Kd.V_below (by (with_reducible repeat (first | apply Kd.V_alloc | apply Kd.V_drewN | apply Kd.V_drew)); exact HO401.out) hb); have n1_ := Aside0.mk (blk_below (g := gb397) (o := .cells #[.int .i64 a3_0, .int .i64 a3_1] 23 (0, 0)) (by (with_reducible repeat (first | refine blk_drewN ?_ _ | refine blk_drew ?_ | refine blk_alloc ?_ _)); exact BK397.out) hb); have n2_ := Aside0.mk (below_step (by repeat (first | (with_reducible first | exact HB.out | apply below_alloc | apply pw_below_drewN | apply below_drew1 | refine below_set ?_ GE397.out) | exact HB.out)) hb); clear HO401; clear BK397; clear HB; have HO401 := n0_; have BK397 := n1_; have HB := n2_; clear n0_ n1_ n2_; (try clear hb); (try clear hb2); (try clear hk); (try clear hi)) | ((with_reducible refine gate_dst (N := 12) rfl ?_); refine box_event ?hg (N := 12) ?hd (cs := #[.int .i64 0, .int .i64 0]) (t := 23) ?hr ?_; (case hd => rfl); (case hg => rfl); (case hr => first | (go_simp; done) | (go_simp; rfl)); intro gb408 hg w18 hbox hb; have n0_ := Aside0.mk (Kd.V_below (Kd.V_elderB (by (with_reducible repeat (first | apply Kd.V_alloc | apply Kd.V_drewN | apply Kd.V_drew)); exact HO401.out) gb408 (Nat.le_of_eq hg.symm)) hb); have n1_ := Aside0.mk (blk_below (g := gb397) (o := .cells #[.int .i64 a3_0, .int .i64 a3_1] 23 (0, 0)) (by (with_reducible repeat (first | refine blk_drewN ?_ _ | refine blk_drew ?_ | refine blk_alloc ?_ _)); exact BK397.out) hb); have n2_ := Aside0.mk (below_step (by repeat (first | (with_reducible first | exact HB.out | apply below_alloc | apply pw_below_drewN | apply below_drew1 | refine below_set ?_ GE397.out) | exact HB.out)) hb); have n3_ := Aside0.mk (hbox); have n4_ := Aside0.mk ((by rw [hg]; exact (below_size (by repeat (first | (with_reducible first | exact HB.out | apply below_alloc | apply pw_below_drewN | apply below_drew1 | refine below_set ?_ GE397.out) | exact HB.out))) : w.heap.size ≤ gb408)); have n5_ := Aside0.mk ((by rw [hg]; exact (below_size (by repeat (first | (with_reducible first | exact HB.out | apply below_alloc | apply pw_below_drewN | apply below_drew1 | refine below_set ?_ GE397.out) | exact HB.out))) : w.heap.size ≤ gb408)); have n6_ := Aside0.mk ((by rw [hg]; exact Nat.ne_of_lt (blk_lt (g := gb397) (o := .cells #[.int .i64 a3_0, .int .i64 a3_1] 23 (0, 0)) (by (with_reducible repeat (first | refine blk_drewN ?_ _ | refine blk_drew ?_ | refine blk_alloc ?_ _)); exact BK397.out)) : gb397 ≠ gb408)); have n7_ := Aside0.mk ((by rw [hg]; exact Nat.ne_of_gt (blk_lt (g := gb397) (o := .cells #[.int .i64 a3_0, .int .i64 a3_1] 23 (0, 0)) (by (with_reducible repeat (first | refine blk_drewN ?_ _ | refine blk_drew ?_ | refine blk_alloc ?_ _)); exact BK397.out)) : gb408 ≠ gb397)); clear HO401; clear BK397; clear HB; have HO401 := n0_; have BK397 := n1_; have HB := n2_; have BK408 := n3_; have GW408 := n4_; have GE408 := n5_; have NB397_408 := n6_; have NB408_397 := n7_; clear n0_ n1_ n2_ n3_ n4_ n5_ n6_ n7_; clear hb hbox hg; have hnb19 := NB408_397.out; have hnc19 := NB397_408.out; have hcz20_0 : w18.cell? ⟨gb408, 0, none⟩ = some (.int .i64 0) := (blk_cell BK408.out 0).trans rfl; have hcz20_1 : w18.cell? ⟨gb408, 1, none⟩ = some (.int .i64 0) := (blk_cell BK408.out 1).trans rfl; have hfz20_0 := blk_frozen BK408.out 0; have hfz20_1 := blk_frozen BK408.out 1) | ((with_reducible refine gate_callee (f := 22) rfl ?_); refine goesL_ (some 38) rfl rfl Tryd.func22 (by kernel_rfl) rfl #[.int .i64 t403, .agg #[.int .i64 t405, .int .i64 t406], .slice Ao16 t399.length co16] rfl (by (try simp only [List.map_toArray, List.map_cons, List.map_nil]); first | done | rfl | (simp only [List.length_drop, List.length_take]; rfl)) ?_; (with_reducible refine (group_Verify.calls k t403 t405 t406 _ _ t399 t409 t410 _ ?side1 ?side2 ?side3 A11.out).mono ?_); (case side1 => refine (Kd.V_reads' (e := 3) (base := w.heap.size) (ok := fun k_ => (k_ ≠ gb397 ∧ k_ ≠ gb408)) (n := t399.length) (c := co16) ?_).2.2; exact (by (with_reducible repeat (first | apply Kd.V_alloc | apply Kd.V_drewN | apply Kd.V_drew)); exact (Kd.V_mono (Kd.V_far (p := ⟨gb408, 1, none⟩) (Kd.V_far (p := ⟨gb408, 0, none⟩) (Kd.V_mono HO401.out (fun k_ hk => (⟨hk, hk.2⟩ : _ ∧ k_ ≠ gb408))) (fun _ hk => hk.2) (.int .i64 t405)) (fun _ hk => hk.2) (.int .i64 t406)) (fun _ h_ => h_.1)))); (case side2 => exact (Kd.V_reads' HO401.out).2.1); (case side3 => exact TabOk.below HT.out (by repeat (first | (with_reducible first | exact HB.out | apply below_alloc | apply pw_below_drewN | apply below_drew1 | refine below_set ?_ GE397.out | refine below_set ?_ GE408.out) | exact HB.out))); rintro e w21 ⟨rfl, hb⟩; refine ⟨_, rfl, ?_⟩; have n0_ := Aside0.mk (Kd.V_below (by (with_reducible repeat (first | apply Kd.V_alloc | apply Kd.V_drewN | apply Kd.V_drew)); exact (Kd.V_mono (Kd.V_far (p := ⟨gb408, 1, none⟩) (Kd.V_far (p := ⟨gb408, 0, none⟩) (Kd.V_mono HO401.out (fun k_ hk => (⟨hk, hk.2⟩ : _ ∧ k_ ≠ gb408))) (fun _ hk => hk.2) (.int .i64 t405)) (fun _ hk => hk.2) (.int .i64 t406)) (fun _ h_ => h_.1))) hb); have n1_ := Aside0.mk (blk_below (g := gb397) (o := .cells #[.int .i64 a3_0, .int .i64 a3_1] 23 (0, 0)) (by (with_reducible repeat (first | refine blk_drewN ?_ _ | refine blk_drew ?_ | refine blk_alloc ?_ _)); refine blk_far ?_ NB397_408.out _; (with_reducible repeat (first | refine blk_drewN ?_ _ | refine blk_drew ?_ | refine blk_alloc ?_ _)); refine blk_far ?_ NB397_408.out _; (with_reducible repeat (first | refine blk_drewN ?_ _ | refine blk_drew ?_ | refine blk_alloc ?_ _)); exact BK397.out) hb); have n2_ := Aside0.mk (blk_below (g := gb408) (o := .cells #[.int .i64 t405, .int .i64 t406] 23 (0, 0)) (by (with_reducible repeat (first | refine blk_drewN ?_ _ | refine blk_drew ?_ | refine blk_alloc ?_ _)); refine blk_put (cs := #[.int .i64 t405, .int .i64 0]) ?_ 1 _ rfl; (with_reducible repeat (first | refine blk_drewN ?_ _ | refine blk_drew ?_ | refine blk_alloc ?_ _)); refine blk_put (cs := #[.int .i64 0, .int .i64 0]) ?_ 0 _ rfl; (with_reducible repeat (first | refine blk_drewN ?_ _ | refine blk_drew ?_ | refine blk_alloc ?_ _)); exact BK408.out) hb); have n3_ := Aside0.mk (below_step (by repeat (first | (with_reducible first | exact HB.out | apply below_alloc | apply pw_below_drewN | apply below_drew1 | refine below_set ?_ GE397.out | refine below_set ?_ GE408.out) | exact HB.out)) hb); clear HO401; clear BK397; clear BK408; clear HB; have HO401 := n0_; have BK397 := n1_; have BK408 := n2_; have HB := n3_; clear n0_ n1_ n2_ n3_; (try clear hb); (try clear hb2); (try clear hk); (try clear hi)))
 (try simp only [Act.put, List.setIfInBounds_toArray, List.set_cons_zero, List.set_cons_succ])
 go_cut [50] (fun v50 wc => ∃ (kq : Nat) (x50_11 : Bool), v50 = .bool x50_11 ∧ Aside0 (cohousinglaw08_GroupSigns.j0 kq t399 t398 t403 x50_11 a3_0 a3_1 = some r) ∧ Aside0 (kq ≤ k) ∧ Aside0 (Kd.V (Kd.int .i64) 3 wc w.heap.size (fun k_ => k_ ≠ gb397 ∧ k_ ≠ gb408) (.slice Ao16 t399.length co16) t399) ∧ Aside0 (wc.heap[gb397]? = some (.cells #[.int .i64 a3_0, .int .i64 a3_1] 23 (0, 0))) ∧ Aside0 (wc.heap[gb408]? = some (.cells #[.int .i64 t405, .int .i64 t406] 23 (0, 0))) ∧ Aside0 (Below w.heap.size w wc))
 case first =>
  have H := HC12.out
  clear HC12
  by_cases c22 : t407 = 0
  ·rw [if_pos c22] at H
   have c22b0 : (t407 == 0) = true := beq_iff_eq.mpr c22
   have c22b1 : (t407 != 0) = false := bne_eq_false_iff_eq.mpr c22
   clear c22
   (first | rw [c22b0] | (simp only [i64_w, i32_w]; rw [c22b0]) | skip)
   by_cases c23 : t410 = 0
   ·rw [if_pos c23] at H
    have c23b0 : (t410 == 0) = true := beq_iff_eq.mpr c23
    have c23b1 : (t410 != 0) = false := bne_eq_false_iff_eq.mpr c23
    clear c23
    have H' := Aside0.mk H
    clear H
    go_wp2
    go_meet
    case rel => exact ⟨_, (!t409), (by first | rfl | (simp; done) | (simp [*]; done)), H', ⟨by first | omega | exact Nat.le_refl _⟩, ⟨by (with_reducible repeat (first | apply Kd.V_alloc | apply Kd.V_drewN | apply Kd.V_drew)); exact HO401.out⟩, ⟨by (with_reducible repeat (first | refine blk_drewN ?_ _ | refine blk_drew ?_ | refine blk_alloc ?_ _)); exact BK397.out⟩, ⟨by (with_reducible repeat (first | refine blk_drewN ?_ _ | refine blk_drew ?_ | refine blk_alloc ?_ _)); exact BK408.out⟩, ⟨by repeat (first | (with_reducible first | exact HB.out | apply below_alloc | apply pw_below_drewN | apply below_drew1 | refine below_set ?_ GE397.out | refine below_set ?_ GE408.out) | exact HB.out)⟩⟩
   ·rw [if_neg c23] at H
    have c23b0 : (t410 == 0) = false := beq_eq_false_iff_ne.mpr c23
    have c23b1 : (t410 != 0) = true := bne_iff_ne.mpr c23
    have H' := Aside0.mk H
    clear H
    go_wp2
    go_meet
    case rel => exact ⟨_, (true), (by first | rfl | (simp; done) | (simp [*]; done)), H', ⟨by first | omega | exact Nat.le_refl _⟩, ⟨by (with_reducible repeat (first | apply Kd.V_alloc | apply Kd.V_drewN | apply Kd.V_drew)); exact HO401.out⟩, ⟨by (with_reducible repeat (first | refine blk_drewN ?_ _ | refine blk_drew ?_ | refine blk_alloc ?_ _)); exact BK397.out⟩, ⟨by (with_reducible repeat (first | refine blk_drewN ?_ _ | refine blk_drew ?_ | refine blk_alloc ?_ _)); exact BK408.out⟩, ⟨by repeat (first | (with_reducible first | exact HB.out | apply below_alloc | apply pw_below_drewN | apply below_drew1 | refine below_set ?_ GE397.out | refine below_set ?_ GE408.out) | exact HB.out)⟩⟩
  ·rw [if_neg c22] at H
   have c22b0 : (t407 == 0) = false := beq_eq_false_iff_ne.mpr c22
   have c22b1 : (t407 != 0) = true := bne_iff_ne.mpr c22
   (first | rw [c22b0] | (simp only [i64_w, i32_w]; rw [c22b0]) | skip)
   have H' := Aside0.mk H
   clear H
   go_wp2
   go_meet
   case rel => exact ⟨_, (true), (by first | rfl | (simp; done) | (simp [*]; done)), H', ⟨by first | omega | exact Nat.le_refl _⟩, ⟨by (with_reducible repeat (first | apply Kd.V_alloc | apply Kd.V_drewN | apply Kd.V_drew)); exact HO401.out⟩, ⟨by (with_reducible repeat (first | refine blk_drewN ?_ _ | refine blk_drew ?_ | refine blk_alloc ?_ _)); exact BK397.out⟩, ⟨by (with_reducible repeat (first | refine blk_drewN ?_ _ | refine blk_drew ?_ | refine blk_alloc ?_ _)); exact BK408.out⟩, ⟨by repeat (first | (with_reducible first | exact HB.out | apply below_alloc | apply pw_below_drewN | apply below_drew1 | refine below_set ?_ GE397.out | refine below_set ?_ GE408.out) | exact HB.out)⟩⟩
 case rest =>
  clear HC12
  try clear c1
  try clear c2
  try clear p2
  try clear c3
  try clear c7
  try clear c10
  try clear c11
  try clear c19
  try clear c20
  try clear c22
  try clear c22b0
  try clear c22b1
  try clear c23
  try clear c23b0
  try clear c23b1
  try clear hcz20_0
  try clear hcz20_1
  try clear hfz20_0
  try clear hfz20_1
  obtain ⟨kq, x50_11, rfl, HA, HJ11, HO_2, BK397, BK408, HB⟩ := hcut
  cases kq with
  | zero => exact absurd HA.out (by simp [cohousinglaw08_GroupSigns.j0])
  | succ kj11 =>
   have H := HA.out
   clear HA
   simp only [cohousinglaw08_GroupSigns.j0] at H
   by_cases c24 : x50_11 = true
   ·subst c24
    have H1 : (some false) = some r := by rw [if_pos rfl] at H; exact H
    clear H
    have H := H1
    clear H1
    obtain rfl := Option.some.inj H
    go_wp2
    go_ret
    exact ⟨by first | rfl | (simp [errW_none, errW_some] <;> rfl) | (simp [*, errW_none, errW_some] <;> rfl), by repeat (first | (with_reducible first | exact HB.out | apply below_alloc | apply pw_below_drewN | apply below_drew1 | refine below_set ?_ GE397.out | refine below_set ?_ GE408.out) | exact HB.out)⟩
   ·replace c24 := Bool.eq_false_iff.mpr c24
    subst c24
    have H1 : ((cohousingref08_Rest.f (Int.tmod a3_0 1073741789)).bind fun t411 => ((cohousingref08_Rest.f (Int.tmod a3_1 1073741789)).bind fun t412 => ((group_Verify.f kj11 t403 t411 t412 t399).bind fun bt413 => ((cohousingref08_Back.f kj11 4 t403 t411 t412).bind fun t415 => ((some (([t415, t403] : List Int) : List Int)).bind fun y416 => (if y416.length + t399.length < 17592186044416 then (if t398 = true then (if bt413.2 = 0 then ((cohousingref08_Challenge.f kj11 (y416 ++ t399)).bind fun t422 => (some (bt413.1 == (t422 == t411)))) else (some false)) else (some false)) else (none))))))) = some r := by rw [if_neg (show ¬ (false = true) by decide)] at H; exact H
    clear H
    have H := H1
    clear H1
    replace H := Option.bind_eq_some_iff.mp H
    obtain ⟨t411, A250, H⟩ := H
    replace H : ((cohousingref08_Rest.f (Int.tmod a3_1 1073741789)).bind fun t412 => ((group_Verify.f kj11 t403 t411 t412 t399).bind fun bt413 => ((cohousingref08_Back.f kj11 4 t403 t411 t412).bind fun t415 => ((some (([t415, t403] : List Int) : List Int)).bind fun y416 => (if y416.length + t399.length < 17592186044416 then (if t398 = true then (if bt413.2 = 0 then ((cohousingref08_Challenge.f kj11 (y416 ++ t399)).bind fun t422 => (some (bt413.1 == (t422 == t411)))) else (some false)) else (some false)) else (none)))))) = some r := H
    have A25 := Aside0.mk A250
    clear A250
    replace H := Option.bind_eq_some_iff.mp H
    obtain ⟨t412, A260, H⟩ := H
    replace H : ((group_Verify.f kj11 t403 t411 t412 t399).bind fun bt413 => ((cohousingref08_Back.f kj11 4 t403 t411 t412).bind fun t415 => ((some (([t415, t403] : List Int) : List Int)).bind fun y416 => (if y416.length + t399.length < 17592186044416 then (if t398 = true then (if bt413.2 = 0 then ((cohousingref08_Challenge.f kj11 (y416 ++ t399)).bind fun t422 => (some (bt413.1 == (t422 == t411)))) else (some false)) else (some false)) else (none))))) = some r := H
    have A26 := Aside0.mk A260
    clear A260
    replace H := Option.bind_eq_some_iff.mp H
    obtain ⟨⟨t413, t414⟩, A270, H⟩ := H
    replace H : ((cohousingref08_Back.f kj11 4 t403 t411 t412).bind fun t415 => ((some (([t415, t403] : List Int) : List Int)).bind fun y416 => (if y416.length + t399.length < 17592186044416 then (if t398 = true then (if t414 = 0 then ((cohousingref08_Challenge.f kj11 (y416 ++ t399)).bind fun t422 => (some (t413 == (t422 == t411)))) else (some false)) else (some false)) else (none)))) = some r := H
    have A27 := Aside0.mk A270
    clear A270
    replace H := Option.bind_eq_some_iff.mp H
    obtain ⟨t415, A280, H⟩ := H
    replace H : ((some (([t415, t403] : List Int) : List Int)).bind fun y416 => (if y416.length + t399.length < 17592186044416 then (if t398 = true then (if t414 = 0 then ((cohousingref08_Challenge.f kj11 (y416 ++ t399)).bind fun t422 => (some (t413 == (t422 == t411)))) else (some false)) else (some false)) else (none))) = some r := H
    have A28 := Aside0.mk A280
    clear A280
    obtain ⟨y416, hy416⟩ : ∃ y_ : List Int, y_ = (([t415, t403] : List Int)) := ⟨_, rfl⟩
    replace H : (if y416.length + t399.length < 17592186044416 then (if t398 = true then (if t414 = 0 then ((cohousingref08_Challenge.f kj11 (y416 ++ t399)).bind fun t422 => (some (t413 == (t422 == t411)))) else (some false)) else (some false)) else (none)) = some r := by first | (rw [hy416]; with_reducible exact H) | (have H2_ := (Option.bind_some _ _).symm.trans H; rw [hy416]; with_reducible exact H2_) | (have H2_ := (Option.bind_some _ _).symm.trans H; with_reducible exact H2_) | with_reducible exact H | (rw [hy416]; exact H) | exact H
    have Ny416 := Aside0.mk hy416
    clear hy416
    by_cases c29 : y416.length + t399.length < 17592186044416
    ·rw [if_pos c29] at H
     have LMc29 := Aside0.mk c29
     clear c29
     obtain ⟨y419, hy419⟩ : ∃ y_ : List Int, y_ = (y416 ++ t399) := ⟨_, rfl⟩
     replace H : (if t398 = true then (if t414 = 0 then ((cohousingref08_Challenge.f kj11 y419).bind fun t422 => (some (t413 == (t422 == t411)))) else (some false)) else (some false)) = some r := by first | (rw [hy419]; with_reducible exact H) | (have H2_ := (Option.bind_some _ _).symm.trans H; rw [hy419]; with_reducible exact H2_) | (have H2_ := (Option.bind_some _ _).symm.trans H; with_reducible exact H2_) | with_reducible exact H | (rw [hy419]; exact H) | exact H
     have Ny419 := Aside0.mk hy419
     clear hy419
     by_cases c30 : t398 = true
     ·subst c30
      have H1 : (if t414 = 0 then ((cohousingref08_Challenge.f kj11 y419).bind fun t422 => (some (t413 == (t422 == t411)))) else (some false)) = some r := by rw [if_pos rfl] at H; exact H
      clear H
      have H := H1
      clear H1
      by_cases c31 : t414 = 0
      ·rw [if_pos c31] at H
       have c31b0 : (t414 == 0) = true := beq_iff_eq.mpr c31
       have c31b1 : (t414 != 0) = false := bne_eq_false_iff_eq.mpr c31
       clear c31
       replace H := Option.bind_eq_some_iff.mp H
       obtain ⟨t422, A320, H⟩ := H
       replace H : (some (t413 == (t422 == t411))) = some r := H
       have A32 := Aside0.mk A320
       clear A320
       obtain rfl := Option.some.inj H
       have hnb33 := NB397_408.out
       have hnc33 := NB408_397.out
       have hcz34_0 : wc.cell? ⟨gb397, 0, none⟩ = some (.int .i64 a3_0) := (blk_cell BK397.out 0).trans rfl
       have hcz34_1 : wc.cell? ⟨gb397, 1, none⟩ = some (.int .i64 a3_1) := (blk_cell BK397.out 1).trans rfl
       have hfz34_0 := blk_frozen BK397.out 0
       have hfz34_1 := blk_frozen BK397.out 1
       try go_wp2_with (first | ((with_reducible refine gate_callee (f := 31) rfl ?_); refine goesL_ (some 54) rfl rfl Tryd.func31 (by kernel_rfl) rfl #[.int .i64 (Int.tmod a3_0 1073741789)] rfl (by (try simp only [List.map_toArray, List.map_cons, List.map_nil]); first | done | rfl | (simp only [List.length_drop, List.length_take]; rfl)) ?_; (with_reducible refine (cohousingref08_Rest.calls (Int.tmod a3_0 1073741789) t411 _ A25.out).mono ?_); rintro e w35 ⟨rfl, hb⟩; refine ⟨_, rfl, ?_⟩; have n0_ := Aside0.mk (Kd.V_below (by (with_reducible repeat (first | apply Kd.V_alloc | apply Kd.V_drewN | apply Kd.V_drew)); exact HO_2.out) hb); have n1_ := Aside0.mk (blk_below (g := gb397) (o := .cells #[.int .i64 a3_0, .int .i64 a3_1] 23 (0, 0)) (by (with_reducible repeat (first | refine blk_drewN ?_ _ | refine blk_drew ?_ | refine blk_alloc ?_ _)); exact BK397.out) hb); have n2_ := Aside0.mk (blk_below (g := gb408) (o := .cells #[.int .i64 t405, .int .i64 t406] 23 (0, 0)) (by (with_reducible repeat (first | refine blk_drewN ?_ _ | refine blk_drew ?_ | refine blk_alloc ?_ _)); exact BK408.out) hb); have n3_ := Aside0.mk (below_step (by repeat (first | (with_reducible first | exact HB.out | apply below_alloc | apply pw_below_drewN | apply below_drew1 | refine below_set ?_ GE397.out | refine below_set ?_ GE408.out) | exact HB.out)) hb); clear HO_2; clear BK397; clear BK408; clear HB; have HO_2 := n0_; have BK397 := n1_; have BK408 := n2_; have HB := n3_; clear n0_ n1_ n2_ n3_; (try clear hb); (try clear hb2); (try clear hk); (try clear hi); have hcz36_0 : w35.cell? ⟨gb397, 0, none⟩ = some (.int .i64 a3_0) := (blk_cell BK397.out 0).trans rfl; have hcz36_1 : w35.cell? ⟨gb397, 1, none⟩ = some (.int .i64 a3_1) := (blk_cell BK397.out 1).trans rfl; have hfz36_0 := blk_frozen BK397.out 0; have hfz36_1 := blk_frozen BK397.out 1) | ((with_reducible refine gate_callee (f := 31) rfl ?_); refine goesL_ (some 59) rfl rfl Tryd.func31 (by kernel_rfl) rfl #[.int .i64 (Int.tmod a3_1 1073741789)] rfl (by (try simp only [List.map_toArray, List.map_cons, List.map_nil]); first | done | rfl | (simp only [List.length_drop, List.length_take]; rfl)) ?_; (with_reducible refine (cohousingref08_Rest.calls (Int.tmod a3_1 1073741789) t412 _ A26.out).mono ?_); rintro e w37 ⟨rfl, hb⟩; refine ⟨_, rfl, ?_⟩; have n0_ := Aside0.mk (Kd.V_below (by (with_reducible repeat (first | apply Kd.V_alloc | apply Kd.V_drewN | apply Kd.V_drew)); exact (Kd.V_mono (Kd.V_far (p := ⟨gb397, 0, none⟩) (Kd.V_mono HO_2.out (fun k_ hk => (⟨hk, hk.1⟩ : _ ∧ k_ ≠ gb397))) (fun _ hk => hk.2) (.int .i64 t411)) (fun _ h_ => h_.1))) hb); have n1_ := Aside0.mk (blk_below (g := gb397) (o := .cells #[.int .i64 t411, .int .i64 a3_1] 23 (0, 0)) (by (with_reducible repeat (first | refine blk_drewN ?_ _ | refine blk_drew ?_ | refine blk_alloc ?_ _)); refine blk_put (cs := #[.int .i64 a3_0, .int .i64 a3_1]) ?_ 0 _ rfl; (with_reducible repeat (first | refine blk_drewN ?_ _ | refine blk_drew ?_ | refine blk_alloc ?_ _)); exact BK397.out) hb); have n2_ := Aside0.mk (blk_below (g := gb408) (o := .cells #[.int .i64 t405, .int .i64 t406] 23 (0, 0)) (by (with_reducible repeat (first | refine blk_drewN ?_ _ | refine blk_drew ?_ | refine blk_alloc ?_ _)); refine blk_far ?_ NB408_397.out _; (with_reducible repeat (first | refine blk_drewN ?_ _ | refine blk_drew ?_ | refine blk_alloc ?_ _)); exact BK408.out) hb); have n3_ := Aside0.mk (below_step (by repeat (first | (with_reducible first | exact HB.out | apply below_alloc | apply pw_below_drewN | apply below_drew1 | refine below_set ?_ GE397.out | refine below_set ?_ GE408.out) | exact HB.out)) hb); clear HO_2; clear BK397; clear BK408; clear HB; have HO_2 := n0_; have BK397 := n1_; have BK408 := n2_; have HB := n3_; clear n0_ n1_ n2_ n3_; (try clear hb); (try clear hb2); (try clear hk); (try clear hi); have hcz38_0 : w37.cell? ⟨gb397, 0, none⟩ = some (.int .i64 t411) := (blk_cell BK397.out 0).trans rfl; have hcz38_1 : w37.cell? ⟨gb397, 1, none⟩ = some (.int .i64 a3_1) := (blk_cell BK397.out 1).trans rfl; have hfz38_0 := blk_frozen BK397.out 0; have hfz38_1 := blk_frozen BK397.out 1) | ((with_reducible refine gate_callee (f := 22) rfl ?_); refine goesL_ (some 65) rfl rfl Tryd.func22 (by kernel_rfl) rfl #[.int .i64 t403, .agg #[.int .i64 t411, .int .i64 t412], .slice Ao16 t399.length co16] rfl (by (try simp only [List.map_toArray, List.map_cons, List.map_nil]); first | done | rfl | (simp only [List.length_drop, List.length_take]; rfl)) ?_; (with_reducible refine (group_Verify.calls kj11 t403 t411 t412 _ _ t399 t413 t414 _ ?side1 ?side2 ?side3 A27.out).mono ?_); (case side1 => refine (Kd.V_reads' (e := 3) (base := w.heap.size) (ok := fun k_ => (k_ ≠ gb397 ∧ k_ ≠ gb408)) (n := t399.length) (c := co16) ?_).2.2; exact (by (with_reducible repeat (first | apply Kd.V_alloc | apply Kd.V_drewN | apply Kd.V_drew)); exact (Kd.V_mono (Kd.V_far (p := ⟨gb397, 1, none⟩) (Kd.V_mono HO_2.out (fun k_ hk => (⟨hk, hk.1⟩ : _ ∧ k_ ≠ gb397))) (fun _ hk => hk.2) (.int .i64 t412)) (fun _ h_ => h_.1)))); (case side2 => exact (Kd.V_reads' HO_2.out).2.1); (case side3 => exact TabOk.below HT.out (by repeat (first | (with_reducible first | exact HB.out | apply below_alloc | apply pw_below_drewN | apply below_drew1 | refine below_set ?_ GE397.out | refine below_set ?_ GE408.out) | exact HB.out))); rintro e w39 ⟨rfl, hb⟩; refine ⟨_, rfl, ?_⟩; have n0_ := Aside0.mk (Kd.V_below (by (with_reducible repeat (first | apply Kd.V_alloc | apply Kd.V_drewN | apply Kd.V_drew)); exact (Kd.V_mono (Kd.V_far (p := ⟨gb397, 1, none⟩) (Kd.V_mono HO_2.out (fun k_ hk => (⟨hk, hk.1⟩ : _ ∧ k_ ≠ gb397))) (fun _ hk => hk.2) (.int .i64 t412)) (fun _ h_ => h_.1))) hb); have n1_ := Aside0.mk (blk_below (g := gb397) (o := .cells #[.int .i64 t411, .int .i64 t412] 23 (0, 0)) (by (with_reducible repeat (first | refine blk_drewN ?_ _ | refine blk_drew ?_ | refine blk_alloc ?_ _)); refine blk_put (cs := #[.int .i64 t411, .int .i64 a3_1]) ?_ 1 _ rfl; (with_reducible repeat (first | refine blk_drewN ?_ _ | refine blk_drew ?_ | refine blk_alloc ?_ _)); exact BK397.out) hb); have n2_ := Aside0.mk (blk_below (g := gb408) (o := .cells #[.int .i64 t405, .int .i64 t406] 23 (0, 0)) (by (with_reducible repeat (first | refine blk_drewN ?_ _ | refine blk_drew ?_ | refine blk_alloc ?_ _)); refine blk_far ?_ NB408_397.out _; (with_reducible repeat (first | refine blk_drewN ?_ _ | refine blk_drew ?_ | refine blk_alloc ?_ _)); exact BK408.out) hb); have n3_ := Aside0.mk (below_step (by repeat (first | (with_reducible first | exact HB.out | apply below_alloc | apply pw_below_drewN | apply below_drew1 | refine below_set ?_ GE397.out | refine below_set ?_ GE408.out) | exact HB.out)) hb); clear HO_2; clear BK397; clear BK408; clear HB; have HO_2 := n0_; have BK397 := n1_; have BK408 := n2_; have HB := n3_; clear n0_ n1_ n2_ n3_; (try clear hb); (try clear hb2); (try clear hk); (try clear hi); have hcz40_0 : w39.cell? ⟨gb397, 0, none⟩ = some (.int .i64 t411) := (blk_cell BK397.out 0).trans rfl; have hcz40_1 : w39.cell? ⟨gb397, 1, none⟩ = some (.int .i64 t412) := (blk_cell BK397.out 1).trans rfl; have hfz40_0 := blk_frozen BK397.out 0; have hfz40_1 := blk_frozen BK397.out 1) | ((with_reducible refine gate_callee (f := 33) rfl ?_); refine goesL_ (some 70) rfl rfl Tryd.func33 (by kernel_rfl) rfl #[.int .i64 4, .int .i64 t403, .agg #[.int .i64 t411, .int .i64 t412]] rfl (by (try simp only [List.map_toArray, List.map_cons, List.map_nil]); first | done | rfl | (simp only [List.length_drop, List.length_take]; rfl)) ?_; (with_reducible refine (cohousingref08_Back.calls kj11 4 t403 t411 t412 t415 _ A28.out).mono ?_); rintro e w41 ⟨rfl, hb⟩; refine ⟨_, rfl, ?_⟩; have n0_ := Aside0.mk (Kd.V_below (by (with_reducible repeat (first | apply Kd.V_alloc | apply Kd.V_drewN | apply Kd.V_drew)); exact HO_2.out) hb); have n1_ := Aside0.mk (blk_below (g := gb397) (o := .cells #[.int .i64 t411, .int .i64 t412] 23 (0, 0)) (by (with_reducible repeat (first | refine blk_drewN ?_ _ | refine blk_drew ?_ | refine blk_alloc ?_ _)); exact BK397.out) hb); have n2_ := Aside0.mk (blk_below (g := gb408) (o := .cells #[.int .i64 t405, .int .i64 t406] 23 (0, 0)) (by (with_reducible repeat (first | refine blk_drewN ?_ _ | refine blk_drew ?_ | refine blk_alloc ?_ _)); exact BK408.out) hb); have n3_ := Aside0.mk (below_step (by repeat (first | (with_reducible first | exact HB.out | apply below_alloc | apply pw_below_drewN | apply below_drew1 | refine below_set ?_ GE397.out | refine below_set ?_ GE408.out) | exact HB.out)) hb); clear HO_2; clear BK397; clear BK408; clear HB; have HO_2 := n0_; have BK397 := n1_; have BK408 := n2_; have HB := n3_; clear n0_ n1_ n2_ n3_; (try clear hb); (try clear hb2); (try clear hk); (try clear hi)) | ((with_reducible refine gate_dst (N := 72) rfl ?_); refine Kd.R_lit (Kd.int .i64) _ 3 ?hg (N := 72) ?hd (xs := ([t415, t403] : List Int)) (inner := [.int .i64 t415, .int .i64 t403]) (ok := fun _ => True) (okp := fun _ => True) ?hr ?hp (fun _ hk => hk) trivial (Below.refl _ _) (Nat.le_refl _) (by simp) ?_; (case hd => rfl); (case hg => rfl); (case hr => first | (go_simp; done) | (go_simp; rfl)); (case hp => exact (Reps.one (show Kd.M (Kd.int .i64) _ _ _ t415 [.int .i64 t415] from rfl) (Reps.one (show Kd.M (Kd.int .i64) _ _ _ t403 [.int .i64 t403] from rfl) (Reps.none _ _)))); intro v417 w42 ho43 hb hg_ hnew_; clear hg_ hnew_; (first | rw [← Ny416.out] at ho43 | (simp only [Int.reduceToNat] at ho43; rw [← Ny416.out] at ho43)); have n0_ := Aside0.mk (Kd.V_elder' (by (with_reducible repeat (first | apply Kd.V_alloc | apply Kd.V_drewN | apply Kd.V_drew)); exact HO_2.out) (Kd.R_base ho43) hb); have n1_ := Aside0.mk (Kd.R_lower ho43 (below_size (by repeat (first | (with_reducible first | exact HB.out | apply below_alloc | apply pw_below_drewN | apply below_drew1 | refine below_set ?_ GE397.out | refine below_set ?_ GE408.out) | exact HB.out)))); have n2_ := Aside0.mk (blk_below (g := gb397) (o := .cells #[.int .i64 t411, .int .i64 t412] 23 (0, 0)) (by (with_reducible repeat (first | refine blk_drewN ?_ _ | refine blk_drew ?_ | refine blk_alloc ?_ _)); exact BK397.out) hb); have n3_ := Aside0.mk (blk_below (g := gb408) (o := .cells #[.int .i64 t405, .int .i64 t406] 23 (0, 0)) (by (with_reducible repeat (first | refine blk_drewN ?_ _ | refine blk_drew ?_ | refine blk_alloc ?_ _)); exact BK408.out) hb); have n4_ := Aside0.mk (below_step (by repeat (first | (with_reducible first | exact HB.out | apply below_alloc | apply pw_below_drewN | apply below_drew1 | refine below_set ?_ GE397.out | refine below_set ?_ GE408.out) | exact HB.out)) hb); clear HO_2; clear BK397; clear BK408; clear HB; have HO_2 := n0_; have HO418 := n1_; have BK397 := n2_; have BK408 := n3_; have HB := n4_; clear n0_ n1_ n2_ n3_ n4_; clear hb ho43) | ((with_reducible refine gate_builtin (b := .append) (xs := #[.tmp 72, .tmp 73]) rfl ?_); at_builtin; refine Kd.R_append_rows (Kd.int .i64) (w0 := w) w.heap.size rfl (.tmp 72) (.tmp 73) 24 3 (.int .i64 0) 8 rfl Tryd.underlying24 info3 rfl (by decide) (by omega) v417 y416 t399 _ _ _ (fun _ => True) (fun _ => False) rfl rfl ?aO ?aR (fun _ _ h => h) (fun _ h => h.elim) ?aF ?aB ?aS ?aL ?_; (case aR => repeat (first | exact (Kd.V_reads' HO_2.out).2.2 | (with_reducible refine Kd.C_alloc ?_ _) | (with_reducible refine Kd.C_drewN ?_ _) | (with_reducible refine Kd.C_drew ?_))); (case aB => exact (by repeat (first | (with_reducible first | exact HB.out | apply below_alloc | apply pw_below_drewN | apply below_drew1 | refine below_set ?_ GE397.out | refine below_set ?_ GE408.out) | exact HB.out))); (case aF => exact (fun _ _ => trivial)); (case aO => exact (by (with_reducible repeat (first | apply Kd.R_alloc | apply Kd.R_drewN | apply Kd.R_drew)); exact HO418.out)); (case aS => exact (below_size (by repeat (first | (with_reducible first | exact HB.out | apply below_alloc | apply pw_below_drewN | apply below_drew1 | refine below_set ?_ GE397.out | refine below_set ?_ GE408.out) | exact HB.out)))); (case aL => have := LMc29.out; omega); intro v420 w44 ho hb hg hat; rw [← Ny419.out] at ho; have n0_ := Aside0.mk (Kd.V_afterv (ok := (fun k_ => k_ ≠ gb397 ∧ k_ ≠ gb408)) (by (with_reducible repeat (first | apply Kd.V_alloc | apply Kd.V_drewN | apply Kd.V_drew)); exact HO_2.out) hg hat); have n1_ := Aside0.mk (blk_grown (g := gb397) (o := .cells #[.int .i64 t411, .int .i64 t412] 23 (0, 0)) (by (with_reducible repeat (first | refine blk_drewN ?_ _ | refine blk_drew ?_ | refine blk_alloc ?_ _)); exact BK397.out) hg (Kd.R_ne HO418.out BK397.out (by decide))); have n2_ := Aside0.mk (blk_grown (g := gb408) (o := .cells #[.int .i64 t405, .int .i64 t406] 23 (0, 0)) (by (with_reducible repeat (first | refine blk_drewN ?_ _ | refine blk_drew ?_ | refine blk_alloc ?_ _)); exact BK408.out) hg (Kd.R_ne HO418.out BK408.out (by decide))); have n3_ := Aside0.mk (hb); have n4_ := Aside0.mk (ho); clear HO_2; clear BK397; clear BK408; clear HB; clear HO418; have HO_2 := n0_; have BK397 := n1_; have BK408 := n2_; have HB := n3_; have HO421 := n4_; clear n0_ n1_ n2_ n3_ n4_; clear ho hb hg hat))
       have n0_ := Aside0.mk (Kd.V_drew HO_2.out)
       have n1_ := Aside0.mk (Kd.R_drew HO421.out)
       have n2_ := Aside0.mk (blk_drew BK397.out)
       have n3_ := Aside0.mk (blk_drew BK408.out)
       have n4_ := Aside0.mk (below_drew1 HB.out)
       clear HO_2
       clear HO421
       clear BK397
       clear BK408
       clear HB
       have HO_2 := n0_
       have HO421 := n1_
       have BK397 := n2_
       have BK408 := n3_
       have HB := n4_
       clear n0_ n1_ n2_ n3_ n4_
       obtain ⟨Ao46, co46, eo46⟩ := Kd.R_slice HO421.out
       (first | subst eo46 | (injection eo46 with f1_ f2_ f3_; have f4_ := f1_.symm; have f5_ := f3_.symm; clear f1_ f2_ f3_; subst f4_; subst f5_))
       refine start_ (n := 15) (S := fun w' => w'.cell? ⟨gb397, 0, none⟩ = some (.int .i64 t411) ∧ w'.cell? ⟨gb397, 1, none⟩ = some (.int .i64 t412)) (ds := []) #[false, false, false, false, false, false, false, false, false, false, false, false, false, false, false] (by kernel_rfl) rfl rfl ⟨(blk_cell BK397.out 0).trans rfl, (blk_cell BK397.out 1).trans rfl⟩ (fun hHeld => ?_); refine with_tabW cohousinglaw08_GroupSigns.tab13 cohousinglaw08_GroupSigns.bits13 (fun HT_ HW_ => ?_)
       generalize w44.drew = w45 at HO_2 HO421 BK397 BK408 HB hHeld ⊢
       refine pure_ (i := 0) (N := some 75) (v := ?_) (a' := ?_) #[true, false, false, false, false, false, false, false, false, false, false, false, false, false, false] rfl rfl (any_of HT_.out (by kernel_rfl)) (fun _ _ _ h => h) (Or.inl ⟨by rfl, ?_⟩) ?_ ?_
       rotate_left
       ·intro w'
        go_simp
        with_reducible rfl
       rotate_left
       ·simp only [Act.put, List.setIfInBounds_toArray, List.set_cons_zero, List.set_cons_succ, i64_w, i32_w]
        rfl
       refine pure_ (i := 1) (N := some 76) (v := ?_) (a' := ?_) #[true, true, false, false, false, false, false, false, false, false, false, false, false, false, false] rfl rfl (any_of HT_.out (by kernel_rfl)) (fun _ _ _ h => h) (Or.inl ⟨by rfl, ?_⟩) ?_ ?_
       rotate_left
       ·intro w'
        go_simp
        with_reducible rfl
       rotate_left
       ·simp only [Act.put, List.setIfInBounds_toArray, List.set_cons_zero, List.set_cons_succ, i64_w, i32_w]
        rfl
       refine pure_ (i := 2) (N := some 77) (v := ?_) (a' := ?_) #[true, true, true, false, false, false, false, false, false, false, false, false, false, false, false] rfl rfl (any_of HT_.out (by kernel_rfl)) (fun _ _ _ h => h) (Or.inl ⟨by rfl, ?_⟩) ?_ ?_
       rotate_left
       ·intro w'
        go_simp
        with_reducible rfl
       rotate_left
       ·simp only [Act.put, List.setIfInBounds_toArray, List.set_cons_zero, List.set_cons_succ, i64_w, i32_w]
        rfl
       refine pure_ (i := 3) (N := some 78) (v := ?_) (a' := ?_) #[true, true, true, true, false, false, false, false, false, false, false, false, false, false, false] rfl rfl (any_of HT_.out (by kernel_rfl)) (fun _ _ _ h => h) (Or.inl ⟨by rfl, ?_⟩) ?_ ?_
       rotate_left
       ·intro w'
        go_simp
        with_reducible rfl
       rotate_left
       ·simp only [Act.put, List.setIfInBounds_toArray, List.set_cons_zero, List.set_cons_succ, i64_w, i32_w]
        rfl
       refine pure_ (i := 4) (N := some 79) (v := ?_) (a' := ?_) #[true, true, true, true, true, false, false, false, false, false, false, false, false, false, false] rfl rfl (any_of HT_.out (by kernel_rfl)) (fun _ _ _ h => h) (Or.inl ⟨by rfl, ?_⟩) ?_ ?_
       rotate_left
       ·intro w'
        go_simp
        with_reducible rfl
       rotate_left
       ·simp only [Act.put, List.setIfInBounds_toArray, List.set_cons_zero, List.set_cons_succ, i64_w, i32_w]
        rfl
       refine pure_ (i := 5) (N := some 80) (v := ?_) (a' := ?_) #[true, true, true, true, true, true, false, false, false, false, false, false, false, false, false] rfl rfl (any_of HT_.out (by kernel_rfl)) (fun _ _ _ h => h) (Or.inl ⟨by rfl, ?_⟩) ?_ ?_
       rotate_left
       ·intro w'
        go_simp
        with_reducible rfl
       rotate_left
       ·simp only [Act.put, List.setIfInBounds_toArray, List.set_cons_zero, List.set_cons_succ, i64_w, i32_w]
        rfl
       refine pure_ (i := 6) (N := some 81) (v := ?_) (a' := ?_) #[true, true, true, true, true, true, true, false, false, false, false, false, false, false, false] rfl rfl (any_of HT_.out (by kernel_rfl)) (fun _ _ _ h => h) (Or.inl ⟨by rfl, ?_⟩) ?_ ?_
       rotate_left
       ·intro w'
        go_simp
        with_reducible rfl
       rotate_left
       ·simp only [Act.put, List.setIfInBounds_toArray, List.set_cons_zero, List.set_cons_succ, i64_w, i32_w]
        rfl
       refine pure_ (i := 7) (N := some 82) (v := ?_) (a' := ?_) #[true, true, true, true, true, true, true, true, false, false, false, false, false, false, false] rfl rfl (any_of HT_.out (by kernel_rfl)) (fun _ _ _ h => h) (Or.inl ⟨by rfl, ?_⟩) ?_ ?_
       rotate_left
       ·intro w'
        go_simp
        with_reducible rfl
       rotate_left
       ·simp only [Act.put, List.setIfInBounds_toArray, List.set_cons_zero, List.set_cons_succ, i64_w, i32_w]
        rfl
       refine pure_ (i := 9) (N := some 84) (v := ?_) (a' := ?_) #[true, true, true, true, true, true, true, true, false, true, false, false, false, false, false] rfl rfl (any_of HT_.out (by kernel_rfl)) (fun _ _ _ h => h) (Or.inl ⟨by rfl, ?_⟩) ?_ ?_
       rotate_left
       ·intro w'
        go_simp
        with_reducible rfl
       rotate_left
       ·simp only [Act.put, List.setIfInBounds_toArray, List.set_cons_zero, List.set_cons_succ, i64_w, i32_w]
        rfl
       refine take_ (i := 10) (N := some 85) (v := ?_) (a' := ?_) #[true, true, true, true, true, true, true, true, false, true, true, false, false, false, false] rfl rfl (take_ofW HT_.out HW_.out (by kernel_rfl)) (fun _ _ _ h => h) (Or.inl ⟨by rfl, ?_⟩) hHeld ?_ ?_
       rotate_left
       ·rintro w' ⟨s0, s1⟩
        go_simp
        with_reducible rfl
       rotate_left
       ·simp only [Act.put, List.setIfInBounds_toArray, List.set_cons_zero, List.set_cons_succ, i64_w, i32_w]
        rfl
       refine one_ (i := 8) (N := some 83) #[true, true, true, true, true, true, true, true, true, true, true, false, false, false, false] rfl rfl (one_of HT_.out (by kernel_rfl)) (by decide) (fun K hK => ?_)
       refine goes_ Tryd.func34 (by kernel_rfl) rfl #[.slice Ao46 y419.length co46] (by rfl) rfl rfl (by (try simp only [List.map_toArray, List.map_cons, List.map_nil]); first | done | rfl | (simp only [List.length_drop, List.length_take]; rfl)) ?_
       with_reducible refine (cohousingref08_Challenge.calls kj11 _ _ y419 t422 _ ?side1 ?side2 A32.out).mono ?_
       (case side1 => repeat (first | exact (Kd.R_reads' HO421.out).2.2 | (with_reducible refine Kd.C_alloc ?_ _) | (with_reducible refine Kd.C_drewN ?_ _) | (with_reducible refine Kd.C_drew ?_)))
       (case side2 => exact (Kd.R_reads' HO421.out).2.1)
       rintro e w47 ⟨rfl, hb⟩
       refine ⟨_, rfl, ?_⟩
       have n0_ := Aside0.mk (Kd.V_below (by (with_reducible repeat (first | apply Kd.V_alloc | apply Kd.V_drewN | apply Kd.V_drew)); exact HO_2.out) hb)
       have n1_ := Aside0.mk (Kd.R_below (by (with_reducible repeat (first | apply Kd.R_alloc | apply Kd.R_drewN | apply Kd.R_drew)); exact HO421.out) hb)
       have n2_ := Aside0.mk (blk_below (g := gb397) (o := .cells #[.int .i64 t411, .int .i64 t412] 23 (0, 0)) (by (with_reducible repeat (first | refine blk_drewN ?_ _ | refine blk_drew ?_ | refine blk_alloc ?_ _)); exact BK397.out) hb)
       have n3_ := Aside0.mk (blk_below (g := gb408) (o := .cells #[.int .i64 t405, .int .i64 t406] 23 (0, 0)) (by (with_reducible repeat (first | refine blk_drewN ?_ _ | refine blk_drew ?_ | refine blk_alloc ?_ _)); exact BK408.out) hb)
       have n4_ := Aside0.mk (below_step (by repeat (first | (with_reducible first | exact HB.out | apply below_alloc | apply pw_below_drewN | apply below_drew1 | refine below_set ?_ GE397.out | refine below_set ?_ GE408.out) | exact HB.out)) hb)
       clear HO_2
       clear HO421
       clear BK397
       clear BK408
       clear HB
       have HO_2 := n0_
       have HO421 := n1_
       have BK397 := n2_
       have BK408 := n3_
       have HB := n4_
       clear n0_ n1_ n2_ n3_ n4_
       (try clear hb)
       (try clear hb2)
       (try clear hk)
       (try clear hi)
       refine hK.out _ _ ⟨(blk_cell BK397.out 0).trans rfl, (blk_cell BK397.out 1).trans rfl⟩ (fun hHeld => ?_)
       clear hK K
       refine norm_ (a' := ?_) ?_ ?_
       rotate_left
       ·show Act.put _ (some 83) _ = _
        simp only [Act.put, List.setIfInBounds_toArray, List.set_cons_zero, List.set_cons_succ, i64_w, i32_w]
        rfl
       refine pure_ (i := 11) (N := some 86) (v := ?_) (a' := ?_) #[true, true, true, true, true, true, true, true, true, true, true, true, false, false, false] rfl rfl (any_of HT_.out (by kernel_rfl)) (fun _ _ _ h => h) (Or.inl ⟨by rfl, ?_⟩) ?_ ?_
       rotate_left
       ·intro w'
        go_simp
        with_reducible rfl
       rotate_left
       ·simp only [Act.put, List.setIfInBounds_toArray, List.set_cons_zero, List.set_cons_succ, i64_w, i32_w]
        rfl
       refine pure_ (i := 12) (N := some 87) (v := ?_) (a' := ?_) #[true, true, true, true, true, true, true, true, true, true, true, true, true, false, false] rfl rfl (any_of HT_.out (by kernel_rfl)) (fun _ _ _ h => h) (Or.inl ⟨by rfl, ?_⟩) ?_ ?_
       rotate_left
       ·intro w'
        go_simp
        with_reducible rfl
       rotate_left
       ·simp only [Act.put, List.setIfInBounds_toArray, List.set_cons_zero, List.set_cons_succ, i64_w, i32_w]
        rfl
       refine pure_ (i := 13) (N := some 88) (v := ?_) (a' := ?_) #[true, true, true, true, true, true, true, true, true, true, true, true, true, true, false] rfl rfl (any_of HT_.out (by kernel_rfl)) (fun _ _ _ h => h) (Or.inl ⟨by rfl, ?_⟩) ?_ ?_
       rotate_left
       ·intro w'
        go_simp
        with_reducible rfl
       rotate_left
       ·simp only [Act.put, List.setIfInBounds_toArray, List.set_cons_zero, List.set_cons_succ, i64_w, i32_w]
        rfl
       refine pure_ (i := 14) (N := some 8) (v := ?_) (a' := ?_) #[true, true, true, true, true, true, true, true, true, true, true, true, true, true, true] rfl rfl (any_of HT_.out (by kernel_rfl)) (fun _ _ _ h => h) (Or.inl ⟨by rfl, ?_⟩) ?_ ?_
       rotate_left
       ·intro w'
        go_simp
        with_reducible rfl
       rotate_left
       ·simp only [Act.put, List.setIfInBounds_toArray, List.set_cons_zero, List.set_cons_succ, i64_w, i32_w]
        rfl
       refine done_ (done_of HT_.out (by kernel_rfl)) ?_
       try go_wp2
       go_ret
       exact ⟨by first | rfl | (simp [errW_none, errW_some] <;> rfl) | (simp [*, errW_none, errW_some] <;> rfl), by repeat (first | (with_reducible first | exact HB.out | apply below_alloc | apply pw_below_drewN | apply below_drew1 | refine below_set ?_ GE397.out | refine below_set ?_ GE408.out) | exact HB.out)⟩
      ·rw [if_neg c31] at H
       have c31b0 : (t414 == 0) = false := beq_eq_false_iff_ne.mpr c31
       have c31b1 : (t414 != 0) = true := bne_iff_ne.mpr c31
       obtain rfl := Option.some.inj H
       have hnb48 := NB397_408.out
       have hnc48 := NB408_397.out
       have hcz49_0 : wc.cell? ⟨gb397, 0, none⟩ = some (.int .i64 a3_0) := (blk_cell BK397.out 0).trans rfl
       have hcz49_1 : wc.cell? ⟨gb397, 1, none⟩ = some (.int .i64 a3_1) := (blk_cell BK397.out 1).trans rfl
       have hfz49_0 := blk_frozen BK397.out 0
       have hfz49_1 := blk_frozen BK397.out 1
       try go_wp2_with (first | ((with_reducible refine gate_callee (f := 31) rfl ?_); refine goesL_ (some 54) rfl rfl Tryd.func31 (by kernel_rfl) rfl #[.int .i64 (Int.tmod a3_0 1073741789)] rfl (by (try simp only [List.map_toArray, List.map_cons, List.map_nil]); first | done | rfl | (simp only [List.length_drop, List.length_take]; rfl)) ?_; (with_reducible refine (cohousingref08_Rest.calls (Int.tmod a3_0 1073741789) t411 _ A25.out).mono ?_); rintro e w50 ⟨rfl, hb⟩; refine ⟨_, rfl, ?_⟩; have n0_ := Aside0.mk (Kd.V_below (by (with_reducible repeat (first | apply Kd.V_alloc | apply Kd.V_drewN | apply Kd.V_drew)); exact HO_2.out) hb); have n1_ := Aside0.mk (blk_below (g := gb397) (o := .cells #[.int .i64 a3_0, .int .i64 a3_1] 23 (0, 0)) (by (with_reducible repeat (first | refine blk_drewN ?_ _ | refine blk_drew ?_ | refine blk_alloc ?_ _)); exact BK397.out) hb); have n2_ := Aside0.mk (blk_below (g := gb408) (o := .cells #[.int .i64 t405, .int .i64 t406] 23 (0, 0)) (by (with_reducible repeat (first | refine blk_drewN ?_ _ | refine blk_drew ?_ | refine blk_alloc ?_ _)); exact BK408.out) hb); have n3_ := Aside0.mk (below_step (by repeat (first | (with_reducible first | exact HB.out | apply below_alloc | apply pw_below_drewN | apply below_drew1 | refine below_set ?_ GE397.out | refine below_set ?_ GE408.out) | exact HB.out)) hb); clear HO_2; clear BK397; clear BK408; clear HB; have HO_2 := n0_; have BK397 := n1_; have BK408 := n2_; have HB := n3_; clear n0_ n1_ n2_ n3_; (try clear hb); (try clear hb2); (try clear hk); (try clear hi); have hcz51_0 : w50.cell? ⟨gb397, 0, none⟩ = some (.int .i64 a3_0) := (blk_cell BK397.out 0).trans rfl; have hcz51_1 : w50.cell? ⟨gb397, 1, none⟩ = some (.int .i64 a3_1) := (blk_cell BK397.out 1).trans rfl; have hfz51_0 := blk_frozen BK397.out 0; have hfz51_1 := blk_frozen BK397.out 1) | ((with_reducible refine gate_callee (f := 31) rfl ?_); refine goesL_ (some 59) rfl rfl Tryd.func31 (by kernel_rfl) rfl #[.int .i64 (Int.tmod a3_1 1073741789)] rfl (by (try simp only [List.map_toArray, List.map_cons, List.map_nil]); first | done | rfl | (simp only [List.length_drop, List.length_take]; rfl)) ?_; (with_reducible refine (cohousingref08_Rest.calls (Int.tmod a3_1 1073741789) t412 _ A26.out).mono ?_); rintro e w52 ⟨rfl, hb⟩; refine ⟨_, rfl, ?_⟩; have n0_ := Aside0.mk (Kd.V_below (by (with_reducible repeat (first | apply Kd.V_alloc | apply Kd.V_drewN | apply Kd.V_drew)); exact (Kd.V_mono (Kd.V_far (p := ⟨gb397, 0, none⟩) (Kd.V_mono HO_2.out (fun k_ hk => (⟨hk, hk.1⟩ : _ ∧ k_ ≠ gb397))) (fun _ hk => hk.2) (.int .i64 t411)) (fun _ h_ => h_.1))) hb); have n1_ := Aside0.mk (blk_below (g := gb397) (o := .cells #[.int .i64 t411, .int .i64 a3_1] 23 (0, 0)) (by (with_reducible repeat (first | refine blk_drewN ?_ _ | refine blk_drew ?_ | refine blk_alloc ?_ _)); refine blk_put (cs := #[.int .i64 a3_0, .int .i64 a3_1]) ?_ 0 _ rfl; (with_reducible repeat (first | refine blk_drewN ?_ _ | refine blk_drew ?_ | refine blk_alloc ?_ _)); exact BK397.out) hb); have n2_ := Aside0.mk (blk_below (g := gb408) (o := .cells #[.int .i64 t405, .int .i64 t406] 23 (0, 0)) (by (with_reducible repeat (first | refine blk_drewN ?_ _ | refine blk_drew ?_ | refine blk_alloc ?_ _)); refine blk_far ?_ NB408_397.out _; (with_reducible repeat (first | refine blk_drewN ?_ _ | refine blk_drew ?_ | refine blk_alloc ?_ _)); exact BK408.out) hb); have n3_ := Aside0.mk (below_step (by repeat (first | (with_reducible first | exact HB.out | apply below_alloc | apply pw_below_drewN | apply below_drew1 | refine below_set ?_ GE397.out | refine below_set ?_ GE408.out) | exact HB.out)) hb); clear HO_2; clear BK397; clear BK408; clear HB; have HO_2 := n0_; have BK397 := n1_; have BK408 := n2_; have HB := n3_; clear n0_ n1_ n2_ n3_; (try clear hb); (try clear hb2); (try clear hk); (try clear hi); have hcz53_0 : w52.cell? ⟨gb397, 0, none⟩ = some (.int .i64 t411) := (blk_cell BK397.out 0).trans rfl; have hcz53_1 : w52.cell? ⟨gb397, 1, none⟩ = some (.int .i64 a3_1) := (blk_cell BK397.out 1).trans rfl; have hfz53_0 := blk_frozen BK397.out 0; have hfz53_1 := blk_frozen BK397.out 1) | ((with_reducible refine gate_callee (f := 22) rfl ?_); refine goesL_ (some 65) rfl rfl Tryd.func22 (by kernel_rfl) rfl #[.int .i64 t403, .agg #[.int .i64 t411, .int .i64 t412], .slice Ao16 t399.length co16] rfl (by (try simp only [List.map_toArray, List.map_cons, List.map_nil]); first | done | rfl | (simp only [List.length_drop, List.length_take]; rfl)) ?_; (with_reducible refine (group_Verify.calls kj11 t403 t411 t412 _ _ t399 t413 t414 _ ?side1 ?side2 ?side3 A27.out).mono ?_); (case side1 => refine (Kd.V_reads' (e := 3) (base := w.heap.size) (ok := fun k_ => (k_ ≠ gb397 ∧ k_ ≠ gb408)) (n := t399.length) (c := co16) ?_).2.2; exact (by (with_reducible repeat (first | apply Kd.V_alloc | apply Kd.V_drewN | apply Kd.V_drew)); exact (Kd.V_mono (Kd.V_far (p := ⟨gb397, 1, none⟩) (Kd.V_mono HO_2.out (fun k_ hk => (⟨hk, hk.1⟩ : _ ∧ k_ ≠ gb397))) (fun _ hk => hk.2) (.int .i64 t412)) (fun _ h_ => h_.1)))); (case side2 => exact (Kd.V_reads' HO_2.out).2.1); (case side3 => exact TabOk.below HT.out (by repeat (first | (with_reducible first | exact HB.out | apply below_alloc | apply pw_below_drewN | apply below_drew1 | refine below_set ?_ GE397.out | refine below_set ?_ GE408.out) | exact HB.out))); rintro e w54 ⟨rfl, hb⟩; refine ⟨_, rfl, ?_⟩; have n0_ := Aside0.mk (Kd.V_below (by (with_reducible repeat (first | apply Kd.V_alloc | apply Kd.V_drewN | apply Kd.V_drew)); exact (Kd.V_mono (Kd.V_far (p := ⟨gb397, 1, none⟩) (Kd.V_mono HO_2.out (fun k_ hk => (⟨hk, hk.1⟩ : _ ∧ k_ ≠ gb397))) (fun _ hk => hk.2) (.int .i64 t412)) (fun _ h_ => h_.1))) hb); have n1_ := Aside0.mk (blk_below (g := gb397) (o := .cells #[.int .i64 t411, .int .i64 t412] 23 (0, 0)) (by (with_reducible repeat (first | refine blk_drewN ?_ _ | refine blk_drew ?_ | refine blk_alloc ?_ _)); refine blk_put (cs := #[.int .i64 t411, .int .i64 a3_1]) ?_ 1 _ rfl; (with_reducible repeat (first | refine blk_drewN ?_ _ | refine blk_drew ?_ | refine blk_alloc ?_ _)); exact BK397.out) hb); have n2_ := Aside0.mk (blk_below (g := gb408) (o := .cells #[.int .i64 t405, .int .i64 t406] 23 (0, 0)) (by (with_reducible repeat (first | refine blk_drewN ?_ _ | refine blk_drew ?_ | refine blk_alloc ?_ _)); refine blk_far ?_ NB408_397.out _; (with_reducible repeat (first | refine blk_drewN ?_ _ | refine blk_drew ?_ | refine blk_alloc ?_ _)); exact BK408.out) hb); have n3_ := Aside0.mk (below_step (by repeat (first | (with_reducible first | exact HB.out | apply below_alloc | apply pw_below_drewN | apply below_drew1 | refine below_set ?_ GE397.out | refine below_set ?_ GE408.out) | exact HB.out)) hb); clear HO_2; clear BK397; clear BK408; clear HB; have HO_2 := n0_; have BK397 := n1_; have BK408 := n2_; have HB := n3_; clear n0_ n1_ n2_ n3_; (try clear hb); (try clear hb2); (try clear hk); (try clear hi); have hcz55_0 : w54.cell? ⟨gb397, 0, none⟩ = some (.int .i64 t411) := (blk_cell BK397.out 0).trans rfl; have hcz55_1 : w54.cell? ⟨gb397, 1, none⟩ = some (.int .i64 t412) := (blk_cell BK397.out 1).trans rfl; have hfz55_0 := blk_frozen BK397.out 0; have hfz55_1 := blk_frozen BK397.out 1) | ((with_reducible refine gate_callee (f := 33) rfl ?_); refine goesL_ (some 70) rfl rfl Tryd.func33 (by kernel_rfl) rfl #[.int .i64 4, .int .i64 t403, .agg #[.int .i64 t411, .int .i64 t412]] rfl (by (try simp only [List.map_toArray, List.map_cons, List.map_nil]); first | done | rfl | (simp only [List.length_drop, List.length_take]; rfl)) ?_; (with_reducible refine (cohousingref08_Back.calls kj11 4 t403 t411 t412 t415 _ A28.out).mono ?_); rintro e w56 ⟨rfl, hb⟩; refine ⟨_, rfl, ?_⟩; have n0_ := Aside0.mk (Kd.V_below (by (with_reducible repeat (first | apply Kd.V_alloc | apply Kd.V_drewN | apply Kd.V_drew)); exact HO_2.out) hb); have n1_ := Aside0.mk (blk_below (g := gb397) (o := .cells #[.int .i64 t411, .int .i64 t412] 23 (0, 0)) (by (with_reducible repeat (first | refine blk_drewN ?_ _ | refine blk_drew ?_ | refine blk_alloc ?_ _)); exact BK397.out) hb); have n2_ := Aside0.mk (blk_below (g := gb408) (o := .cells #[.int .i64 t405, .int .i64 t406] 23 (0, 0)) (by (with_reducible repeat (first | refine blk_drewN ?_ _ | refine blk_drew ?_ | refine blk_alloc ?_ _)); exact BK408.out) hb); have n3_ := Aside0.mk (below_step (by repeat (first | (with_reducible first | exact HB.out | apply below_alloc | apply pw_below_drewN | apply below_drew1 | refine below_set ?_ GE397.out | refine below_set ?_ GE408.out) | exact HB.out)) hb); clear HO_2; clear BK397; clear BK408; clear HB; have HO_2 := n0_; have BK397 := n1_; have BK408 := n2_; have HB := n3_; clear n0_ n1_ n2_ n3_; (try clear hb); (try clear hb2); (try clear hk); (try clear hi)) | ((with_reducible refine gate_dst (N := 72) rfl ?_); refine Kd.R_lit (Kd.int .i64) _ 3 ?hg (N := 72) ?hd (xs := ([t415, t403] : List Int)) (inner := [.int .i64 t415, .int .i64 t403]) (ok := fun _ => True) (okp := fun _ => True) ?hr ?hp (fun _ hk => hk) trivial (Below.refl _ _) (Nat.le_refl _) (by simp) ?_; (case hd => rfl); (case hg => rfl); (case hr => first | (go_simp; done) | (go_simp; rfl)); (case hp => exact (Reps.one (show Kd.M (Kd.int .i64) _ _ _ t415 [.int .i64 t415] from rfl) (Reps.one (show Kd.M (Kd.int .i64) _ _ _ t403 [.int .i64 t403] from rfl) (Reps.none _ _)))); intro v417 w57 ho58 hb hg_ hnew_; clear hg_ hnew_; (first | rw [← Ny416.out] at ho58 | (simp only [Int.reduceToNat] at ho58; rw [← Ny416.out] at ho58)); have n0_ := Aside0.mk (Kd.V_elder' (by (with_reducible repeat (first | apply Kd.V_alloc | apply Kd.V_drewN | apply Kd.V_drew)); exact HO_2.out) (Kd.R_base ho58) hb); have n1_ := Aside0.mk (Kd.R_lower ho58 (below_size (by repeat (first | (with_reducible first | exact HB.out | apply below_alloc | apply pw_below_drewN | apply below_drew1 | refine below_set ?_ GE397.out | refine below_set ?_ GE408.out) | exact HB.out)))); have n2_ := Aside0.mk (blk_below (g := gb397) (o := .cells #[.int .i64 t411, .int .i64 t412] 23 (0, 0)) (by (with_reducible repeat (first | refine blk_drewN ?_ _ | refine blk_drew ?_ | refine blk_alloc ?_ _)); exact BK397.out) hb); have n3_ := Aside0.mk (blk_below (g := gb408) (o := .cells #[.int .i64 t405, .int .i64 t406] 23 (0, 0)) (by (with_reducible repeat (first | refine blk_drewN ?_ _ | refine blk_drew ?_ | refine blk_alloc ?_ _)); exact BK408.out) hb); have n4_ := Aside0.mk (below_step (by repeat (first | (with_reducible first | exact HB.out | apply below_alloc | apply pw_below_drewN | apply below_drew1 | refine below_set ?_ GE397.out | refine below_set ?_ GE408.out) | exact HB.out)) hb); clear HO_2; clear BK397; clear BK408; clear HB; have HO_2 := n0_; have HO418 := n1_; have BK397 := n2_; have BK408 := n3_; have HB := n4_; clear n0_ n1_ n2_ n3_ n4_; clear hb ho58) | ((with_reducible refine gate_builtin (b := .append) (xs := #[.tmp 72, .tmp 73]) rfl ?_); at_builtin; refine Kd.R_append_rows (Kd.int .i64) (w0 := w) w.heap.size rfl (.tmp 72) (.tmp 73) 24 3 (.int .i64 0) 8 rfl Tryd.underlying24 info3 rfl (by decide) (by omega) v417 y416 t399 _ _ _ (fun _ => True) (fun _ => False) rfl rfl ?aO ?aR (fun _ _ h => h) (fun _ h => h.elim) ?aF ?aB ?aS ?aL ?_; (case aR => repeat (first | exact (Kd.V_reads' HO_2.out).2.2 | (with_reducible refine Kd.C_alloc ?_ _) | (with_reducible refine Kd.C_drewN ?_ _) | (with_reducible refine Kd.C_drew ?_))); (case aB => exact (by repeat (first | (with_reducible first | exact HB.out | apply below_alloc | apply pw_below_drewN | apply below_drew1 | refine below_set ?_ GE397.out | refine below_set ?_ GE408.out) | exact HB.out))); (case aF => exact (fun _ _ => trivial)); (case aO => exact (by (with_reducible repeat (first | apply Kd.R_alloc | apply Kd.R_drewN | apply Kd.R_drew)); exact HO418.out)); (case aS => exact (below_size (by repeat (first | (with_reducible first | exact HB.out | apply below_alloc | apply pw_below_drewN | apply below_drew1 | refine below_set ?_ GE397.out | refine below_set ?_ GE408.out) | exact HB.out)))); (case aL => have := LMc29.out; omega); intro v420 w59 ho hb hg hat; rw [← Ny419.out] at ho; have n0_ := Aside0.mk (Kd.V_afterv (ok := (fun k_ => k_ ≠ gb397 ∧ k_ ≠ gb408)) (by (with_reducible repeat (first | apply Kd.V_alloc | apply Kd.V_drewN | apply Kd.V_drew)); exact HO_2.out) hg hat); have n1_ := Aside0.mk (blk_grown (g := gb397) (o := .cells #[.int .i64 t411, .int .i64 t412] 23 (0, 0)) (by (with_reducible repeat (first | refine blk_drewN ?_ _ | refine blk_drew ?_ | refine blk_alloc ?_ _)); exact BK397.out) hg (Kd.R_ne HO418.out BK397.out (by decide))); have n2_ := Aside0.mk (blk_grown (g := gb408) (o := .cells #[.int .i64 t405, .int .i64 t406] 23 (0, 0)) (by (with_reducible repeat (first | refine blk_drewN ?_ _ | refine blk_drew ?_ | refine blk_alloc ?_ _)); exact BK408.out) hg (Kd.R_ne HO418.out BK408.out (by decide))); have n3_ := Aside0.mk (hb); have n4_ := Aside0.mk (ho); clear HO_2; clear BK397; clear BK408; clear HB; clear HO418; have HO_2 := n0_; have BK397 := n1_; have BK408 := n2_; have HB := n3_; have HO421 := n4_; clear n0_ n1_ n2_ n3_ n4_; clear ho hb hg hat))
       have n0_ := Aside0.mk (Kd.V_drew HO_2.out)
       have n1_ := Aside0.mk (Kd.R_drew HO421.out)
       have n2_ := Aside0.mk (blk_drew BK397.out)
       have n3_ := Aside0.mk (blk_drew BK408.out)
       have n4_ := Aside0.mk (below_drew1 HB.out)
       clear HO_2
       clear HO421
       clear BK397
       clear BK408
       clear HB
       have HO_2 := n0_
       have HO421 := n1_
       have BK397 := n2_
       have BK408 := n3_
       have HB := n4_
       clear n0_ n1_ n2_ n3_ n4_
       refine start_ (n := 15) (S := fun w' => True) (ds := []) #[false, false, false, false, false, false, false, false, false, false, false, false, false, false, false] (by kernel_rfl) rfl rfl trivial (fun hHeld => ?_); refine with_tabW cohousinglaw08_GroupSigns.tab13 cohousinglaw08_GroupSigns.bits13 (fun HT_ HW_ => ?_)
       generalize w59.drew = w60 at HO_2 HO421 BK397 BK408 HB hHeld ⊢
       refine pure_ (i := 0) (N := some 75) (v := ?_) (a' := ?_) #[true, false, false, false, false, false, false, false, false, false, false, false, false, false, false] rfl rfl (any_of HT_.out (by kernel_rfl)) (fun _ _ _ h => h) (Or.inl ⟨by rfl, ?_⟩) ?_ ?_
       rotate_left
       ·intro w'
        go_simp
        with_reducible rfl
       rotate_left
       ·simp only [Act.put, List.setIfInBounds_toArray, List.set_cons_zero, List.set_cons_succ, i64_w, i32_w]
        rfl
       refine pure_ (i := 1) (N := some 76) (v := ?_) (a' := ?_) #[true, true, false, false, false, false, false, false, false, false, false, false, false, false, false] rfl rfl (any_of HT_.out (by kernel_rfl)) (fun _ _ _ h => h) (Or.inl ⟨by rfl, ?_⟩) ?_ ?_
       rotate_left
       ·intro w'
        go_simp
        with_reducible rfl
       rotate_left
       ·simp only [Act.put, List.setIfInBounds_toArray, List.set_cons_zero, List.set_cons_succ, i64_w, i32_w]
        rfl
       refine pure_ (i := 2) (N := some 77) (v := ?_) (a' := ?_) #[true, true, true, false, false, false, false, false, false, false, false, false, false, false, false] rfl rfl (any_of HT_.out (by kernel_rfl)) (fun _ _ _ h => h) (Or.inl ⟨by rfl, ?_⟩) ?_ ?_
       rotate_left
       ·intro w'
        go_simp
        with_reducible rfl
       rotate_left
       ·simp only [Act.put, List.setIfInBounds_toArray, List.set_cons_zero, List.set_cons_succ, i64_w, i32_w]
        rfl
       refine pure_ (i := 3) (N := some 78) (v := ?_) (a' := ?_) #[true, true, true, true, false, false, false, false, false, false, false, false, false, false, false] rfl rfl (any_of HT_.out (by kernel_rfl)) (fun _ _ _ h => h) (Or.inl ⟨by rfl, ?_⟩) ?_ ?_
       rotate_left
       ·intro w'
        go_simp
        with_reducible rfl
       rotate_left
       ·simp only [Act.put, List.setIfInBounds_toArray, List.set_cons_zero, List.set_cons_succ, i64_w, i32_w]
        rfl
       refine pure_ (i := 4) (N := some 79) (v := ?_) (a' := ?_) #[true, true, true, true, true, false, false, false, false, false, false, false, false, false, false] rfl rfl (any_of HT_.out (by kernel_rfl)) (fun _ _ _ h => h) (Or.inl ⟨by rfl, ?_⟩) ?_ ?_
       rotate_left
       ·intro w'
        go_simp
        with_reducible rfl
       rotate_left
       ·simp only [Act.put, List.setIfInBounds_toArray, List.set_cons_zero, List.set_cons_succ, i64_w, i32_w]
        rfl
       refine pure_ (i := 5) (N := some 80) (v := ?_) (a' := ?_) #[true, true, true, true, true, true, false, false, false, false, false, false, false, false, false] rfl rfl (any_of HT_.out (by kernel_rfl)) (fun _ _ _ h => h) (Or.inl ⟨by rfl, ?_⟩) ?_ ?_
       rotate_left
       ·intro w'
        go_simp
        with_reducible rfl
       rotate_left
       ·simp only [Act.put, List.setIfInBounds_toArray, List.set_cons_zero, List.set_cons_succ, i64_w, i32_w]
        rfl
       refine pure_ (i := 6) (N := some 81) (v := undef) (a' := ?_) #[true, true, true, true, true, true, true, false, false, false, false, false, false, false, false] rfl rfl (any_of HT_.out (by kernel_rfl)) (fun _ _ _ h => h) (Or.inr ⟨by rfl, rfl⟩) ?_ ?_
       rotate_left
       ·simp only [Act.put, List.setIfInBounds_toArray, List.set_cons_zero, List.set_cons_succ, i64_w, i32_w]
        rfl
       refine pure_ (i := 7) (N := some 82) (v := undef) (a' := ?_) #[true, true, true, true, true, true, true, true, false, false, false, false, false, false, false] rfl rfl (any_of HT_.out (by kernel_rfl)) (fun _ _ _ h => h) (Or.inr ⟨by rfl, rfl⟩) ?_ ?_
       rotate_left
       ·simp only [Act.put, List.setIfInBounds_toArray, List.set_cons_zero, List.set_cons_succ, i64_w, i32_w]
        rfl
       refine pure_ (i := 8) (N := some 83) (v := undef) (a' := ?_) #[true, true, true, true, true, true, true, true, true, false, false, false, false, false, false] rfl rfl (any_of HT_.out (by kernel_rfl)) (fun _ _ _ h => h) (Or.inr ⟨by rfl, rfl⟩) ?_ ?_
       rotate_left
       ·simp only [Act.put, List.setIfInBounds_toArray, List.set_cons_zero, List.set_cons_succ, i64_w, i32_w]
        rfl
       refine pure_ (i := 9) (N := some 84) (v := undef) (a' := ?_) #[true, true, true, true, true, true, true, true, true, true, false, false, false, false, false] rfl rfl (any_of HT_.out (by kernel_rfl)) (fun _ _ _ h => h) (Or.inr ⟨by rfl, rfl⟩) ?_ ?_
       rotate_left
       ·simp only [Act.put, List.setIfInBounds_toArray, List.set_cons_zero, List.set_cons_succ, i64_w, i32_w]
        rfl
       refine pure_ (i := 10) (N := some 85) (v := undef) (a' := ?_) #[true, true, true, true, true, true, true, true, true, true, true, false, false, false, false] rfl rfl (any_of HT_.out (by kernel_rfl)) (fun _ _ _ h => h) (Or.inr ⟨by rfl, rfl⟩) ?_ ?_
       rotate_left
       ·simp only [Act.put, List.setIfInBounds_toArray, List.set_cons_zero, List.set_cons_succ, i64_w, i32_w]
        rfl
       refine pure_ (i := 11) (N := some 86) (v := undef) (a' := ?_) #[true, true, true, true, true, true, true, true, true, true, true, true, false, false, false] rfl rfl (any_of HT_.out (by kernel_rfl)) (fun _ _ _ h => h) (Or.inr ⟨by rfl, rfl⟩) ?_ ?_
       rotate_left
       ·simp only [Act.put, List.setIfInBounds_toArray, List.set_cons_zero, List.set_cons_succ, i64_w, i32_w]
        rfl
       refine pure_ (i := 12) (N := some 87) (v := undef) (a' := ?_) #[true, true, true, true, true, true, true, true, true, true, true, true, true, false, false] rfl rfl (any_of HT_.out (by kernel_rfl)) (fun _ _ _ h => h) (Or.inr ⟨by rfl, rfl⟩) ?_ ?_
       rotate_left
       ·simp only [Act.put, List.setIfInBounds_toArray, List.set_cons_zero, List.set_cons_succ, i64_w, i32_w]
        rfl
       refine pure_ (i := 13) (N := some 88) (v := ?_) (a' := ?_) #[true, true, true, true, true, true, true, true, true, true, true, true, true, true, false] rfl rfl (any_of HT_.out (by kernel_rfl)) (fun _ _ _ h => h) (Or.inl ⟨by rfl, ?_⟩) ?_ ?_
       rotate_left
       ·intro w'
        go_simp
        with_reducible rfl
       rotate_left
       ·simp only [Act.put, List.setIfInBounds_toArray, List.set_cons_zero, List.set_cons_succ, i64_w, i32_w]
        rfl
       refine pure_ (i := 14) (N := some 8) (v := ?_) (a' := ?_) #[true, true, true, true, true, true, true, true, true, true, true, true, true, true, true] rfl rfl (any_of HT_.out (by kernel_rfl)) (fun _ _ _ h => h) (Or.inl ⟨by rfl, ?_⟩) ?_ ?_
       rotate_left
       ·intro w'
        go_simp
        with_reducible rfl
       rotate_left
       ·simp only [Act.put, List.setIfInBounds_toArray, List.set_cons_zero, List.set_cons_succ, i64_w, i32_w]
        rfl
       refine done_ (done_of HT_.out (by kernel_rfl)) ?_
       try go_wp2
       go_ret
       exact ⟨by first | rfl | (simp [errW_none, errW_some] <;> rfl) | (simp [*, errW_none, errW_some] <;> rfl), by repeat (first | (with_reducible first | exact HB.out | apply below_alloc | apply pw_below_drewN | apply below_drew1 | refine below_set ?_ GE397.out | refine below_set ?_ GE408.out) | exact HB.out)⟩
     ·replace c30 := Bool.eq_false_iff.mpr c30
      subst c30
      have H1 : (some false) = some r := by rw [if_neg (show ¬ (false = true) by decide)] at H; exact H
      clear H
      have H := H1
      clear H1
      obtain rfl := Option.some.inj H
      have hnb61 := NB397_408.out
      have hnc61 := NB408_397.out
      have hcz62_0 : wc.cell? ⟨gb397, 0, none⟩ = some (.int .i64 a3_0) := (blk_cell BK397.out 0).trans rfl
      have hcz62_1 : wc.cell? ⟨gb397, 1, none⟩ = some (.int .i64 a3_1) := (blk_cell BK397.out 1).trans rfl
      have hfz62_0 := blk_frozen BK397.out 0
      have hfz62_1 := blk_frozen BK397.out 1
      try go_wp2_with (first | ((with_reducible refine gate_callee (f := 31) rfl ?_); refine goesL_ (some 54) rfl rfl Tryd.func31 (by kernel_rfl) rfl #[.int .i64 (Int.tmod a3_0 1073741789)] rfl (by (try simp only [List.map_toArray, List.map_cons, List.map_nil]); first | done | rfl | (simp only [List.length_drop, List.length_take]; rfl)) ?_; (with_reducible refine (cohousingref08_Rest.calls (Int.tmod a3_0 1073741789) t411 _ A25.out).mono ?_); rintro e w63 ⟨rfl, hb⟩; refine ⟨_, rfl, ?_⟩; have n0_ := Aside0.mk (Kd.V_below (by (with_reducible repeat (first | apply Kd.V_alloc | apply Kd.V_drewN | apply Kd.V_drew)); exact HO_2.out) hb); have n1_ := Aside0.mk (blk_below (g := gb397) (o := .cells #[.int .i64 a3_0, .int .i64 a3_1] 23 (0, 0)) (by (with_reducible repeat (first | refine blk_drewN ?_ _ | refine blk_drew ?_ | refine blk_alloc ?_ _)); exact BK397.out) hb); have n2_ := Aside0.mk (blk_below (g := gb408) (o := .cells #[.int .i64 t405, .int .i64 t406] 23 (0, 0)) (by (with_reducible repeat (first | refine blk_drewN ?_ _ | refine blk_drew ?_ | refine blk_alloc ?_ _)); exact BK408.out) hb); have n3_ := Aside0.mk (below_step (by repeat (first | (with_reducible first | exact HB.out | apply below_alloc | apply pw_below_drewN | apply below_drew1 | refine below_set ?_ GE397.out | refine below_set ?_ GE408.out) | exact HB.out)) hb); clear HO_2; clear BK397; clear BK408; clear HB; have HO_2 := n0_; have BK397 := n1_; have BK408 := n2_; have HB := n3_; clear n0_ n1_ n2_ n3_; (try clear hb); (try clear hb2); (try clear hk); (try clear hi); have hcz64_0 : w63.cell? ⟨gb397, 0, none⟩ = some (.int .i64 a3_0) := (blk_cell BK397.out 0).trans rfl; have hcz64_1 : w63.cell? ⟨gb397, 1, none⟩ = some (.int .i64 a3_1) := (blk_cell BK397.out 1).trans rfl; have hfz64_0 := blk_frozen BK397.out 0; have hfz64_1 := blk_frozen BK397.out 1) | ((with_reducible refine gate_callee (f := 31) rfl ?_); refine goesL_ (some 59) rfl rfl Tryd.func31 (by kernel_rfl) rfl #[.int .i64 (Int.tmod a3_1 1073741789)] rfl (by (try simp only [List.map_toArray, List.map_cons, List.map_nil]); first | done | rfl | (simp only [List.length_drop, List.length_take]; rfl)) ?_; (with_reducible refine (cohousingref08_Rest.calls (Int.tmod a3_1 1073741789) t412 _ A26.out).mono ?_); rintro e w65 ⟨rfl, hb⟩; refine ⟨_, rfl, ?_⟩; have n0_ := Aside0.mk (Kd.V_below (by (with_reducible repeat (first | apply Kd.V_alloc | apply Kd.V_drewN | apply Kd.V_drew)); exact (Kd.V_mono (Kd.V_far (p := ⟨gb397, 0, none⟩) (Kd.V_mono HO_2.out (fun k_ hk => (⟨hk, hk.1⟩ : _ ∧ k_ ≠ gb397))) (fun _ hk => hk.2) (.int .i64 t411)) (fun _ h_ => h_.1))) hb); have n1_ := Aside0.mk (blk_below (g := gb397) (o := .cells #[.int .i64 t411, .int .i64 a3_1] 23 (0, 0)) (by (with_reducible repeat (first | refine blk_drewN ?_ _ | refine blk_drew ?_ | refine blk_alloc ?_ _)); refine blk_put (cs := #[.int .i64 a3_0, .int .i64 a3_1]) ?_ 0 _ rfl; (with_reducible repeat (first | refine blk_drewN ?_ _ | refine blk_drew ?_ | refine blk_alloc ?_ _)); exact BK397.out) hb); have n2_ := Aside0.mk (blk_below (g := gb408) (o := .cells #[.int .i64 t405, .int .i64 t406] 23 (0, 0)) (by (with_reducible repeat (first | refine blk_drewN ?_ _ | refine blk_drew ?_ | refine blk_alloc ?_ _)); refine blk_far ?_ NB408_397.out _; (with_reducible repeat (first | refine blk_drewN ?_ _ | refine blk_drew ?_ | refine blk_alloc ?_ _)); exact BK408.out) hb); have n3_ := Aside0.mk (below_step (by repeat (first | (with_reducible first | exact HB.out | apply below_alloc | apply pw_below_drewN | apply below_drew1 | refine below_set ?_ GE397.out | refine below_set ?_ GE408.out) | exact HB.out)) hb); clear HO_2; clear BK397; clear BK408; clear HB; have HO_2 := n0_; have BK397 := n1_; have BK408 := n2_; have HB := n3_; clear n0_ n1_ n2_ n3_; (try clear hb); (try clear hb2); (try clear hk); (try clear hi); have hcz66_0 : w65.cell? ⟨gb397, 0, none⟩ = some (.int .i64 t411) := (blk_cell BK397.out 0).trans rfl; have hcz66_1 : w65.cell? ⟨gb397, 1, none⟩ = some (.int .i64 a3_1) := (blk_cell BK397.out 1).trans rfl; have hfz66_0 := blk_frozen BK397.out 0; have hfz66_1 := blk_frozen BK397.out 1) | ((with_reducible refine gate_callee (f := 22) rfl ?_); refine goesL_ (some 65) rfl rfl Tryd.func22 (by kernel_rfl) rfl #[.int .i64 t403, .agg #[.int .i64 t411, .int .i64 t412], .slice Ao16 t399.length co16] rfl (by (try simp only [List.map_toArray, List.map_cons, List.map_nil]); first | done | rfl | (simp only [List.length_drop, List.length_take]; rfl)) ?_; (with_reducible refine (group_Verify.calls kj11 t403 t411 t412 _ _ t399 t413 t414 _ ?side1 ?side2 ?side3 A27.out).mono ?_); (case side1 => refine (Kd.V_reads' (e := 3) (base := w.heap.size) (ok := fun k_ => (k_ ≠ gb397 ∧ k_ ≠ gb408)) (n := t399.length) (c := co16) ?_).2.2; exact (by (with_reducible repeat (first | apply Kd.V_alloc | apply Kd.V_drewN | apply Kd.V_drew)); exact (Kd.V_mono (Kd.V_far (p := ⟨gb397, 1, none⟩) (Kd.V_mono HO_2.out (fun k_ hk => (⟨hk, hk.1⟩ : _ ∧ k_ ≠ gb397))) (fun _ hk => hk.2) (.int .i64 t412)) (fun _ h_ => h_.1)))); (case side2 => exact (Kd.V_reads' HO_2.out).2.1); (case side3 => exact TabOk.below HT.out (by repeat (first | (with_reducible first | exact HB.out | apply below_alloc | apply pw_below_drewN | apply below_drew1 | refine below_set ?_ GE397.out | refine below_set ?_ GE408.out) | exact HB.out))); rintro e w67 ⟨rfl, hb⟩; refine ⟨_, rfl, ?_⟩; have n0_ := Aside0.mk (Kd.V_below (by (with_reducible repeat (first | apply Kd.V_alloc | apply Kd.V_drewN | apply Kd.V_drew)); exact (Kd.V_mono (Kd.V_far (p := ⟨gb397, 1, none⟩) (Kd.V_mono HO_2.out (fun k_ hk => (⟨hk, hk.1⟩ : _ ∧ k_ ≠ gb397))) (fun _ hk => hk.2) (.int .i64 t412)) (fun _ h_ => h_.1))) hb); have n1_ := Aside0.mk (blk_below (g := gb397) (o := .cells #[.int .i64 t411, .int .i64 t412] 23 (0, 0)) (by (with_reducible repeat (first | refine blk_drewN ?_ _ | refine blk_drew ?_ | refine blk_alloc ?_ _)); refine blk_put (cs := #[.int .i64 t411, .int .i64 a3_1]) ?_ 1 _ rfl; (with_reducible repeat (first | refine blk_drewN ?_ _ | refine blk_drew ?_ | refine blk_alloc ?_ _)); exact BK397.out) hb); have n2_ := Aside0.mk (blk_below (g := gb408) (o := .cells #[.int .i64 t405, .int .i64 t406] 23 (0, 0)) (by (with_reducible repeat (first | refine blk_drewN ?_ _ | refine blk_drew ?_ | refine blk_alloc ?_ _)); refine blk_far ?_ NB408_397.out _; (with_reducible repeat (first | refine blk_drewN ?_ _ | refine blk_drew ?_ | refine blk_alloc ?_ _)); exact BK408.out) hb); have n3_ := Aside0.mk (below_step (by repeat (first | (with_reducible first | exact HB.out | apply below_alloc | apply pw_below_drewN | apply below_drew1 | refine below_set ?_ GE397.out | refine below_set ?_ GE408.out) | exact HB.out)) hb); clear HO_2; clear BK397; clear BK408; clear HB; have HO_2 := n0_; have BK397 := n1_; have BK408 := n2_; have HB := n3_; clear n0_ n1_ n2_ n3_; (try clear hb); (try clear hb2); (try clear hk); (try clear hi); have hcz68_0 : w67.cell? ⟨gb397, 0, none⟩ = some (.int .i64 t411) := (blk_cell BK397.out 0).trans rfl; have hcz68_1 : w67.cell? ⟨gb397, 1, none⟩ = some (.int .i64 t412) := (blk_cell BK397.out 1).trans rfl; have hfz68_0 := blk_frozen BK397.out 0; have hfz68_1 := blk_frozen BK397.out 1) | ((with_reducible refine gate_callee (f := 33) rfl ?_); refine goesL_ (some 70) rfl rfl Tryd.func33 (by kernel_rfl) rfl #[.int .i64 4, .int .i64 t403, .agg #[.int .i64 t411, .int .i64 t412]] rfl (by (try simp only [List.map_toArray, List.map_cons, List.map_nil]); first | done | rfl | (simp only [List.length_drop, List.length_take]; rfl)) ?_; (with_reducible refine (cohousingref08_Back.calls kj11 4 t403 t411 t412 t415 _ A28.out).mono ?_); rintro e w69 ⟨rfl, hb⟩; refine ⟨_, rfl, ?_⟩; have n0_ := Aside0.mk (Kd.V_below (by (with_reducible repeat (first | apply Kd.V_alloc | apply Kd.V_drewN | apply Kd.V_drew)); exact HO_2.out) hb); have n1_ := Aside0.mk (blk_below (g := gb397) (o := .cells #[.int .i64 t411, .int .i64 t412] 23 (0, 0)) (by (with_reducible repeat (first | refine blk_drewN ?_ _ | refine blk_drew ?_ | refine blk_alloc ?_ _)); exact BK397.out) hb); have n2_ := Aside0.mk (blk_below (g := gb408) (o := .cells #[.int .i64 t405, .int .i64 t406] 23 (0, 0)) (by (with_reducible repeat (first | refine blk_drewN ?_ _ | refine blk_drew ?_ | refine blk_alloc ?_ _)); exact BK408.out) hb); have n3_ := Aside0.mk (below_step (by repeat (first | (with_reducible first | exact HB.out | apply below_alloc | apply pw_below_drewN | apply below_drew1 | refine below_set ?_ GE397.out | refine below_set ?_ GE408.out) | exact HB.out)) hb); clear HO_2; clear BK397; clear BK408; clear HB; have HO_2 := n0_; have BK397 := n1_; have BK408 := n2_; have HB := n3_; clear n0_ n1_ n2_ n3_; (try clear hb); (try clear hb2); (try clear hk); (try clear hi)) | ((with_reducible refine gate_dst (N := 72) rfl ?_); refine Kd.R_lit (Kd.int .i64) _ 3 ?hg (N := 72) ?hd (xs := ([t415, t403] : List Int)) (inner := [.int .i64 t415, .int .i64 t403]) (ok := fun _ => True) (okp := fun _ => True) ?hr ?hp (fun _ hk => hk) trivial (Below.refl _ _) (Nat.le_refl _) (by simp) ?_; (case hd => rfl); (case hg => rfl); (case hr => first | (go_simp; done) | (go_simp; rfl)); (case hp => exact (Reps.one (show Kd.M (Kd.int .i64) _ _ _ t415 [.int .i64 t415] from rfl) (Reps.one (show Kd.M (Kd.int .i64) _ _ _ t403 [.int .i64 t403] from rfl) (Reps.none _ _)))); intro v417 w70 ho71 hb hg_ hnew_; clear hg_ hnew_; (first | rw [← Ny416.out] at ho71 | (simp only [Int.reduceToNat] at ho71; rw [← Ny416.out] at ho71)); have n0_ := Aside0.mk (Kd.V_elder' (by (with_reducible repeat (first | apply Kd.V_alloc | apply Kd.V_drewN | apply Kd.V_drew)); exact HO_2.out) (Kd.R_base ho71) hb); have n1_ := Aside0.mk (Kd.R_lower ho71 (below_size (by repeat (first | (with_reducible first | exact HB.out | apply below_alloc | apply pw_below_drewN | apply below_drew1 | refine below_set ?_ GE397.out | refine below_set ?_ GE408.out) | exact HB.out)))); have n2_ := Aside0.mk (blk_below (g := gb397) (o := .cells #[.int .i64 t411, .int .i64 t412] 23 (0, 0)) (by (with_reducible repeat (first | refine blk_drewN ?_ _ | refine blk_drew ?_ | refine blk_alloc ?_ _)); exact BK397.out) hb); have n3_ := Aside0.mk (blk_below (g := gb408) (o := .cells #[.int .i64 t405, .int .i64 t406] 23 (0, 0)) (by (with_reducible repeat (first | refine blk_drewN ?_ _ | refine blk_drew ?_ | refine blk_alloc ?_ _)); exact BK408.out) hb); have n4_ := Aside0.mk (below_step (by repeat (first | (with_reducible first | exact HB.out | apply below_alloc | apply pw_below_drewN | apply below_drew1 | refine below_set ?_ GE397.out | refine below_set ?_ GE408.out) | exact HB.out)) hb); clear HO_2; clear BK397; clear BK408; clear HB; have HO_2 := n0_; have HO418 := n1_; have BK397 := n2_; have BK408 := n3_; have HB := n4_; clear n0_ n1_ n2_ n3_ n4_; clear hb ho71) | ((with_reducible refine gate_builtin (b := .append) (xs := #[.tmp 72, .tmp 73]) rfl ?_); at_builtin; refine Kd.R_append_rows (Kd.int .i64) (w0 := w) w.heap.size rfl (.tmp 72) (.tmp 73) 24 3 (.int .i64 0) 8 rfl Tryd.underlying24 info3 rfl (by decide) (by omega) v417 y416 t399 _ _ _ (fun _ => True) (fun _ => False) rfl rfl ?aO ?aR (fun _ _ h => h) (fun _ h => h.elim) ?aF ?aB ?aS ?aL ?_; (case aR => repeat (first | exact (Kd.V_reads' HO_2.out).2.2 | (with_reducible refine Kd.C_alloc ?_ _) | (with_reducible refine Kd.C_drewN ?_ _) | (with_reducible refine Kd.C_drew ?_))); (case aB => exact (by repeat (first | (with_reducible first | exact HB.out | apply below_alloc | apply pw_below_drewN | apply below_drew1 | refine below_set ?_ GE397.out | refine below_set ?_ GE408.out) | exact HB.out))); (case aF => exact (fun _ _ => trivial)); (case aO => exact (by (with_reducible repeat (first | apply Kd.R_alloc | apply Kd.R_drewN | apply Kd.R_drew)); exact HO418.out)); (case aS => exact (below_size (by repeat (first | (with_reducible first | exact HB.out | apply below_alloc | apply pw_below_drewN | apply below_drew1 | refine below_set ?_ GE397.out | refine below_set ?_ GE408.out) | exact HB.out)))); (case aL => have := LMc29.out; omega); intro v420 w72 ho hb hg hat; rw [← Ny419.out] at ho; have n0_ := Aside0.mk (Kd.V_afterv (ok := (fun k_ => k_ ≠ gb397 ∧ k_ ≠ gb408)) (by (with_reducible repeat (first | apply Kd.V_alloc | apply Kd.V_drewN | apply Kd.V_drew)); exact HO_2.out) hg hat); have n1_ := Aside0.mk (blk_grown (g := gb397) (o := .cells #[.int .i64 t411, .int .i64 t412] 23 (0, 0)) (by (with_reducible repeat (first | refine blk_drewN ?_ _ | refine blk_drew ?_ | refine blk_alloc ?_ _)); exact BK397.out) hg (Kd.R_ne HO418.out BK397.out (by decide))); have n2_ := Aside0.mk (blk_grown (g := gb408) (o := .cells #[.int .i64 t405, .int .i64 t406] 23 (0, 0)) (by (with_reducible repeat (first | refine blk_drewN ?_ _ | refine blk_drew ?_ | refine blk_alloc ?_ _)); exact BK408.out) hg (Kd.R_ne HO418.out BK408.out (by decide))); have n3_ := Aside0.mk (hb); have n4_ := Aside0.mk (ho); clear HO_2; clear BK397; clear BK408; clear HB; clear HO418; have HO_2 := n0_; have BK397 := n1_; have BK408 := n2_; have HB := n3_; have HO421 := n4_; clear n0_ n1_ n2_ n3_ n4_; clear ho hb hg hat))
      have n0_ := Aside0.mk (Kd.V_drew HO_2.out)
      have n1_ := Aside0.mk (Kd.R_drew HO421.out)
      have n2_ := Aside0.mk (blk_drew BK397.out)
      have n3_ := Aside0.mk (blk_drew BK408.out)
      have n4_ := Aside0.mk (below_drew1 HB.out)
      clear HO_2
      clear HO421
      clear BK397
      clear BK408
      clear HB
      have HO_2 := n0_
      have HO421 := n1_
      have BK397 := n2_
      have BK408 := n3_
      have HB := n4_
      clear n0_ n1_ n2_ n3_ n4_
      refine start_ (n := 15) (S := fun w' => True) (ds := []) #[false, false, false, false, false, false, false, false, false, false, false, false, false, false, false] (by kernel_rfl) rfl rfl trivial (fun hHeld => ?_); refine with_tabW cohousinglaw08_GroupSigns.tab13 cohousinglaw08_GroupSigns.bits13 (fun HT_ HW_ => ?_)
      generalize w72.drew = w73 at HO_2 HO421 BK397 BK408 HB hHeld ⊢
      refine pure_ (i := 0) (N := some 75) (v := ?_) (a' := ?_) #[true, false, false, false, false, false, false, false, false, false, false, false, false, false, false] rfl rfl (any_of HT_.out (by kernel_rfl)) (fun _ _ _ h => h) (Or.inl ⟨by rfl, ?_⟩) ?_ ?_
      rotate_left
      ·intro w'
       go_simp
       with_reducible rfl
      rotate_left
      ·simp only [Act.put, List.setIfInBounds_toArray, List.set_cons_zero, List.set_cons_succ, i64_w, i32_w]
       rfl
      refine pure_ (i := 1) (N := some 76) (v := ?_) (a' := ?_) #[true, true, false, false, false, false, false, false, false, false, false, false, false, false, false] rfl rfl (any_of HT_.out (by kernel_rfl)) (fun _ _ _ h => h) (Or.inl ⟨by rfl, ?_⟩) ?_ ?_
      rotate_left
      ·intro w'
       go_simp
       with_reducible rfl
      rotate_left
      ·simp only [Act.put, List.setIfInBounds_toArray, List.set_cons_zero, List.set_cons_succ, i64_w, i32_w]
       rfl
      refine pure_ (i := 2) (N := some 77) (v := undef) (a' := ?_) #[true, true, true, false, false, false, false, false, false, false, false, false, false, false, false] rfl rfl (any_of HT_.out (by kernel_rfl)) (fun _ _ _ h => h) (Or.inr ⟨by rfl, rfl⟩) ?_ ?_
      rotate_left
      ·simp only [Act.put, List.setIfInBounds_toArray, List.set_cons_zero, List.set_cons_succ, i64_w, i32_w]
       rfl
      refine pure_ (i := 3) (N := some 78) (v := undef) (a' := ?_) #[true, true, true, true, false, false, false, false, false, false, false, false, false, false, false] rfl rfl (any_of HT_.out (by kernel_rfl)) (fun _ _ _ h => h) (Or.inr ⟨by rfl, rfl⟩) ?_ ?_
      rotate_left
      ·simp only [Act.put, List.setIfInBounds_toArray, List.set_cons_zero, List.set_cons_succ, i64_w, i32_w]
       rfl
      refine pure_ (i := 4) (N := some 79) (v := ?_) (a' := ?_) #[true, true, true, true, true, false, false, false, false, false, false, false, false, false, false] rfl rfl (any_of HT_.out (by kernel_rfl)) (fun _ _ _ h => h) (Or.inl ⟨by rfl, ?_⟩) ?_ ?_
      rotate_left
      ·intro w'
       go_simp
       with_reducible rfl
      rotate_left
      ·simp only [Act.put, List.setIfInBounds_toArray, List.set_cons_zero, List.set_cons_succ, i64_w, i32_w]
       rfl
      refine pure_ (i := 5) (N := some 80) (v := ?_) (a' := ?_) #[true, true, true, true, true, true, false, false, false, false, false, false, false, false, false] rfl rfl (any_of HT_.out (by kernel_rfl)) (fun _ _ _ h => h) (Or.inl ⟨by rfl, ?_⟩) ?_ ?_
      rotate_left
      ·intro w'
       go_simp
       with_reducible rfl
      rotate_left
      ·simp only [Act.put, List.setIfInBounds_toArray, List.set_cons_zero, List.set_cons_succ, i64_w, i32_w]
       rfl
      refine pure_ (i := 6) (N := some 81) (v := undef) (a' := ?_) #[true, true, true, true, true, true, true, false, false, false, false, false, false, false, false] rfl rfl (any_of HT_.out (by kernel_rfl)) (fun _ _ _ h => h) (Or.inr ⟨by rfl, rfl⟩) ?_ ?_
      rotate_left
      ·simp only [Act.put, List.setIfInBounds_toArray, List.set_cons_zero, List.set_cons_succ, i64_w, i32_w]
       rfl
      refine pure_ (i := 7) (N := some 82) (v := undef) (a' := ?_) #[true, true, true, true, true, true, true, true, false, false, false, false, false, false, false] rfl rfl (any_of HT_.out (by kernel_rfl)) (fun _ _ _ h => h) (Or.inr ⟨by rfl, rfl⟩) ?_ ?_
      rotate_left
      ·simp only [Act.put, List.setIfInBounds_toArray, List.set_cons_zero, List.set_cons_succ, i64_w, i32_w]
       rfl
      refine pure_ (i := 8) (N := some 83) (v := undef) (a' := ?_) #[true, true, true, true, true, true, true, true, true, false, false, false, false, false, false] rfl rfl (any_of HT_.out (by kernel_rfl)) (fun _ _ _ h => h) (Or.inr ⟨by rfl, rfl⟩) ?_ ?_
      rotate_left
      ·simp only [Act.put, List.setIfInBounds_toArray, List.set_cons_zero, List.set_cons_succ, i64_w, i32_w]
       rfl
      refine pure_ (i := 9) (N := some 84) (v := undef) (a' := ?_) #[true, true, true, true, true, true, true, true, true, true, false, false, false, false, false] rfl rfl (any_of HT_.out (by kernel_rfl)) (fun _ _ _ h => h) (Or.inr ⟨by rfl, rfl⟩) ?_ ?_
      rotate_left
      ·simp only [Act.put, List.setIfInBounds_toArray, List.set_cons_zero, List.set_cons_succ, i64_w, i32_w]
       rfl
      refine pure_ (i := 10) (N := some 85) (v := undef) (a' := ?_) #[true, true, true, true, true, true, true, true, true, true, true, false, false, false, false] rfl rfl (any_of HT_.out (by kernel_rfl)) (fun _ _ _ h => h) (Or.inr ⟨by rfl, rfl⟩) ?_ ?_
      rotate_left
      ·simp only [Act.put, List.setIfInBounds_toArray, List.set_cons_zero, List.set_cons_succ, i64_w, i32_w]
       rfl
      refine pure_ (i := 11) (N := some 86) (v := undef) (a' := ?_) #[true, true, true, true, true, true, true, true, true, true, true, true, false, false, false] rfl rfl (any_of HT_.out (by kernel_rfl)) (fun _ _ _ h => h) (Or.inr ⟨by rfl, rfl⟩) ?_ ?_
      rotate_left
      ·simp only [Act.put, List.setIfInBounds_toArray, List.set_cons_zero, List.set_cons_succ, i64_w, i32_w]
       rfl
      refine pure_ (i := 12) (N := some 87) (v := undef) (a' := ?_) #[true, true, true, true, true, true, true, true, true, true, true, true, true, false, false] rfl rfl (any_of HT_.out (by kernel_rfl)) (fun _ _ _ h => h) (Or.inr ⟨by rfl, rfl⟩) ?_ ?_
      rotate_left
      ·simp only [Act.put, List.setIfInBounds_toArray, List.set_cons_zero, List.set_cons_succ, i64_w, i32_w]
       rfl
      refine pure_ (i := 13) (N := some 88) (v := ?_) (a' := ?_) #[true, true, true, true, true, true, true, true, true, true, true, true, true, true, false] rfl rfl (any_of HT_.out (by kernel_rfl)) (fun _ _ _ h => h) (Or.inl ⟨by rfl, ?_⟩) ?_ ?_
      rotate_left
      ·intro w'
       go_simp
       with_reducible rfl
      rotate_left
      ·simp only [Act.put, List.setIfInBounds_toArray, List.set_cons_zero, List.set_cons_succ, i64_w, i32_w]
       rfl
      refine pure_ (i := 14) (N := some 8) (v := ?_) (a' := ?_) #[true, true, true, true, true, true, true, true, true, true, true, true, true, true, true] rfl rfl (any_of HT_.out (by kernel_rfl)) (fun _ _ _ h => h) (Or.inl ⟨by rfl, ?_⟩) ?_ ?_
      rotate_left
      ·intro w'
       go_simp
       with_reducible rfl
      rotate_left
      ·simp only [Act.put, List.setIfInBounds_toArray, List.set_cons_zero, List.set_cons_succ, i64_w, i32_w]
       rfl
      refine done_ (done_of HT_.out (by kernel_rfl)) ?_
      try go_wp2
      go_ret
      exact ⟨by first | rfl | (simp [errW_none, errW_some] <;> rfl) | (simp [*, errW_none, errW_some] <;> rfl), by repeat (first | (with_reducible first | exact HB.out | apply below_alloc | apply pw_below_drewN | apply below_drew1 | refine below_set ?_ GE397.out | refine below_set ?_ GE408.out) | exact HB.out)⟩
    ·rw [if_neg c29] at H
     exact absurd H (by simp)

end Go.Proofs.YtimcknjodeikmaaDoor.P
