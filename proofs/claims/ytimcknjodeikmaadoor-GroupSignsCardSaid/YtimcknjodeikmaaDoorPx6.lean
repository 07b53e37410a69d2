-- Written by a program of this session out of the translation (wip/pp: the kit's print, turned). Not trusted: Lean checks it.
import Derived.Test.YtimcknjodeikmaaDoorPx0
import Derived.Test.YtimcknjodeikmaaDoorPx2
import Derived.Test.YtimcknjodeikmaaDoorPx3
import Derived.Test.YtimcknjodeikmaaDoorPx4
import Derived.Test.YtimcknjodeikmaaDoorPx5
namespace Go.Proofs.YtimcknjodeikmaaDoor.P
open Go.RowKit Go.Proofs.YtimcknjodeikmaaDoorW.PrintWords Go.Proofs.YtimcknjodeikmaaDoorW.PrintLast Go.Proofs.YtimcknjodeikmaaDoorW.PrintMore
attribute [local go_sem] max2_int min2_int max_two min_two max_three min_three max_four min_four   -- for this text's walks alone
set_option linter.unusedVariables false
set_option linter.unusedSimpArgs false

/-! ### cohousinglaw08_head: function 10 -/
def cohousinglaw08_head.j0 : Nat → Int → Int → Int → Bool → Bool → Bool → Option (Bool)
 | 0, _, _, _, _, _, _ => none
 | k + 1, x1, x3, x5, x9, x13, x15 => if x15 = true then (if x1 = 36 then (if x3 = 64 then (if x5 = 144 then (if x9 = true then (if x13 = true then ((group_Member.f 4).bind fun t195 => (if t195 = true then ((group_Member.f 9).bind fun t196 => (if t196 = true then ((group_Member.f 2).bind fun t197 => (if t197 = true then (some false) else ((group_Member.f 0).bind fun t198 => (some (!t198))))) else (some false))) else (some false))) else (some false)) else (some false)) else (some false)) else (some false)) else (some false)) else (some false)
def cohousinglaw08_head.f (k : Nat)  : Option (Bool) := (group_Mul.f 4 9).bind fun bt171 => ((group_Exp.f 4 3).bind fun bt173 => ((group_Commit.f k 9 2 1).bind fun bt175 => ((group_Sign.f k 5 7 (([1, 2] : List Int))).bind fun bt180 => ((group_Verify.f k 1024 bt180.1 bt180.2.1 (([1, 2] : List Int))).bind fun bt187 => ((group_Same.f k 4 9 3 5).bind fun bt189 => ((group_Equal.f k 4 64 9 729 bt189.1 bt189.2.1).bind fun bt193 => (if bt171.2 = 0 then (if bt173.2 = 0 then (if bt175.2 = 0 then (if bt180.2.2 = 0 then (if bt187.2 = 0 then (if bt189.2.2 = 0 then (cohousinglaw08_head.j0 k bt171.1 bt173.1 bt175.1 bt187.1 bt193.1 (bt193.2 == 0)) else (cohousinglaw08_head.j0 k bt171.1 bt173.1 bt175.1 bt187.1 bt193.1 false)) else (cohousinglaw08_head.j0 k bt171.1 bt173.1 bt175.1 bt187.1 bt193.1 false)) else (cohousinglaw08_head.j0 k bt171.1 bt173.1 bt175.1 bt187.1 bt193.1 false)) else (cohousinglaw08_head.j0 k bt171.1 bt173.1 bt175.1 bt187.1 bt193.1 false)) else (cohousinglaw08_head.j0 k bt171.1 bt173.1 bt175.1 bt187.1 bt193.1 false)) else (cohousinglaw08_head.j0 k bt171.1 bt173.1 bt175.1 bt187.1 bt193.1 false))))))))
theorem cohousinglaw08_head.mono_l : ∀ k, (∀ y0 y1 y2 y3 y4 y5, LeO (cohousinglaw08_head.j0 k y0 y1 y2 y3 y4 y5) (cohousinglaw08_head.j0 (k + 1) y0 y1 y2 y3 y4 y5))
 | 0 => fun _ _ _ _ _ _ r h => by simp [cohousinglaw08_head.j0] at h
 | k + 1 => by
  have ih0 := cohousinglaw08_head.mono_l k
  ·intro y0 y1 y2 y3 y4 y5
   unfold cohousinglaw08_head.j0
   repeat' first
   | (with_reducible exact ih0 _ _ _ _ _ _)
   | (with_reducible exact group_Commit.mono _ _ _ _)
   | (with_reducible exact group_Equal.mono _ _ _ _ _ _ _)
   | (with_reducible exact group_Same.mono _ _ _ _ _)
   | (with_reducible exact group_Sign.mono _ _ _ _)
   | (with_reducible exact group_Verify.mono _ _ _ _ _)
   | (with_reducible exact LeO.refl _)
   | (with_reducible exact LeO.none _)
   | (with_reducible refine LeO.ite ?_ ?_)
   | (with_reducible refine LeO.bind ?_ (fun _ => ?_))
   | exact ih0 _ _ _ _ _ _
   | exact group_Commit.mono _ _ _ _
   | exact group_Equal.mono _ _ _ _ _ _ _
   | exact group_Same.mono _ _ _ _ _
   | exact group_Sign.mono _ _ _ _
   | exact group_Verify.mono _ _ _ _ _
   | exact LeO.none _
   | refine LeO.ite ?_ ?_
   | refine LeO.bind ?_ (fun _ => ?_)
theorem cohousinglaw08_head.mono : ∀ k, LeO (cohousinglaw08_head.f k ) (cohousinglaw08_head.f (k + 1) ) := by
 intro  k
 have ih0 := cohousinglaw08_head.mono_l k
 unfold cohousinglaw08_head.f
 repeat' first
   | (with_reducible exact ih0 _ _ _ _ _ _)
   | (with_reducible exact group_Commit.mono _ _ _ _)
   | (with_reducible exact group_Equal.mono _ _ _ _ _ _ _)
   | (with_reducible exact group_Same.mono _ _ _ _ _)
   | (with_reducible exact group_Sign.mono _ _ _ _)
   | (with_reducible exact group_Verify.mono _ _ _ _ _)
   | (with_reducible exact LeO.refl _)
   | (with_reducible exact LeO.none _)
   | (with_reducible refine LeO.ite ?_ ?_)
   | (with_reducible refine LeO.bind ?_ (fun _ => ?_))
   | exact ih0 _ _ _ _ _ _
   | exact group_Commit.mono _ _ _ _
   | exact group_Equal.mono _ _ _ _ _ _ _
   | exact group_Same.mono _ _ _ _ _
   | exact group_Sign.mono _ _ _ _
   | exact group_Verify.mono _ _ _ _ _
   | exact LeO.none _
   | refine LeO.ite ?_ ?_
   | refine LeO.bind ?_ (fun _ => ?_)
set_option maxHeartbeats 8000000 in
set_option maxRecDepth 100000 in
theorem cohousinglaw08_head.calls (k : Nat)  (r : Bool) (w : World) (hT : TabOk w) (h : cohousinglaw08_head.f k  = some r) :
  Calls Tryd.prog 10 #[] w fun e w' => e = .returned (.bool r) ∧ Below w.heap.size w w' := by
 have hu23 := Tryd.underlying23
 have HT := Aside0.mk hT
 clear hT
 have HB := Aside0.mk (Below.refl w.heap.size w)
 have H : ((group_Mul.f 4 9).bind fun bt171 => ((group_Exp.f 4 3).bind fun bt173 => ((group_Commit.f k 9 2 1).bind fun bt175 => ((group_Sign.f k 5 7 (([1, 2] : List Int))).bind fun bt180 => ((group_Verify.f k 1024 bt180.1 bt180.2.1 (([1, 2] : List Int))).bind fun bt187 => ((group_Same.f k 4 9 3 5).bind fun bt189 => ((group_Equal.f k 4 64 9 729 bt189.1 bt189.2.1).bind fun bt193 => (if bt171.2 = 0 then (if bt173.2 = 0 then (if bt175.2 = 0 then (if bt180.2.2 = 0 then (if bt187.2 = 0 then (if bt189.2.2 = 0 then (cohousinglaw08_head.j0 k bt171.1 bt173.1 bt175.1 bt187.1 bt193.1 (bt193.2 == 0)) else (cohousinglaw08_head.j0 k bt171.1 bt173.1 bt175.1 bt187.1 bt193.1 false)) else (cohousinglaw08_head.j0 k bt171.1 bt173.1 bt175.1 bt187.1 bt193.1 false)) else (cohousinglaw08_head.j0 k bt171.1 bt173.1 bt175.1 bt187.1 bt193.1 false)) else (cohousinglaw08_head.j0 k bt171.1 bt173.1 bt175.1 bt187.1 bt193.1 false)) else (cohousinglaw08_head.j0 k bt171.1 bt173.1 bt175.1 bt187.1 bt193.1 false)) else (cohousinglaw08_head.j0 k bt171.1 bt173.1 bt175.1 bt187.1 bt193.1 false))))))))) = some r := h
 clear h
 replace H := Option.bind_eq_some_iff.mp H
 obtain ⟨⟨t171, t172⟩, A10, H⟩ := H
 replace H : ((group_Exp.f 4 3).bind fun bt173 => ((group_Commit.f k 9 2 1).bind fun bt175 => ((group_Sign.f k 5 7 (([1, 2] : List Int))).bind fun bt180 => ((group_Verify.f k 1024 bt180.1 bt180.2.1 (([1, 2] : List Int))).bind fun bt187 => ((group_Same.f k 4 9 3 5).bind fun bt189 => ((group_Equal.f k 4 64 9 729 bt189.1 bt189.2.1).bind fun bt193 => (if t172 = 0 then (if bt173.2 = 0 then (if bt175.2 = 0 then (if bt180.2.2 = 0 then (if bt187.2 = 0 then (if bt189.2.2 = 0 then (cohousinglaw08_head.j0 k t171 bt173.1 bt175.1 bt187.1 bt193.1 (bt193.2 == 0)) else (cohousinglaw08_head.j0 k t171 bt173.1 bt175.1 bt187.1 bt193.1 false)) else (cohousinglaw08_head.j0 k t171 bt173.1 bt175.1 bt187.1 bt193.1 false)) else (cohousinglaw08_head.j0 k t171 bt173.1 bt175.1 bt187.1 bt193.1 false)) else (cohousinglaw08_head.j0 k t171 bt173.1 bt175.1 bt187.1 bt193.1 false)) else (cohousinglaw08_head.j0 k t171 bt173.1 bt175.1 bt187.1 bt193.1 false)) else (cohousinglaw08_head.j0 k t171 bt173.1 bt175.1 bt187.1 bt193.1 false)))))))) = some r := H
 have A1 := Aside0.mk A10
 clear A10
 replace H := Option.bind_eq_some_iff.mp H
 obtain ⟨⟨t173, t174⟩, A20, H⟩ := H
 replace H : ((group_Commit.f k 9 2 1).bind fun bt175 => ((group_Sign.f k 5 7 (([1, 2] : List Int))).bind fun bt180 => ((group_Verify.f k 1024 bt180.1 bt180.2.1 (([1, 2] : List Int))).bind fun bt187 => ((group_Same.f k 4 9 3 5).bind fun bt189 => ((group_Equal.f k 4 64 9 729 bt189.1 bt189.2.1).bind fun bt193 => (if t172 = 0 then (if t174 = 0 then (if bt175.2 = 0 then (if bt180.2.2 = 0 then (if bt187.2 = 0 then (if bt189.2.2 = 0 then (cohousinglaw08_head.j0 k t171 t173 bt175.1 bt187.1 bt193.1 (bt193.2 == 0)) else (cohousinglaw08_head.j0 k t171 t173 bt175.1 bt187.1 bt193.1 false)) else (cohousinglaw08_head.j0 k t171 t173 bt175.1 bt187.1 bt193.1 false)) else (cohousinglaw08_head.j0 k t171 t173 bt175.1 bt187.1 bt193.1 false)) else (cohousinglaw08_head.j0 k t171 t173 bt175.1 bt187.1 bt193.1 false)) else (cohousinglaw08_head.j0 k t171 t173 bt175.1 bt187.1 bt193.1 false)) else (cohousinglaw08_head.j0 k t171 t173 bt175.1 bt187.1 bt193.1 false))))))) = some r := H
 have A2 := Aside0.mk A20
 clear A20
 replace H := Option.bind_eq_some_iff.mp H
 obtain ⟨⟨t175, t176⟩, A30, H⟩ := H
 replace H : ((group_Sign.f k 5 7 (([1, 2] : List Int))).bind fun bt180 => ((group_Verify.f k 1024 bt180.1 bt180.2.1 (([1, 2] : List Int))).bind fun bt187 => ((group_Same.f k 4 9 3 5).bind fun bt189 => ((group_Equal.f k 4 64 9 729 bt189.1 bt189.2.1).bind fun bt193 => (if t172 = 0 then (if t174 = 0 then (if t176 = 0 then (if bt180.2.2 = 0 then (if bt187.2 = 0 then (if bt189.2.2 = 0 then (cohousinglaw08_head.j0 k t171 t173 t175 bt187.1 bt193.1 (bt193.2 == 0)) else (cohousinglaw08_head.j0 k t171 t173 t175 bt187.1 bt193.1 false)) else (cohousinglaw08_head.j0 k t171 t173 t175 bt187.1 bt193.1 false)) else (cohousinglaw08_head.j0 k t171 t173 t175 bt187.1 bt193.1 false)) else (cohousinglaw08_head.j0 k t171 t173 t175 bt187.1 bt193.1 false)) else (cohousinglaw08_head.j0 k t171 t173 t175 bt187.1 bt193.1 false)) else (cohousinglaw08_head.j0 k t171 t173 t175 bt187.1 bt193.1 false)))))) = some r := H
 have A3 := Aside0.mk A30
 clear A30
 obtain ⟨y177, hy177⟩ : ∃ y_ : List Int, y_ = (([1, 2] : List Int)) := ⟨_, rfl⟩
 replace H : ((group_Sign.f k 5 7 y177).bind fun bt180 => ((group_Verify.f k 1024 bt180.1 bt180.2.1 (([1, 2] : List Int))).bind fun bt187 => ((group_Same.f k 4 9 3 5).bind fun bt189 => ((group_Equal.f k 4 64 9 729 bt189.1 bt189.2.1).bind fun bt193 => (if t172 = 0 then (if t174 = 0 then (if t176 = 0 then (if bt180.2.2 = 0 then (if bt187.2 = 0 then (if bt189.2.2 = 0 then (cohousinglaw08_head.j0 k t171 t173 t175 bt187.1 bt193.1 (bt193.2 == 0)) else (cohousinglaw08_head.j0 k t171 t173 t175 bt187.1 bt193.1 false)) else (cohousinglaw08_head.j0 k t171 t173 t175 bt187.1 bt193.1 false)) else (cohousinglaw08_head.j0 k t171 t173 t175 bt187.1 bt193.1 false)) else (cohousinglaw08_head.j0 k t171 t173 t175 bt187.1 bt193.1 false)) else (cohousinglaw08_head.j0 k t171 t173 t175 bt187.1 bt193.1 false)) else (cohousinglaw08_head.j0 k t171 t173 t175 bt187.1 bt193.1 false)))))) = some r := by first | (rw [hy177]; with_reducible exact H) | (have H2_ := (Option.bind_some _ _).symm.trans H; rw [hy177]; with_reducible exact H2_) | (have H2_ := (Option.bind_some _ _).symm.trans H; with_reducible exact H2_) | with_reducible exact H | (rw [hy177]; exact H) | exact H
 have Ny177 := Aside0.mk hy177
 clear hy177
 replace H := Option.bind_eq_some_iff.mp H
 obtain ⟨⟨t180, t181, t182⟩, A40, H⟩ := H
 replace H : ((group_Verify.f k 1024 t180 t181 (([1, 2] : List Int))).bind fun bt187 => ((group_Same.f k 4 9 3 5).bind fun bt189 => ((group_Equal.f k 4 64 9 729 bt189.1 bt189.2.1).bind fun bt193 => (if t172 = 0 then (if t174 = 0 then (if t176 = 0 then (if t182 = 0 then (if bt187.2 = 0 then (if bt189.2.2 = 0 then (cohousinglaw08_head.j0 k t171 t173 t175 bt187.1 bt193.1 (bt193.2 == 0)) else (cohousinglaw08_head.j0 k t171 t173 t175 bt187.1 bt193.1 false)) else (cohousinglaw08_head.j0 k t171 t173 t175 bt187.1 bt193.1 false)) else (cohousinglaw08_head.j0 k t171 t173 t175 bt187.1 bt193.1 false)) else (cohousinglaw08_head.j0 k t171 t173 t175 bt187.1 bt193.1 false)) else (cohousinglaw08_head.j0 k t171 t173 t175 bt187.1 bt193.1 false)) else (cohousinglaw08_head.j0 k t171 t173 t175 bt187.1 bt193.1 false))))) = some r := H
 have A4 := Aside0.mk A40
 clear A40
 obtain ⟨y184, hy184⟩ : ∃ y_ : List Int, y_ = (([1, 2] : List Int)) := ⟨_, rfl⟩
 replace H : ((group_Verify.f k 1024 t180 t181 y184).bind fun bt187 => ((group_Same.f k 4 9 3 5).bind fun bt189 => ((group_Equal.f k 4 64 9 729 bt189.1 bt189.2.1).bind fun bt193 => (if t172 = 0 then (if t174 = 0 then (if t176 = 0 then (if t182 = 0 then (if bt187.2 = 0 then (if bt189.2.2 = 0 then (cohousinglaw08_head.j0 k t171 t173 t175 bt187.1 bt193.1 (bt193.2 == 0)) else (cohousinglaw08_head.j0 k t171 t173 t175 bt187.1 bt193.1 false)) else (cohousinglaw08_head.j0 k t171 t173 t175 bt187.1 bt193.1 false)) else (cohousinglaw08_head.j0 k t171 t173 t175 bt187.1 bt193.1 false)) else (cohousinglaw08_head.j0 k t171 t173 t175 bt187.1 bt193.1 false)) else (cohousinglaw08_head.j0 k t171 t173 t175 bt187.1 bt193.1 false)) else (cohousinglaw08_head.j0 k t171 t173 t175 bt187.1 bt193.1 false))))) = some r := by first | (rw [hy184]; with_reducible exact H) | (have H2_ := (Option.bind_some _ _).symm.trans H; rw [hy184]; with_reducible exact H2_) | (have H2_ := (Option.bind_some _ _).symm.trans H; with_reducible exact H2_) | with_reducible exact H | (rw [hy184]; exact H) | exact H
 have Ny184 := Aside0.mk hy184
 clear hy184
 replace H := Option.bind_eq_some_iff.mp H
 obtain ⟨⟨t187, t188⟩, A50, H⟩ := H
 replace H : ((group_Same.f k 4 9 3 5).bind fun bt189 => ((group_Equal.f k 4 64 9 729 bt189.1 bt189.2.1).bind fun bt193 => (if t172 = 0 then (if t174 = 0 then (if t176 = 0 then (if t182 = 0 then (if t188 = 0 then (if bt189.2.2 = 0 then (cohousinglaw08_head.j0 k t171 t173 t175 t187 bt193.1 (bt193.2 == 0)) else (cohousinglaw08_head.j0 k t171 t173 t175 t187 bt193.1 false)) else (cohousinglaw08_head.j0 k t171 t173 t175 t187 bt193.1 false)) else (cohousinglaw08_head.j0 k t171 t173 t175 t187 bt193.1 false)) else (cohousinglaw08_head.j0 k t171 t173 t175 t187 bt193.1 false)) else (cohousinglaw08_head.j0 k t171 t173 t175 t187 bt193.1 false)) else (cohousinglaw08_head.j0 k t171 t173 t175 t187 bt193.1 false)))) = some r := H
 have A5 := Aside0.mk A50
 clear A50
 replace H := Option.bind_eq_some_iff.mp H
 obtain ⟨⟨t189, t190, t191⟩, A60, H⟩ := H
 replace H : ((group_Equal.f k 4 64 9 729 t189 t190).bind fun bt193 => (if t172 = 0 then (if t174 = 0 then (if t176 = 0 then (if t182 = 0 then (if t188 = 0 then (if t191 = 0 then (cohousinglaw08_head.j0 k t171 t173 t175 t187 bt193.1 (bt193.2 == 0)) else (cohousinglaw08_head.j0 k t171 t173 t175 t187 bt193.1 false)) else (cohousinglaw08_head.j0 k t171 t173 t175 t187 bt193.1 false)) else (cohousinglaw08_head.j0 k t171 t173 t175 t187 bt193.1 false)) else (cohousinglaw08_head.j0 k t171 t173 t175 t187 bt193.1 false)) else (cohousinglaw08_head.j0 k t171 t173 t175 t187 bt193.1 false)) else (cohousinglaw08_head.j0 k t171 t173 t175 t187 bt193.1 false))) = some r := H
 have A6 := Aside0.mk A60
 clear A60
 replace H := Option.bind_eq_some_iff.mp H
 obtain ⟨⟨t193, t194⟩, A70, H⟩ := H
 replace H : (if t172 = 0 then (if t174 = 0 then (if t176 = 0 then (if t182 = 0 then (if t188 = 0 then (if t191 = 0 then (cohousinglaw08_head.j0 k t171 t173 t175 t187 t193 (t194 == 0)) else (cohousinglaw08_head.j0 k t171 t173 t175 t187 t193 false)) else (cohousinglaw08_head.j0 k t171 t173 t175 t187 t193 false)) else (cohousinglaw08_head.j0 k t171 t173 t175 t187 t193 false)) else (cohousinglaw08_head.j0 k t171 t173 t175 t187 t193 false)) else (cohousinglaw08_head.j0 k t171 t173 t175 t187 t193 false)) else (cohousinglaw08_head.j0 k t171 t173 t175 t187 t193 false)) = some r := H
 have A7 := Aside0.mk A70
 clear A70
 have HC8 := Aside0.mk H
 clear H
 go_enter Tryd.func10, Tryd.ntmps10
 go_upto_region 8 with (first | ((with_reducible refine gate_callee (f := 12) rfl ?_); refine goesL_ (some 17) rfl rfl Tryd.func12 (by kernel_rfl) rfl #[.int .i64 4, .int .i64 9] rfl (by (try simp only [List.map_toArray, List.map_cons, List.map_nil]); first | done | rfl | (simp only [List.length_drop, List.length_take]; rfl)) ?_; (with_reducible refine (group_Mul.calls 4 9 t171 t172 _ A1.out).mono ?_); rintro e w9 ⟨rfl, hb⟩; refine ⟨_, rfl, ?_⟩; have n0_ := Aside0.mk (below_step (by repeat (first | (with_reducible first | exact HB.out | apply below_alloc | apply pw_below_drewN | apply below_drew1) | exact HB.out)) hb); clear HB; have HB := n0_; clear n0_; (try clear hb); (try clear hb2); (try clear hk); (try clear hi)) | ((with_reducible refine gate_callee (f := 16) rfl ?_); refine goesL_ (some 21) rfl rfl Tryd.func16 (by kernel_rfl) rfl #[.int .i64 4, .int .i64 3] rfl (by (try simp only [List.map_toArray, List.map_cons, List.map_nil]); first | done | rfl | (simp only [List.length_drop, List.length_take]; rfl)) ?_; (with_reducible refine (group_Exp.calls 4 3 t173 t174 _ A2.out).mono ?_); rintro e w10 ⟨rfl, hb⟩; refine ⟨_, rfl, ?_⟩; have n0_ := Aside0.mk (below_step (by repeat (first | (with_reducible first | exact HB.out | apply below_alloc | apply pw_below_drewN | apply below_drew1) | exact HB.out)) hb); clear HB; have HB := n0_; clear n0_; (try clear hb); (try clear hb2); (try clear hk); (try clear hi)) | ((with_reducible refine gate_callee (f := 18) rfl ?_); refine goesL_ (some 25) rfl rfl Tryd.func18 (by kernel_rfl) rfl #[.int .i64 9, .int .i64 2, .int .i64 1] rfl (by (try simp only [List.map_toArray, List.map_cons, List.map_nil]); first | done | rfl | (simp only [List.length_drop, List.length_take]; rfl)) ?_; (with_reducible refine (group_Commit.calls k 9 2 1 t175 t176 _ A3.out).mono ?_); rintro e w11 ⟨rfl, hb⟩; refine ⟨_, rfl, ?_⟩; have n0_ := Aside0.mk (below_step (by repeat (first | (with_reducible first | exact HB.out | apply below_alloc | apply pw_below_drewN | apply below_drew1) | exact HB.out)) hb); clear HB; have HB := n0_; clear n0_; (try clear hb); (try clear hb2); (try clear hk); (try clear hi)) | ((with_reducible refine gate_dst (N := 29) rfl ?_); refine Kd.R_lit (Kd.int .i64) _ 3 ?hg (N := 29) ?hd (xs := ([1, 2] : List Int)) (inner := [.int .i64 1, .int .i64 2]) (ok := fun _ => True) (okp := fun _ => True) ?hr ?hp (fun _ hk => hk) trivial (Below.refl _ _) (Nat.le_refl _) (by simp) ?_; (case hd => rfl); (case hg => rfl); (case hr => first | (go_simp; done) | (go_simp; rfl)); (case hp => exact (Reps.one (show Kd.M (Kd.int .i64) _ _ _ 1 [.int .i64 1] from rfl) (Reps.one (show Kd.M (Kd.int .i64) _ _ _ 2 [.int .i64 2] from rfl) (Reps.none _ _)))); intro v178 w12 ho13 hb hg_ hnew_; clear hg_ hnew_; (first | rw [← Ny177.out] at ho13 | (simp only [Int.reduceToNat] at ho13; rw [← Ny177.out] at ho13)); have n0_ := Aside0.mk (Kd.R_lower ho13 (below_size (by repeat (first | (with_reducible first | exact HB.out | apply below_alloc | apply pw_below_drewN | apply below_drew1) | exact HB.out)))); have n1_ := Aside0.mk (below_step (by repeat (first | (with_reducible first | exact HB.out | apply below_alloc | apply pw_below_drewN | apply below_drew1) | exact HB.out)) hb); clear HB; have HO179 := n0_; have HB := n1_; clear n0_ n1_; clear hb ho13; obtain ⟨Ao14, co14, eo14⟩ := Kd.R_slice HO179.out; subst eo14) | ((with_reducible refine gate_callee (f := 20) rfl ?_); refine goesL_ (some 30) rfl rfl Tryd.func20 (by kernel_rfl) rfl #[.int .i64 5, .int .i64 7, .slice Ao14 y177.length co14] rfl (by (try simp only [List.map_toArray, List.map_cons, List.map_nil]); first | done | rfl | (simp only [List.length_drop, List.length_take]; rfl)) ?_; (with_reducible refine (group_Sign.calls k 5 7 _ _ y177 t180 t181 t182 _ ?side1 ?side2 ?side3 A4.out).mono ?_); (case side1 => repeat (first | exact (Kd.R_reads' HO179.out).2.2 | (with_reducible refine Kd.C_alloc ?_ _) | (with_reducible refine Kd.C_drewN ?_ _) | (with_reducible refine Kd.C_drew ?_))); (case side2 => exact (Kd.R_reads' HO179.out).2.1); (case side3 => exact TabOk.below HT.out (by repeat (first | (with_reducible first | exact HB.out | apply below_alloc | apply pw_below_drewN | apply below_drew1) | exact HB.out))); rintro e w15 ⟨rfl, hb⟩; refine ⟨_, rfl, ?_⟩; have n0_ := Aside0.mk (Kd.R_below (by (with_reducible repeat (first | apply Kd.R_alloc | apply Kd.R_drewN | apply Kd.R_drew)); exact HO179.out) hb); have n1_ := Aside0.mk (below_step (by repeat (first | (with_reducible first | exact HB.out | apply below_alloc | apply pw_below_drewN | apply below_drew1) | exact HB.out)) hb); clear HO179; clear HB; have HO179 := n0_; have HB := n1_; clear n0_ n1_; (try clear hb); (try clear hb2); (try clear hk); (try clear hi)) | ((with_reducible refine gate_dst (N := 7) rfl ?_); refine box_event ?hg (N := 7) ?hd (cs := #[.int .i64 0, .int .i64 0]) (t := 23) ?hr ?_; (case hd => rfl); (case hg => rfl); (case hr => first | (go_simp; done) | (go_simp; rfl)); intro gb183 hg w16 hbox hb; have n0_ := Aside0.mk (Kd.R_below (by (with_reducible repeat (first | apply Kd.R_alloc | apply Kd.R_drewN | apply Kd.R_drew)); exact HO179.out) hb); have n1_ := Aside0.mk (below_step (by repeat (first | (with_reducible first | exact HB.out | apply below_alloc | apply pw_below_drewN | apply below_drew1) | exact HB.out)) hb); have n2_ := Aside0.mk (hbox); have n3_ := Aside0.mk ((by rw [hg]; exact (below_size (by repeat (first | (with_reducible first | exact HB.out | apply below_alloc | apply pw_below_drewN | apply below_drew1) | exact HB.out))) : w.heap.size ≤ gb183)); have n4_ := Aside0.mk ((by rw [hg]; exact (below_size (by repeat (first | (with_reducible first | exact HB.out | apply below_alloc | apply pw_below_drewN | apply below_drew1) | exact HB.out))) : w.heap.size ≤ gb183)); clear HO179; clear HB; have HO179 := n0_; have HB := n1_; have BK183 := n2_; have GW183 := n3_; have GE183 := n4_; clear n0_ n1_ n2_ n3_ n4_; clear hb hbox hg; have hcz17_0 : w16.cell? ⟨gb183, 0, none⟩ = some (.int .i64 0) := (blk_cell BK183.out 0).trans rfl; have hcz17_1 : w16.cell? ⟨gb183, 1, none⟩ = some (.int .i64 0) := (blk_cell BK183.out 1).trans rfl; have hfz17_0 := blk_frozen BK183.out 0; have hfz17_1 := blk_frozen BK183.out 1) | ((with_reducible refine gate_dst (N := 35) rfl ?_); refine Kd.R_lit (Kd.int .i64) _ 3 ?hg (N := 35) ?hd (xs := ([1, 2] : List Int)) (inner := [.int .i64 1, .int .i64 2]) (ok := fun _ => True) (okp := fun _ => True) ?hr ?hp (fun _ hk => hk) trivial (Below.refl _ _) (Nat.le_refl _) (by simp) ?_; (case hd => rfl); (case hg => rfl); (case hr => first | (go_simp; done) | (go_simp; rfl)); (case hp => exact (Reps.one (show Kd.M (Kd.int .i64) _ _ _ 1 [.int .i64 1] from rfl) (Reps.one (show Kd.M (Kd.int .i64) _ _ _ 2 [.int .i64 2] from rfl) (Reps.none _ _)))); intro v185 w18 ho19 hb hg_ hnew_; clear hg_ hnew_; (first | rw [← Ny184.out] at ho19 | (simp only [Int.reduceToNat] at ho19; rw [← Ny184.out] at ho19)); have n0_ := Aside0.mk (Kd.R_elder' (by (with_reducible repeat (first | apply Kd.R_alloc | apply Kd.R_drewN | apply Kd.R_drew)); exact (Kd.R_mono (Kd.R_far (p := ⟨gb183, 1, none⟩) (Kd.R_far (p := ⟨gb183, 0, none⟩) (Kd.R_types HO179.out BK183.out (by decide)) (fun _ hk => hk.2) (.int .i64 t180)) (fun _ hk => hk.2) (.int .i64 t181)) (fun _ h_ => h_.1))) (Kd.R_base ho19) hb); have n1_ := Aside0.mk (Kd.R_lower (Kd.R_new' ho19 (Kd.R_lt (by (with_reducible repeat (first | apply Kd.R_alloc | apply Kd.R_drewN | apply Kd.R_drew)); exact (Kd.R_mono (Kd.R_far (p := ⟨gb183, 1, none⟩) (Kd.R_far (p := ⟨gb183, 0, none⟩) (Kd.R_types HO179.out BK183.out (by decide)) (fun _ hk => hk.2) (.int .i64 t180)) (fun _ hk => hk.2) (.int .i64 t181)) (fun _ h_ => h_.1))))) (below_size (by repeat (first | (with_reducible first | exact HB.out | apply below_alloc | apply pw_below_drewN | apply below_drew1 | refine below_set ?_ GE183.out) | exact HB.out)))); have n2_ := Aside0.mk (blk_below (g := gb183) (o := .cells #[.int .i64 t180, .int .i64 t181] 23 (0, 0)) (by (with_reducible repeat (first | refine blk_drewN ?_ _ | refine blk_drew ?_ | refine blk_alloc ?_ _)); refine blk_put (cs := #[.int .i64 t180, .int .i64 0]) ?_ 1 _ rfl; (with_reducible repeat (first | refine blk_drewN ?_ _ | refine blk_drew ?_ | refine blk_alloc ?_ _)); refine blk_put (cs := #[.int .i64 0, .int .i64 0]) ?_ 0 _ rfl; (with_reducible repeat (first | refine blk_drewN ?_ _ | refine blk_drew ?_ | refine blk_alloc ?_ _)); exact BK183.out) hb); have n3_ := Aside0.mk (below_step (by repeat (first | (with_reducible first | exact HB.out | apply below_alloc | apply pw_below_drewN | apply below_drew1 | refine below_set ?_ GE183.out) | exact HB.out)) hb); clear HO179; clear BK183; clear HB; have HO179 := n0_; have HO186 := n1_; have BK183 := n2_; have HB := n3_; clear n0_ n1_ n2_ n3_; clear hb ho19; obtain ⟨Ao20, co20, eo20⟩ := Kd.R_slice HO186.out; subst eo20) | ((with_reducible refine gate_callee (f := 22) rfl ?_); refine goesL_ (some 36) rfl rfl Tryd.func22 (by kernel_rfl) rfl #[.int .i64 1024, .agg #[.int .i64 t180, .int .i64 t181], .slice Ao20 y184.length co20] rfl (by (try simp only [List.map_toArray, List.map_cons, List.map_nil]); first | done | rfl | (simp only [List.length_drop, List.length_take]; rfl)) ?_; (with_reducible refine (group_Verify.calls k 1024 t180 t181 _ _ y184 t187 t188 _ ?side1 ?side2 ?side3 A5.out).mono ?_); (case side1 => repeat (first | exact (Kd.R_reads' HO186.out).2.2 | (with_reducible refine Kd.C_alloc ?_ _) | (with_reducible refine Kd.C_drewN ?_ _) | (with_reducible refine Kd.C_drew ?_))); (case side2 => exact (Kd.R_reads' HO186.out).2.1); (case side3 => exact TabOk.below HT.out (by repeat (first | (with_reducible first | exact HB.out | apply below_alloc | apply pw_below_drewN | apply below_drew1 | refine below_set ?_ GE183.out) | exact HB.out))); rintro e w21 ⟨rfl, hb⟩; refine ⟨_, rfl, ?_⟩; have n0_ := Aside0.mk (Kd.R_below (by (with_reducible repeat (first | apply Kd.R_alloc | apply Kd.R_drewN | apply Kd.R_drew)); exact HO179.out) hb); have n1_ := Aside0.mk (Kd.R_below (by (with_reducible repeat (first | apply Kd.R_alloc | apply Kd.R_drewN | apply Kd.R_drew)); exact HO186.out) hb); have n2_ := Aside0.mk (blk_below (g := gb183) (o := .cells #[.int .i64 t180, .int .i64 t181] 23 (0, 0)) (by (with_reducible repeat (first | refine blk_drewN ?_ _ | refine blk_drew ?_ | refine blk_alloc ?_ _)); exact BK183.out) hb); have n3_ := Aside0.mk (below_step (by repeat (first | (with_reducible first | exact HB.out | apply below_alloc | apply pw_below_drewN | apply below_drew1 | refine below_set ?_ GE183.out) | exact HB.out)) hb); clear HO179; clear HO186; clear BK183; clear HB; have HO179 := n0_; have HO186 := n1_; have BK183 := n2_; have HB := n3_; clear n0_ n1_ n2_ n3_; (try clear hb); (try clear hb2); (try clear hk); (try clear hi)) | ((with_reducible refine gate_callee (f := 24) rfl ?_); refine goesL_ (some 40) rfl rfl Tryd.func24 (by kernel_rfl) rfl #[.int .i64 4, .int .i64 9, .int .i64 3, .int .i64 5] rfl (by (try simp only [List.map_toArray, List.map_cons, List.map_nil]); first | done | rfl | (simp only [List.length_drop, List.length_take]; rfl)) ?_; (with_reducible refine (group_Same.calls k 4 9 3 5 t189 t190 t191 _ ?side1 A6.out).mono ?_); (case side1 => exact TabOk.below HT.out (by repeat (first | (with_reducible first | exact HB.out | apply below_alloc | apply pw_below_drewN | apply below_drew1 | refine below_set ?_ GE183.out) | exact HB.out))); rintro e w22 ⟨rfl, hb⟩; refine ⟨_, rfl, ?_⟩; have n0_ := Aside0.mk (Kd.R_below (by (with_reducible repeat (first | apply Kd.R_alloc | apply Kd.R_drewN | apply Kd.R_drew)); exact HO179.out) hb); have n1_ := Aside0.mk (Kd.R_below (by (with_reducible repeat (first | apply Kd.R_alloc | apply Kd.R_drewN | apply Kd.R_drew)); exact HO186.out) hb); have n2_ := Aside0.mk (blk_below (g := gb183) (o := .cells #[.int .i64 t180, .int .i64 t181] 23 (0, 0)) (by (with_reducible repeat (first | refine blk_drewN ?_ _ | refine blk_drew ?_ | refine blk_alloc ?_ _)); exact BK183.out) hb); have n3_ := Aside0.mk (below_step (by repeat (first | (with_reducible first | exact HB.out | apply below_alloc | apply pw_below_drewN | apply below_drew1 | refine below_set ?_ GE183.out) | exact HB.out)) hb); clear HO179; clear HO186; clear BK183; clear HB; have HO179 := n0_; have HO186 := n1_; have BK183 := n2_; have HB := n3_; clear n0_ n1_ n2_ n3_; (try clear hb); (try clear hb2); (try clear hk); (try clear hi)) | ((with_reducible refine gate_dst (N := 11) rfl ?_); refine box_event ?hg (N := 11) ?hd (cs := #[.int .i64 0, .int .i64 0]) (t := 23) ?hr ?_; (case hd => rfl); (case hg => rfl); (case hr => first | (go_simp; done) | (go_simp; rfl)); intro gb192 hg w23 hbox hb; have n0_ := Aside0.mk (Kd.R_below (by (with_reducible repeat (first | apply Kd.R_alloc | apply Kd.R_drewN | apply Kd.R_drew)); exact HO179.out) hb); have n1_ := Aside0.mk (Kd.R_below (by (with_reducible repeat (first | apply Kd.R_alloc | apply Kd.R_drewN | apply Kd.R_drew)); exact HO186.out) hb); have n2_ := Aside0.mk (blk_below (g := gb183) (o := .cells #[.int .i64 t180, .int .i64 t181] 23 (0, 0)) (by (with_reducible repeat (first | refine blk_drewN ?_ _ | refine blk_drew ?_ | refine blk_alloc ?_ _)); exact BK183.out) hb); have n3_ := Aside0.mk (below_step (by repeat (first | (with_reducible first | exact HB.out | apply below_alloc | apply pw_below_drewN | apply below_drew1 | refine below_set ?_ GE183.out) | exact HB.out)) hb); have n4_ := Aside0.mk (hbox); have n5_ := Aside0.mk ((by rw [hg]; exact (below_size (by repeat (first | (with_reducible first | exact HB.out | apply below_alloc | apply pw_below_drewN | apply below_drew1 | refine below_set ?_ GE183.out) | exact HB.out))) : w.heap.size ≤ gb192)); have n6_ := Aside0.mk ((by rw [hg]; exact (below_size (by repeat (first | (with_reducible first | exact HB.out | apply below_alloc | apply pw_below_drewN | apply below_drew1 | refine below_set ?_ GE183.out) | exact HB.out))) : w.heap.size ≤ gb192)); have n7_ := Aside0.mk ((by rw [hg]; exact Nat.ne_of_lt (blk_lt (g := gb183) (o := .cells #[.int .i64 t180, .int .i64 t181] 23 (0, 0)) (by (with_reducible repeat (first | refine blk_drewN ?_ _ | refine blk_drew ?_ | refine blk_alloc ?_ _)); exact BK183.out)) : gb183 ≠ gb192)); have n8_ := Aside0.mk ((by rw [hg]; exact Nat.ne_of_gt (blk_lt (g := gb183) (o := .cells #[.int .i64 t180, .int .i64 t181] 23 (0, 0)) (by (with_reducible repeat (first | refine blk_drewN ?_ _ | refine blk_drew ?_ | refine blk_alloc ?_ _)); exact BK183.out)) : gb192 ≠ gb183)); clear HO179; clear HO186; clear BK183; clear HB; have HO179 := n0_; have HO186 := n1_; have BK183 := n2_; have HB := n3_; have BK192 := n4_; have GW192 := n5_; have GE192 := n6_; have NB183_192 := n7_; have NB192_183 := n8_; clear n0_ n1_ n2_ n3_ n4_ n5_ n6_ n7_ n8_; clear hb hbox hg; have hnb24 := NB192_183.out; have hnc24 := NB183_192.out; have hcz25_0 : w23.cell? ⟨gb192, 0, none⟩ = some (.int .i64 0) := (blk_cell BK192.out 0).trans rfl; have hcz25_1 : w23.cell? ⟨gb192, 1, none⟩ = some (.int .i64 0) := (blk_cell BK192.out 1).trans rfl; have hfz25_0 := blk_frozen BK192.out 0; have hfz25_1 := blk_frozen BK192.out 1) | ((with_reducible refine gate_callee (f := 26) rfl ?_); refine goesL_ (some 45) rfl rfl Tryd.func26 (by kernel_rfl) rfl #[.int .i64 4, .int .i64 64, .int .i64 9, .int .i64 729, .agg #[.int .i64 t189, .int .i64 t190]] rfl (by (try simp only [List.map_toArray, List.map_cons, List.map_nil]); first | done | rfl | (simp only [List.length_drop, List.length_take]; rfl)) ?_; (with_reducible refine (group_Equal.calls k 4 64 9 729 t189 t190 t193 t194 _ ?side1 A7.out).mono ?_); (case side1 => exact TabOk.below HT.out (by repeat (first | (with_reducible first | exact HB.out | apply below_alloc | apply pw_below_drewN | apply below_drew1 | refine below_set ?_ GE183.out | refine below_set ?_ GE192.out) | exact HB.out))); rintro e w26 ⟨rfl, hb⟩; refine ⟨_, rfl, ?_⟩; have n0_ := Aside0.mk (Kd.R_below (by (with_reducible repeat (first | apply Kd.R_alloc | apply Kd.R_drewN | apply Kd.R_drew)); exact (Kd.R_mono (Kd.R_far (p := ⟨gb192, 1, none⟩) (Kd.R_far (p := ⟨gb192, 0, none⟩) (Kd.R_types HO179.out BK192.out (by decide)) (fun _ hk => hk.2) (.int .i64 t189)) (fun _ hk => hk.2) (.int .i64 t190)) (fun _ h_ => h_.1))) hb); have n1_ := Aside0.mk (Kd.R_below (by (with_reducible repeat (first | apply Kd.R_alloc | apply Kd.R_drewN | apply Kd.R_drew)); exact (Kd.R_mono (Kd.R_far (p := ⟨gb192, 1, none⟩) (Kd.R_far (p := ⟨gb192, 0, none⟩) (Kd.R_types HO186.out BK192.out (by decide)) (fun _ hk => hk.2) (.int .i64 t189)) (fun _ hk => hk.2) (.int .i64 t190)) (fun _ h_ => h_.1))) hb); have n2_ := Aside0.mk (blk_below (g := gb183) (o := .cells #[.int .i64 t180, .int .i64 t181] 23 (0, 0)) (by (with_reducible repeat (first | refine blk_drewN ?_ _ | refine blk_drew ?_ | refine blk_alloc ?_ _)); refine blk_far ?_ NB183_192.out _; (with_reducible repeat (first | refine blk_drewN ?_ _ | refine blk_drew ?_ | refine blk_alloc ?_ _)); refine blk_far ?_ NB183_192.out _; (with_reducible repeat (first | refine blk_drewN ?_ _ | refine blk_drew ?_ | refine blk_alloc ?_ _)); exact BK183.out) hb); have n3_ := Aside0.mk (blk_below (g := gb192) (o := .cells #[.int .i64 t189, .int .i64 t190] 23 (0, 0)) (by (with_reducible repeat (first | refine blk_drewN ?_ _ | refine blk_drew ?_ | refine blk_alloc ?_ _)); refine blk_put (cs := #[.int .i64 t189, .int .i64 0]) ?_ 1 _ rfl; (with_reducible repeat (first | refine blk_drewN ?_ _ | refine blk_drew ?_ | refine blk_alloc ?_ _)); refine blk_put (cs := #[.int .i64 0, .int .i64 0]) ?_ 0 _ rfl; (with_reducible repeat (first | refine blk_drewN ?_ _ | refine blk_drew ?_ | refine blk_alloc ?_ _)); exact BK192.out) hb); have n4_ := Aside0.mk (below_step (by repeat (first | (with_reducible first | exact HB.out | apply below_alloc | apply pw_below_drewN | apply below_drew1 | refine below_set ?_ GE183.out | refine below_set ?_ GE192.out) | exact HB.out)) hb); clear HO179; clear HO186; clear BK183; clear BK192; clear HB; have HO179 := n0_; have HO186 := n1_; have BK183 := n2_; have BK192 := n3_; have HB := n4_; clear n0_ n1_ n2_ n3_ n4_; (try clear hb); (try clear hb2); (try clear hk); (try clear hi)))
 (try simp only [Act.put, List.setIfInBounds_toArray, List.set_cons_zero, List.set_cons_succ])
 go_cut [15] (fun v15 wc => ∃ (kq : Nat) (x15_7 : Bool), v15 = .bool x15_7 ∧ Aside0 (cohousinglaw08_head.j0 kq t171 t173 t175 t187 t193 x15_7 = some r) ∧ Aside0 (kq ≤ k) ∧ Aside0 (wc.heap[gb183]? = some (.cells #[.int .i64 t180, .int .i64 t181] 23 (0, 0))) ∧ Aside0 (wc.heap[gb192]? = some (.cells #[.int .i64 t189, .int .i64 t190] 23 (0, 0))) ∧ Aside0 (Below w.heap.size w wc))
 case first =>
  have H := HC8.out
  clear HC8
  by_cases c27 : t172 = 0
  ·rw [if_pos c27] at H
   have c27b0 : (t172 == 0) = true := beq_iff_eq.mpr c27
   have c27b1 : (t172 != 0) = false := bne_eq_false_iff_eq.mpr c27
   clear c27
   (first | rw [c27b0] | (simp only [i64_w, i32_w]; rw [c27b0]) | skip)
   by_cases c28 : t174 = 0
   ·rw [if_pos c28] at H
    have c28b0 : (t174 == 0) = true := beq_iff_eq.mpr c28
    have c28b1 : (t174 != 0) = false := bne_eq_false_iff_eq.mpr c28
    clear c28
    by_cases c29 : t176 = 0
    ·rw [if_pos c29] at H
     have c29b0 : (t176 == 0) = true := beq_iff_eq.mpr c29
     have c29b1 : (t176 != 0) = false := bne_eq_false_iff_eq.mpr c29
     clear c29
     by_cases c30 : t182 = 0
     ·rw [if_pos c30] at H
      have c30b0 : (t182 == 0) = true := beq_iff_eq.mpr c30
      have c30b1 : (t182 != 0) = false := bne_eq_false_iff_eq.mpr c30
      clear c30
      by_cases c31 : t188 = 0
      ·rw [if_pos c31] at H
       have c31b0 : (t188 == 0) = true := beq_iff_eq.mpr c31
       have c31b1 : (t188 != 0) = false := bne_eq_false_iff_eq.mpr c31
       clear c31
       by_cases c32 : t191 = 0
       ·rw [if_pos c32] at H
        have c32b0 : (t191 == 0) = true := beq_iff_eq.mpr c32
        have c32b1 : (t191 != 0) = false := bne_eq_false_iff_eq.mpr c32
        clear c32
        have H' := Aside0.mk H
        clear H
        go_wp2
        go_meet
        case rel => exact ⟨_, ((t194 == 0)), (by first | rfl | (simp; done) | (simp [*]; done)), H', ⟨by first | omega | exact Nat.le_refl _⟩, ⟨by (with_reducible repeat (first | refine blk_drewN ?_ _ | refine blk_drew ?_ | refine blk_alloc ?_ _)); exact BK183.out⟩, ⟨by (with_reducible repeat (first | refine blk_drewN ?_ _ | refine blk_drew ?_ | refine blk_alloc ?_ _)); exact BK192.out⟩, ⟨by repeat (first | (with_reducible first | exact HB.out | apply below_alloc | apply pw_below_drewN | apply below_drew1 | refine below_set ?_ GE183.out | refine below_set ?_ GE192.out) | exact HB.out)⟩⟩
       ·rw [if_neg c32] at H
        have c32b0 : (t191 == 0) = false := beq_eq_false_iff_ne.mpr c32
        have c32b1 : (t191 != 0) = true := bne_iff_ne.mpr c32
        have H' := Aside0.mk H
        clear H
        go_wp2
        go_meet
        case rel => exact ⟨_, (false), (by first | rfl | (simp; done) | (simp [*]; done)), H', ⟨by first | omega | exact Nat.le_refl _⟩, ⟨by (with_reducible repeat (first | refine blk_drewN ?_ _ | refine blk_drew ?_ | refine blk_alloc ?_ _)); exact BK183.out⟩, ⟨by (with_reducible repeat (first | refine blk_drewN ?_ _ | refine blk_drew ?_ | refine blk_alloc ?_ _)); exact BK192.out⟩, ⟨by repeat (first | (with_reducible first | exact HB.out | apply below_alloc | apply pw_below_drewN | apply below_drew1 | refine below_set ?_ GE183.out | refine below_set ?_ GE192.out) | exact HB.out)⟩⟩
      ·rw [if_neg c31] at H
       have c31b0 : (t188 == 0) = false := beq_eq_false_iff_ne.mpr c31
       have c31b1 : (t188 != 0) = true := bne_iff_ne.mpr c31
       have H' := Aside0.mk H
       clear H
       go_wp2
       go_meet
       case rel => exact ⟨_, (false), (by first | rfl | (simp; done) | (simp [*]; done)), H', ⟨by first | omega | exact Nat.le_refl _⟩, ⟨by (with_reducible repeat (first | refine blk_drewN ?_ _ | refine blk_drew ?_ | refine blk_alloc ?_ _)); exact BK183.out⟩, ⟨by (with_reducible repeat (first | refine blk_drewN ?_ _ | refine blk_drew ?_ | refine blk_alloc ?_ _)); exact BK192.out⟩, ⟨by repeat (first | (with_reducible first | exact HB.out | apply below_alloc | apply pw_below_drewN | apply below_drew1 | refine below_set ?_ GE183.out | refine below_set ?_ GE192.out) | exact HB.out)⟩⟩
     ·rw [if_neg c30] at H
      have c30b0 : (t182 == 0) = false := beq_eq_false_iff_ne.mpr c30
      have c30b1 : (t182 != 0) = true := bne_iff_ne.mpr c30
      have H' := Aside0.mk H
      clear H
      go_wp2
      go_meet
      case rel => exact ⟨_, (false), (by first | rfl | (simp; done) | (simp [*]; done)), H', ⟨by first | omega | exact Nat.le_refl _⟩, ⟨by (with_reducible repeat (first | refine blk_drewN ?_ _ | refine blk_drew ?_ | refine blk_alloc ?_ _)); exact BK183.out⟩, ⟨by (with_reducible repeat (first | refine blk_drewN ?_ _ | refine blk_drew ?_ | refine blk_alloc ?_ _)); exact BK192.out⟩, ⟨by repeat (first | (with_reducible first | exact HB.out | apply below_alloc | apply pw_below_drewN | apply below_drew1 | refine below_set ?_ GE183.out | refine below_set ?_ GE192.out) | exact HB.out)⟩⟩
    ·rw [if_neg c29] at H
     have c29b0 : (t176 == 0) = false := beq_eq_false_iff_ne.mpr c29
     have c29b1 : (t176 != 0) = true := bne_iff_ne.mpr c29
     have H' := Aside0.mk H
     clear H
     go_wp2
     go_meet
     case rel => exact ⟨_, (false), (by first | rfl | (simp; done) | (simp [*]; done)), H', ⟨by first | omega | exact Nat.le_refl _⟩, ⟨by (with_reducible repeat (first | refine blk_drewN ?_ _ | refine blk_drew ?_ | refine blk_alloc ?_ _)); exact BK183.out⟩, ⟨by (with_reducible repeat (first | refine blk_drewN ?_ _ | refine blk_drew ?_ | refine blk_alloc ?_ _)); exact BK192.out⟩, ⟨by repeat (first | (with_reducible first | exact HB.out | apply below_alloc | apply pw_below_drewN | apply below_drew1 | refine below_set ?_ GE183.out | refine below_set ?_ GE192.out) | exact HB.out)⟩⟩
   ·rw [if_neg c28] at H
    have c28b0 : (t174 == 0) = false := beq_eq_false_iff_ne.mpr c28
    have c28b1 : (t174 != 0) = true := bne_iff_ne.mpr c28
    have H' := Aside0.mk H
    clear H
    go_wp2
    go_meet
    case rel => exact ⟨_, (false), (by first | rfl | (simp; done) | (simp [*]; done)), H', ⟨by first | omega | exact Nat.le_refl _⟩, ⟨by (with_reducible repeat (first | refine blk_drewN ?_ _ | refine blk_drew ?_ | refine blk_alloc ?_ _)); exact BK183.out⟩, ⟨by (with_reducible repeat (first | refine blk_drewN ?_ _ | refine blk_drew ?_ | refine blk_alloc ?_ _)); exact BK192.out⟩, ⟨by repeat (first | (with_reducible first | exact HB.out | apply below_alloc | apply pw_below_drewN | apply below_drew1 | refine below_set ?_ GE183.out | refine below_set ?_ GE192.out) | exact HB.out)⟩⟩
  ·rw [if_neg c27] at H
   have c27b0 : (t172 == 0) = false := beq_eq_false_iff_ne.mpr c27
   have c27b1 : (t172 != 0) = true := bne_iff_ne.mpr c27
   (first | rw [c27b0] | (simp only [i64_w, i32_w]; rw [c27b0]) | skip)
   have H' := Aside0.mk H
   clear H
   go_wp2
   go_meet
   case rel => exact ⟨_, (false), (by first | rfl | (simp; done) | (simp [*]; done)), H', ⟨by first | omega | exact Nat.le_refl _⟩, ⟨by (with_reducible repeat (first | refine blk_drewN ?_ _ | refine blk_drew ?_ | refine blk_alloc ?_ _)); exact BK183.out⟩, ⟨by (with_reducible repeat (first | refine blk_drewN ?_ _ | refine blk_drew ?_ | refine blk_alloc ?_ _)); exact BK192.out⟩, ⟨by repeat (first | (with_reducible first | exact HB.out | apply below_alloc | apply pw_below_drewN | apply below_drew1 | refine below_set ?_ GE183.out | refine below_set ?_ GE192.out) | exact HB.out)⟩⟩
 case rest =>
  clear HC8
  try clear c1
  try clear c2
  try clear p2
  try clear c3
  try clear c10
  try clear c12
  try clear c16
  try clear c18
  try clear c20
  try clear c22
  try clear c24
  try clear c26
  try clear c27
  try clear c27b0
  try clear c27b1
  try clear c28
  try clear c28b0
  try clear c28b1
  try clear c29
  try clear c29b0
  try clear c29b1
  try clear c30
  try clear c30b0
  try clear c30b1
  try clear c31
  try clear c31b0
  try clear c31b1
  try clear c32
  try clear c32b0
  try clear c32b1
  try clear hcz17_0
  try clear hcz17_1
  try clear hcz25_0
  try clear hcz25_1
  try clear hfz17_0
  try clear hfz17_1
  try clear hfz25_0
  try clear hfz25_1
  obtain ⟨kq, x15_7, rfl, HA, HJ7, BK183, BK192, HB⟩ := hcut
  cases kq with
  | zero => exact absurd HA.out (by simp [cohousinglaw08_head.j0])
  | succ kj7 =>
   have H := HA.out
   clear HA
   simp only [cohousinglaw08_head.j0] at H
   by_cases c33 : x15_7 = true
   ·subst c33
    have H1 : (if t171 = 36 then (if t173 = 64 then (if t175 = 144 then (if t187 = true then (if t193 = true then ((group_Member.f 4).bind fun t195 => (if t195 = true then ((group_Member.f 9).bind fun t196 => (if t196 = true then ((group_Member.f 2).bind fun t197 => (if t197 = true then (some false) else ((group_Member.f 0).bind fun t198 => (some (!t198))))) else (some false))) else (some false))) else (some false)) else (some false)) else (some false)) else (some false)) else (some false)) = some r := by rw [if_pos rfl] at H; exact H
    clear H
    have H := H1
    clear H1
    by_cases c34 : t171 = 36
    ·rw [if_pos c34] at H
     have c34b0 : (t171 == 36) = true := beq_iff_eq.mpr c34
     have c34b1 : (t171 != 36) = false := bne_eq_false_iff_eq.mpr c34
     clear c34
     by_cases c35 : t173 = 64
     ·rw [if_pos c35] at H
      have c35b0 : (t173 == 64) = true := beq_iff_eq.mpr c35
      have c35b1 : (t173 != 64) = false := bne_eq_false_iff_eq.mpr c35
      clear c35
      by_cases c36 : t175 = 144
      ·rw [if_pos c36] at H
       have c36b0 : (t175 == 144) = true := beq_iff_eq.mpr c36
       have c36b1 : (t175 != 144) = false := bne_eq_false_iff_eq.mpr c36
       clear c36
       by_cases c37 : t187 = true
       ·subst c37
        have H1 : (if t193 = true then ((group_Member.f 4).bind fun t195 => (if t195 = true then ((group_Member.f 9).bind fun t196 => (if t196 = true then ((group_Member.f 2).bind fun t197 => (if t197 = true then (some false) else ((group_Member.f 0).bind fun t198 => (some (!t198))))) else (some false))) else (some false))) else (some false)) = some r := by rw [if_pos rfl] at H; exact H
        clear H
        have H := H1
        clear H1
        by_cases c38 : t193 = true
        ·subst c38
         have H1 : ((group_Member.f 4).bind fun t195 => (if t195 = true then ((group_Member.f 9).bind fun t196 => (if t196 = true then ((group_Member.f 2).bind fun t197 => (if t197 = true then (some false) else ((group_Member.f 0).bind fun t198 => (some (!t198))))) else (some false))) else (some false))) = some r := by rw [if_pos rfl] at H; exact H
         clear H
         have H := H1
         clear H1
         replace H := Option.bind_eq_some_iff.mp H
         obtain ⟨t195, A390, H⟩ := H
         replace H : (if t195 = true then ((group_Member.f 9).bind fun t196 => (if t196 = true then ((group_Member.f 2).bind fun t197 => (if t197 = true then (some false) else ((group_Member.f 0).bind fun t198 => (some (!t198))))) else (some false))) else (some false)) = some r := H
         have A39 := Aside0.mk A390
         clear A390
         by_cases c40 : t195 = true
         ·subst c40
          have H1 : ((group_Member.f 9).bind fun t196 => (if t196 = true then ((group_Member.f 2).bind fun t197 => (if t197 = true then (some false) else ((group_Member.f 0).bind fun t198 => (some (!t198))))) else (some false))) = some r := by rw [if_pos rfl] at H; exact H
          clear H
          have H := H1
          clear H1
          replace H := Option.bind_eq_some_iff.mp H
          obtain ⟨t196, A410, H⟩ := H
          replace H : (if t196 = true then ((group_Member.f 2).bind fun t197 => (if t197 = true then (some false) else ((group_Member.f 0).bind fun t198 => (some (!t198))))) else (some false)) = some r := H
          have A41 := Aside0.mk A410
          clear A410
          by_cases c42 : t196 = true
          ·subst c42
           have H1 : ((group_Member.f 2).bind fun t197 => (if t197 = true then (some false) else ((group_Member.f 0).bind fun t198 => (some (!t198))))) = some r := by rw [if_pos rfl] at H; exact H
           clear H
           have H := H1
           clear H1
           replace H := Option.bind_eq_some_iff.mp H
           obtain ⟨t197, A430, H⟩ := H
           replace H : (if t197 = true then (some false) else ((group_Member.f 0).bind fun t198 => (some (!t198)))) = some r := H
           have A43 := Aside0.mk A430
           clear A430
           by_cases c44 : t197 = true
           ·subst c44
            have H1 : (some false) = some r := by rw [if_pos rfl] at H; exact H
            clear H
            have H := H1
            clear H1
            obtain rfl := Option.some.inj H
            go_wp2_with (first | (go_at_call 14; (with_reducible refine (group_Member.calls 4 true _ A39.out).mono ?_); rintro e w45 ⟨rfl, hb⟩; have n0_ := Aside0.mk (blk_below (g := gb183) (o := .cells #[.int .i64 t180, .int .i64 t181] 23 (0, 0)) (by (with_reducible repeat (first | refine blk_drewN ?_ _ | refine blk_drew ?_ | refine blk_alloc ?_ _)); exact BK183.out) hb); have n1_ := Aside0.mk (blk_below (g := gb192) (o := .cells #[.int .i64 t189, .int .i64 t190] 23 (0, 0)) (by (with_reducible repeat (first | refine blk_drewN ?_ _ | refine blk_drew ?_ | refine blk_alloc ?_ _)); exact BK192.out) hb); have n2_ := Aside0.mk (below_step (by repeat (first | (with_reducible first | exact HB.out | apply below_alloc | apply pw_below_drewN | apply below_drew1 | refine below_set ?_ GE183.out | refine below_set ?_ GE192.out) | exact HB.out)) hb); clear BK183; clear BK192; clear HB; have BK183 := n0_; have BK192 := n1_; have HB := n2_; clear n0_ n1_ n2_; (try clear hb); (try clear hb2); (try clear hk); (try clear hi)) | (go_at_call 14; (with_reducible refine (group_Member.calls 9 true _ A41.out).mono ?_); rintro e w46 ⟨rfl, hb⟩; have n0_ := Aside0.mk (blk_below (g := gb183) (o := .cells #[.int .i64 t180, .int .i64 t181] 23 (0, 0)) (by (with_reducible repeat (first | refine blk_drewN ?_ _ | refine blk_drew ?_ | refine blk_alloc ?_ _)); exact BK183.out) hb); have n1_ := Aside0.mk (blk_below (g := gb192) (o := .cells #[.int .i64 t189, .int .i64 t190] 23 (0, 0)) (by (with_reducible repeat (first | refine blk_drewN ?_ _ | refine blk_drew ?_ | refine blk_alloc ?_ _)); exact BK192.out) hb); have n2_ := Aside0.mk (below_step (by repeat (first | (with_reducible first | exact HB.out | apply below_alloc | apply pw_below_drewN | apply below_drew1 | refine below_set ?_ GE183.out | refine below_set ?_ GE192.out) | exact HB.out)) hb); clear BK183; clear BK192; clear HB; have BK183 := n0_; have BK192 := n1_; have HB := n2_; clear n0_ n1_ n2_; (try clear hb); (try clear hb2); (try clear hk); (try clear hi)) | (go_at_call 14; (with_reducible refine (group_Member.calls 2 true _ A43.out).mono ?_); rintro e w47 ⟨rfl, hb⟩; have n0_ := Aside0.mk (blk_below (g := gb183) (o := .cells #[.int .i64 t180, .int .i64 t181] 23 (0, 0)) (by (with_reducible repeat (first | refine blk_drewN ?_ _ | refine blk_drew ?_ | refine blk_alloc ?_ _)); exact BK183.out) hb); have n1_ := Aside0.mk (blk_below (g := gb192) (o := .cells #[.int .i64 t189, .int .i64 t190] 23 (0, 0)) (by (with_reducible repeat (first | refine blk_drewN ?_ _ | refine blk_drew ?_ | refine blk_alloc ?_ _)); exact BK192.out) hb); have n2_ := Aside0.mk (below_step (by repeat (first | (with_reducible first | exact HB.out | apply below_alloc | apply pw_below_drewN | apply below_drew1 | refine below_set ?_ GE183.out | refine below_set ?_ GE192.out) | exact HB.out)) hb); clear BK183; clear BK192; clear HB; have BK183 := n0_; have BK192 := n1_; have HB := n2_; clear n0_ n1_ n2_; (try clear hb); (try clear hb2); (try clear hk); (try clear hi)))
            go_ret
            exact ⟨by first | rfl | (simp [errW_none, errW_some] <;> rfl) | (simp [*, errW_none, errW_some] <;> rfl), by repeat (first | (with_reducible first | exact HB.out | apply below_alloc | apply pw_below_drewN | apply below_drew1 | refine below_set ?_ GE183.out | refine below_set ?_ GE192.out) | exact HB.out)⟩
           ·replace c44 := Bool.eq_false_iff.mpr c44
            subst c44
            have H1 : ((group_Member.f 0).bind fun t198 => (some (!t198))) = some r := by rw [if_neg (show ¬ (false = true) by decide)] at H; exact H
            clear H
            have H := H1
            clear H1
            replace H := Option.bind_eq_some_iff.mp H
            obtain ⟨t198, A480, H⟩ := H
            replace H : (some (!t198)) = some r := H
            have A48 := Aside0.mk A480
            clear A480
            obtain rfl := Option.some.inj H
            go_wp2_with (first | (go_at_call 14; (with_reducible refine (group_Member.calls 4 true _ A39.out).mono ?_); rintro e w49 ⟨rfl, hb⟩; have n0_ := Aside0.mk (blk_below (g := gb183) (o := .cells #[.int .i64 t180, .int .i64 t181] 23 (0, 0)) (by (with_reducible repeat (first | refine blk_drewN ?_ _ | refine blk_drew ?_ | refine blk_alloc ?_ _)); exact BK183.out) hb); have n1_ := Aside0.mk (blk_below (g := gb192) (o := .cells #[.int .i64 t189, .int .i64 t190] 23 (0, 0)) (by (with_reducible repeat (first | refine blk_drewN ?_ _ | refine blk_drew ?_ | refine blk_alloc ?_ _)); exact BK192.out) hb); have n2_ := Aside0.mk (below_step (by repeat (first | (with_reducible first | exact HB.out | apply below_alloc | apply pw_below_drewN | apply below_drew1 | refine below_set ?_ GE183.out | refine below_set ?_ GE192.out) | exact HB.out)) hb); clear BK183; clear BK192; clear HB; have BK183 := n0_; have BK192 := n1_; have HB := n2_; clear n0_ n1_ n2_; (try clear hb); (try clear hb2); (try clear hk); (try clear hi)) | (go_at_call 14; (with_reducible refine (group_Member.calls 9 true _ A41.out).mono ?_); rintro e w50 ⟨rfl, hb⟩; have n0_ := Aside0.mk (blk_below (g := gb183) (o := .cells #[.int .i64 t180, .int .i64 t181] 23 (0, 0)) (by (with_reducible repeat (first | refine blk_drewN ?_ _ | refine blk_drew ?_ | refine blk_alloc ?_ _)); exact BK183.out) hb); have n1_ := Aside0.mk (blk_below (g := gb192) (o := .cells #[.int .i64 t189, .int .i64 t190] 23 (0, 0)) (by (with_reducible repeat (first | refine blk_drewN ?_ _ | refine blk_drew ?_ | refine blk_alloc ?_ _)); exact BK192.out) hb); have n2_ := Aside0.mk (below_step (by repeat (first | (with_reducible first | exact HB.out | apply below_alloc | apply pw_below_drewN | apply below_drew1 | refine below_set ?_ GE183.out | refine below_set ?_ GE192.out) | exact HB.out)) hb); clear BK183; clear BK192; clear HB; have BK183 := n0_; have BK192 := n1_; have HB := n2_; clear n0_ n1_ n2_; (try clear hb); (try clear hb2); (try clear hk); (try clear hi)) | (go_at_call 14; (with_reducible refine (group_Member.calls 2 false _ A43.out).mono ?_); rintro e w51 ⟨rfl, hb⟩; have n0_ := Aside0.mk (blk_below (g := gb183) (o := .cells #[.int .i64 t180, .int .i64 t181] 23 (0, 0)) (by (with_reducible repeat (first | refine blk_drewN ?_ _ | refine blk_drew ?_ | refine blk_alloc ?_ _)); exact BK183.out) hb); have n1_ := Aside0.mk (blk_below (g := gb192) (o := .cells #[.int .i64 t189, .int .i64 t190] 23 (0, 0)) (by (with_reducible repeat (first | refine blk_drewN ?_ _ | refine blk_drew ?_ | refine blk_alloc ?_ _)); exact BK192.out) hb); have n2_ := Aside0.mk (below_step (by repeat (first | (with_reducible first | exact HB.out | apply below_alloc | apply pw_below_drewN | apply below_drew1 | refine below_set ?_ GE183.out | refine below_set ?_ GE192.out) | exact HB.out)) hb); clear BK183; clear BK192; clear HB; have BK183 := n0_; have BK192 := n1_; have HB := n2_; clear n0_ n1_ n2_; (try clear hb); (try clear hb2); (try clear hk); (try clear hi)) | (go_at_call 14; (with_reducible refine (group_Member.calls 0 t198 _ A48.out).mono ?_); rintro e w52 ⟨rfl, hb⟩; have n0_ := Aside0.mk (blk_below (g := gb183) (o := .cells #[.int .i64 t180, .int .i64 t181] 23 (0, 0)) (by (with_reducible repeat (first | refine blk_drewN ?_ _ | refine blk_drew ?_ | refine blk_alloc ?_ _)); exact BK183.out) hb); have n1_ := Aside0.mk (blk_below (g := gb192) (o := .cells #[.int .i64 t189, .int .i64 t190] 23 (0, 0)) (by (with_reducible repeat (first | refine blk_drewN ?_ _ | refine blk_drew ?_ | refine blk_alloc ?_ _)); exact BK192.out) hb); have n2_ := Aside0.mk (below_step (by repeat (first | (with_reducible first | exact HB.out | apply below_alloc | apply pw_below_drewN | apply below_drew1 | refine below_set ?_ GE183.out | refine below_set ?_ GE192.out) | exact HB.out)) hb); clear BK183; clear BK192; clear HB; have BK183 := n0_; have BK192 := n1_; have HB := n2_; clear n0_ n1_ n2_; (try clear hb); (try clear hb2); (try clear hk); (try clear hi)))
            go_ret
            exact ⟨by first | rfl | (simp [errW_none, errW_some] <;> rfl) | (simp [*, errW_none, errW_some] <;> rfl), by repeat (first | (with_reducible first | exact HB.out | apply below_alloc | apply pw_below_drewN | apply below_drew1 | refine below_set ?_ GE183.out | refine below_set ?_ GE192.out) | exact HB.out)⟩
          ·replace c42 := Bool.eq_false_iff.mpr c42
           subst c42
           have H1 : (some false) = some r := by rw [if_neg (show ¬ (false = true) by decide)] at H; exact H
           clear H
           have H := H1
           clear H1
           obtain rfl := Option.some.inj H
           go_wp2_with (first | (go_at_call 14; (with_reducible refine (group_Member.calls 4 true _ A39.out).mono ?_); rintro e w53 ⟨rfl, hb⟩; have n0_ := Aside0.mk (blk_below (g := gb183) (o := .cells #[.int .i64 t180, .int .i64 t181] 23 (0, 0)) (by (with_reducible repeat (first | refine blk_drewN ?_ _ | refine blk_drew ?_ | refine blk_alloc ?_ _)); exact BK183.out) hb); have n1_ := Aside0.mk (blk_below (g := gb192) (o := .cells #[.int .i64 t189, .int .i64 t190] 23 (0, 0)) (by (with_reducible repeat (first | refine blk_drewN ?_ _ | refine blk_drew ?_ | refine blk_alloc ?_ _)); exact BK192.out) hb); have n2_ := Aside0.mk (below_step (by repeat (first | (with_reducible first | exact HB.out | apply below_alloc | apply pw_below_drewN | apply below_drew1 | refine below_set ?_ GE183.out | refine below_set ?_ GE192.out) | exact HB.out)) hb); clear BK183; clear BK192; clear HB; have BK183 := n0_; have BK192 := n1_; have HB := n2_; clear n0_ n1_ n2_; (try clear hb); (try clear hb2); (try clear hk); (try clear hi)) | (go_at_call 14; (with_reducible refine (group_Member.calls 9 false _ A41.out).mono ?_); rintro e w54 ⟨rfl, hb⟩; have n0_ := Aside0.mk (blk_below (g := gb183) (o := .cells #[.int .i64 t180, .int .i64 t181] 23 (0, 0)) (by (with_reducible repeat (first | refine blk_drewN ?_ _ | refine blk_drew ?_ | refine blk_alloc ?_ _)); exact BK183.out) hb); have n1_ := Aside0.mk (blk_below (g := gb192) (o := .cells #[.int .i64 t189, .int .i64 t190] 23 (0, 0)) (by (with_reducible repeat (first | refine blk_drewN ?_ _ | refine blk_drew ?_ | refine blk_alloc ?_ _)); exact BK192.out) hb); have n2_ := Aside0.mk (below_step (by repeat (first | (with_reducible first | exact HB.out | apply below_alloc | apply pw_below_drewN | apply below_drew1 | refine below_set ?_ GE183.out | refine below_set ?_ GE192.out) | exact HB.out)) hb); clear BK183; clear BK192; clear HB; have BK183 := n0_; have BK192 := n1_; have HB := n2_; clear n0_ n1_ n2_; (try clear hb); (try clear hb2); (try clear hk); (try clear hi)))
           go_ret
           exact ⟨by first | rfl | (simp [errW_none, errW_some] <;> rfl) | (simp [*, errW_none, errW_some] <;> rfl), by repeat (first | (with_reducible first | exact HB.out | apply below_alloc | apply pw_below_drewN | apply below_drew1 | refine below_set ?_ GE183.out | refine below_set ?_ GE192.out) | exact HB.out)⟩
         ·replace c40 := Bool.eq_false_iff.mpr c40
          subst c40
          have H1 : (some false) = some r := by rw [if_neg (show ¬ (false = true) by decide)] at H; exact H
          clear H
          have H := H1
          clear H1
          obtain rfl := Option.some.inj H
          go_wp2_with (first | (go_at_call 14; (with_reducible refine (group_Member.calls 4 false _ A39.out).mono ?_); rintro e w55 ⟨rfl, hb⟩; have n0_ := Aside0.mk (blk_below (g := gb183) (o := .cells #[.int .i64 t180, .int .i64 t181] 23 (0, 0)) (by (with_reducible repeat (first | refine blk_drewN ?_ _ | refine blk_drew ?_ | refine blk_alloc ?_ _)); exact BK183.out) hb); have n1_ := Aside0.mk (blk_below (g := gb192) (o := .cells #[.int .i64 t189, .int .i64 t190] 23 (0, 0)) (by (with_reducible repeat (first | refine blk_drewN ?_ _ | refine blk_drew ?_ | refine blk_alloc ?_ _)); exact BK192.out) hb); have n2_ := Aside0.mk (below_step (by repeat (first | (with_reducible first | exact HB.out | apply below_alloc | apply pw_below_drewN | apply below_drew1 | refine below_set ?_ GE183.out | refine below_set ?_ GE192.out) | exact HB.out)) hb); clear BK183; clear BK192; clear HB; have BK183 := n0_; have BK192 := n1_; have HB := n2_; clear n0_ n1_ n2_; (try clear hb); (try clear hb2); (try clear hk); (try clear hi)))
          go_ret
          exact ⟨by first | rfl | (simp [errW_none, errW_some] <;> rfl) | (simp [*, errW_none, errW_some] <;> rfl), by repeat (first | (with_reducible first | exact HB.out | apply below_alloc | apply pw_below_drewN | apply below_drew1 | refine below_set ?_ GE183.out | refine below_set ?_ GE192.out) | exact HB.out)⟩
        ·replace c38 := Bool.eq_false_iff.mpr c38
         subst c38
         have H1 : (some false) = some r := by rw [if_neg (show ¬ (false = true) by decide)] at H; exact H
         clear H
         have H := H1
         clear H1
         obtain rfl := Option.some.inj H
         go_wp2
         go_ret
         exact ⟨by first | rfl | (simp [errW_none, errW_some] <;> rfl) | (simp [*, errW_none, errW_some] <;> rfl), by repeat (first | (with_reducible first | exact HB.out | apply below_alloc | apply pw_below_drewN | apply below_drew1 | refine below_set ?_ GE183.out | refine below_set ?_ GE192.out) | exact HB.out)⟩
       ·replace c37 := Bool.eq_false_iff.mpr c37
        subst c37
        have H1 : (some false) = some r := by rw [if_neg (show ¬ (false = true) by decide)] at H; exact H
        clear H
        have H := H1
        clear H1
        obtain rfl := Option.some.inj H
        go_wp2
        go_ret
        exact ⟨by first | rfl | (simp [errW_none, errW_some] <;> rfl) | (simp [*, errW_none, errW_some] <;> rfl), by repeat (first | (with_reducible first | exact HB.out | apply below_alloc | apply pw_below_drewN | apply below_drew1 | refine below_set ?_ GE183.out | refine below_set ?_ GE192.out) | exact HB.out)⟩
      ·rw [if_neg c36] at H
       have c36b0 : (t175 == 144) = false := beq_eq_false_iff_ne.mpr c36
       have c36b1 : (t175 != 144) = true := bne_iff_ne.mpr c36
       obtain rfl := Option.some.inj H
       go_wp2
       go_ret
       exact ⟨by first | rfl | (simp [errW_none, errW_some] <;> rfl) | (simp [*, errW_none, errW_some] <;> rfl), by repeat (first | (with_reducible first | exact HB.out | apply below_alloc | apply pw_below_drewN | apply below_drew1 | refine below_set ?_ GE183.out | refine below_set ?_ GE192.out) | exact HB.out)⟩
     ·rw [if_neg c35] at H
      have c35b0 : (t173 == 64) = false := beq_eq_false_iff_ne.mpr c35
      have c35b1 : (t173 != 64) = true := bne_iff_ne.mpr c35
      obtain rfl := Option.some.inj H
      go_wp2
      go_ret
      exact ⟨by first | rfl | (simp [errW_none, errW_some] <;> rfl) | (simp [*, errW_none, errW_some] <;> rfl), by repeat (first | (with_reducible first | exact HB.out | apply below_alloc | apply pw_below_drewN | apply below_drew1 | refine below_set ?_ GE183.out | refine below_set ?_ GE192.out) | exact HB.out)⟩
    ·rw [if_neg c34] at H
     have c34b0 : (t171 == 36) = false := beq_eq_false_iff_ne.mpr c34
     have c34b1 : (t171 != 36) = true := bne_iff_ne.mpr c34
     obtain rfl := Option.some.inj H
     go_wp2
     go_ret
     exact ⟨by first | rfl | (simp [errW_none, errW_some] <;> rfl) | (simp [*, errW_none, errW_some] <;> rfl), by repeat (first | (with_reducible first | exact HB.out | apply below_alloc | apply pw_below_drewN | apply below_drew1 | refine below_set ?_ GE183.out | refine below_set ?_ GE192.out) | exact HB.out)⟩
   ·replace c33 := Bool.eq_false_iff.mpr c33
    subst c33
    have H1 : (some false) = some r := by rw [if_neg (show ¬ (false = true) by decide)] at H; exact H
    clear H
    have H := H1
    clear H1
    obtain rfl := Option.some.inj H
    go_wp2
    go_ret
    exact ⟨by first | rfl | (simp [errW_none, errW_some] <;> rfl) | (simp [*, errW_none, errW_some] <;> rfl), by repeat (first | (with_reducible first | exact HB.out | apply below_alloc | apply pw_below_drewN | apply below_drew1 | refine below_set ?_ GE183.out | refine below_set ?_ GE192.out) | exact HB.out)⟩

/-! ### cohousingref08_Power: function 29 -/
def cohousingref08_Power.l0 : Nat → Int → Int → Int → Int → Option (Int)
 | 0, _, _, _, _ => none
 | k + 1, x0, x1, x2, x7 => if x1 > 0 then (if (Int.tmod x1 2) = 1 then (if x2 = 0 then (none) else (cohousingref08_Power.l0 k (Int.tmod (wrap64 (x0 * x0)) x2) (wrap64 (Int.tdiv x1 2)) x2 (Int.tmod (wrap64 (x7 * x0)) x2))) else (if x2 = 0 then (none) else (cohousingref08_Power.l0 k (Int.tmod (wrap64 (x0 * x0)) x2) (wrap64 (Int.tdiv x1 2)) x2 x7))) else (some x7)
def cohousingref08_Power.f (k : Nat) (a0 : Int) (a1 : Int) (a2 : Int) : Option (Int) := cohousingref08_Power.l0 k a0 a1 a2 1
theorem cohousingref08_Power.mono_l : ∀ k, (∀ y0 y1 y2 y3, LeO (cohousingref08_Power.l0 k y0 y1 y2 y3) (cohousingref08_Power.l0 (k + 1) y0 y1 y2 y3))
 | 0 => fun _ _ _ _ r h => by simp [cohousingref08_Power.l0] at h
 | k + 1 => by
  have ih0 := cohousingref08_Power.mono_l k
  ·intro y0 y1 y2 y3
   unfold cohousingref08_Power.l0
   repeat' first
   | (with_reducible exact ih0 _ _ _ _)
   | (with_reducible exact LeO.refl _)
   | (with_reducible exact LeO.none _)
   | (with_reducible refine LeO.ite ?_ ?_)
   | (with_reducible refine LeO.bind ?_ (fun _ => ?_))
   | exact ih0 _ _ _ _
   | exact LeO.none _
   | refine LeO.ite ?_ ?_
   | refine LeO.bind ?_ (fun _ => ?_)
theorem cohousingref08_Power.mono : ∀ a0 a1 a2 k, LeO (cohousingref08_Power.f k a0 a1 a2) (cohousingref08_Power.f (k + 1) a0 a1 a2) := by
 intro a0 a1 a2 k
 have ih0 := cohousingref08_Power.mono_l k
 unfold cohousingref08_Power.f
 repeat' first
   | (with_reducible exact ih0 _ _ _ _)
   | (with_reducible exact LeO.refl _)
   | (with_reducible exact LeO.none _)
   | (with_reducible refine LeO.ite ?_ ?_)
   | (with_reducible refine LeO.bind ?_ (fun _ => ?_))
   | exact ih0 _ _ _ _
   | exact LeO.none _
   | refine LeO.ite ?_ ?_
   | refine LeO.bind ?_ (fun _ => ?_)
set_option maxHeartbeats 8000000 in
set_option maxRecDepth 100000 in
theorem cohousingref08_Power.calls (k : Nat) (a0 : Int) (a1 : Int) (a2 : Int) (r : Int) (w : World) (h : cohousingref08_Power.f k a0 a1 a2 = some r) :
  Calls Tryd.prog 29 #[.int .i64 a0, .int .i64 a1, .int .i64 a2] w fun e w' => e = .returned (.int .i64 r) ∧ Drawn0 w w' := by
 have H : (cohousingref08_Power.l0 k a0 a1 a2 1) = some r := h
 clear h
 have H' := Aside0.mk H
 clear H
 go_enter Tryd.func29, Tryd.ntmps29
 go_wp2
 go_loopg [0, 1, 7] k (fun kq v0 v1 v7 w' => ∃ (x0_1 : Int) (x1_1 : Int) (x7_1 : Int), v0 = .int .i64 x0_1 ∧ v1 = .int .i64 x1_1 ∧ v7 = .int .i64 x7_1 ∧ Aside0 (cohousingref08_Power.l0 kq x0_1 x1_1 a2 x7_1 = some r) ∧ Aside0 (kq ≤ k) ∧ Drawn0 w w')
 case atStart => exact ⟨(a0), (a1), (1), (by first | rfl | (simp; done) | (simp [*]; done)), (by first | rfl | (simp; done) | (simp [*]; done)), (by first | rfl | (simp; done) | (simp [*]; done)), H', ⟨Nat.le_refl _⟩, by repeat (first | exact Drawn0.refl _ | apply Drawn0.step)⟩
 case round =>
  clear H'
  try clear c2
  try clear p2
  obtain ⟨x0_1, x1_1, x7_1, rfl, rfl, rfl, HA, HK1, ⟨m1, rfl⟩⟩ := hrel
  cases gk with
  | zero => exact absurd HA.out (by simp [cohousingref08_Power.l0])
  | succ k1 =>
   have H := HA.out
   clear HA
   simp only [cohousingref08_Power.l0] at H
   by_cases c4 : x1_1 > 0
   ·rw [if_pos c4] at H
    have c4b0 : decide (0 < x1_1) = true := decide_eq_true c4
    clear c4
    by_cases c5 : (Int.tmod x1_1 2) = 1
    ·rw [if_pos c5] at H
     have c5b0 : ((Int.tmod x1_1 2) == 1) = true := beq_iff_eq.mpr c5
     have c5b1 : ((Int.tmod x1_1 2) != 1) = false := bne_eq_false_iff_eq.mpr c5
     clear c5
     by_cases c6 : a2 = 0
     ·rw [if_pos c6] at H
      exact absurd H (by simp)
     ·rw [if_neg c6] at H
      have c6b0 : (a2 == 0) = false := beq_eq_false_iff_ne.mpr c6
      have c6b1 : (a2 != 0) = true := bne_iff_ne.mpr c6
      have H' := Aside0.mk H
      clear H
      go_wp2
      go_roundg k1
      case measure => have := HK1.out; omega
      case rel => exact ⟨(Int.tmod (wrap64 (x0_1 * x0_1)) a2), (wrap64 (Int.tdiv x1_1 2)), (Int.tmod (wrap64 (x7_1 * x0_1)) a2), (by first | rfl | (simp; done) | (simp [*]; done)), (by first | rfl | (simp; done) | (simp [*]; done)), (by first | rfl | (simp; done) | (simp [*]; done)), H', ⟨by have := HK1.out; omega⟩, by repeat (first | exact Drawn0.refl _ | apply Drawn0.step)⟩
    ·rw [if_neg c5] at H
     have c5b0 : ((Int.tmod x1_1 2) == 1) = false := beq_eq_false_iff_ne.mpr c5
     have c5b1 : ((Int.tmod x1_1 2) != 1) = true := bne_iff_ne.mpr c5
     by_cases c7 : a2 = 0
     ·rw [if_pos c7] at H
      exact absurd H (by simp)
     ·rw [if_neg c7] at H
      have c7b0 : (a2 == 0) = false := beq_eq_false_iff_ne.mpr c7
      have c7b1 : (a2 != 0) = true := bne_iff_ne.mpr c7
      have H' := Aside0.mk H
      clear H
      go_wp2
      go_roundg k1
      case measure => have := HK1.out; omega
      case rel => exact ⟨(Int.tmod (wrap64 (x0_1 * x0_1)) a2), (wrap64 (Int.tdiv x1_1 2)), (x7_1), (by first | rfl | (simp; done) | (simp [*]; done)), (by first | rfl | (simp; done) | (simp [*]; done)), (by first | rfl | (simp; done) | (simp [*]; done)), H', ⟨by have := HK1.out; omega⟩, by repeat (first | exact Drawn0.refl _ | apply Drawn0.step)⟩
   ·rw [if_neg c4] at H
    have c4b0 : decide (0 < x1_1) = false := decide_eq_false c4
    clear c4
    obtain rfl := Option.some.inj H
    go_wp2
    go_ret
    exact ⟨by first | rfl | (simp; done) | (simp [*]; done), by repeat (first | exact Drawn0.refl _ | apply Drawn0.step)⟩

/-! ### cohousingref08_Element: function 28 -/
def cohousingref08_Element.f (k : Nat) (a0 : Int) : Option (Int) := (cohousingref08_Power.f k 4 (wrap64 (Int.tmod a0 1073741789)) 2147483579).bind fun t199 => (some t199)
theorem cohousingref08_Element.mono : ∀ a0 k, LeO (cohousingref08_Element.f k a0) (cohousingref08_Element.f (k + 1) a0) := by
 intro a0 k
 unfold cohousingref08_Element.f
 repeat' first
   | (with_reducible exact cohousingref08_Power.mono _ _ _ _)
   | (with_reducible exact LeO.refl _)
   | (with_reducible exact LeO.none _)
   | (with_reducible refine LeO.ite ?_ ?_)
   | (with_reducible refine LeO.bind ?_ (fun _ => ?_))
   | exact cohousingref08_Power.mono _ _ _ _
   | exact LeO.none _
   | refine LeO.ite ?_ ?_
   | refine LeO.bind ?_ (fun _ => ?_)
set_option maxHeartbeats 8000000 in
set_option maxRecDepth 100000 in
theorem cohousingref08_Element.calls (k : Nat) (a0 : Int) (r : Int) (w : World) (h : cohousingref08_Element.f k a0 = some r) :
  Calls Tryd.prog 28 #[.int .u64 a0] w fun e w' => e = .returned (.int .i64 r) ∧ Drawn0 w w' := by
 have H : ((cohousingref08_Power.f k 4 (wrap64 (Int.tmod a0 1073741789)) 2147483579).bind fun t199 => (some t199)) = some r := h
 clear h
 replace H := Option.bind_eq_some_iff.mp H
 obtain ⟨t199, A20, H⟩ := H
 replace H : (some t199) = some r := H
 have A2 := Aside0.mk A20
 clear A20
 obtain rfl := Option.some.inj H
 go_enter Tryd.func28, Tryd.ntmps28
 go_wp2_with (first | ((with_reducible refine gate_callee (f := 29) rfl ?_); refine goesL_ (some 6) rfl rfl Tryd.func29 (by kernel_rfl) rfl #[.int .i64 4, .int .i64 (wrap64 (Int.tmod a0 1073741789)), .int .i64 2147483579] rfl (by (try simp only [List.map_toArray, List.map_cons, List.map_nil]); first | done | rfl | (simp only [List.length_drop, List.length_take]; rfl)) ?_; (with_reducible refine (cohousingref08_Power.calls k 4 (wrap64 (Int.tmod a0 1073741789)) 2147483579 t199 _ A2.out).mono ?_); rintro e w' ⟨rfl, ⟨nd, rfl⟩⟩; refine ⟨_, rfl, ?_⟩))
 go_ret
 exact ⟨by first | rfl | (simp; done) | (simp [*]; done), by repeat (first | exact Drawn0.refl _ | apply Drawn0.step)⟩

/-! ### cohousingref08_Secret: function 30 -/
def cohousingref08_Secret.f (a0 : Int) : Option (Int) := some (wrap64 (1 + (wrap64 (Int.tmod a0 1073741788))))
set_option maxHeartbeats 8000000 in
set_option maxRecDepth 100000 in
theorem cohousingref08_Secret.calls (a0 : Int) (r : Int) (w : World) (h : cohousingref08_Secret.f a0 = some r) :
  Calls Tryd.prog 30 #[.int .u64 a0] w fun e w' => e = .returned (.int .i64 r) ∧ Drawn0 w w' := by
 have H : (some (wrap64 (1 + (wrap64 (Int.tmod a0 1073741788))))) = some r := h
 clear h
 obtain rfl := Option.some.inj H
 go_enter Tryd.func30, Tryd.ntmps30
 go_wp2
 go_ret
 exact ⟨by first | rfl | (simp; done) | (simp [*]; done), by repeat (first | exact Drawn0.refl _ | apply Drawn0.step)⟩

/-! ### cohousingref08_Over: function 32 -/
def cohousingref08_Over.f (k : Nat) (a0 : Int) (a1 : Int) : Option (Int) := (cohousingref08_Power.f k a1 1073741787 1073741789).bind fun t200 => (some (Int.tmod (wrap64 (a0 * t200)) 1073741789))
theorem cohousingref08_Over.mono : ∀ a0 a1 k, LeO (cohousingref08_Over.f k a0 a1) (cohousingref08_Over.f (k + 1) a0 a1) := by
 intro a0 a1 k
 unfold cohousingref08_Over.f
 repeat' first
   | (with_reducible exact cohousingref08_Power.mono _ _ _ _)
   | (with_reducible exact LeO.refl _)
   | (with_reducible exact LeO.none _)
   | (with_reducible refine LeO.ite ?_ ?_)
   | (with_reducible refine LeO.bind ?_ (fun _ => ?_))
   | exact cohousingref08_Power.mono _ _ _ _
   | exact LeO.none _
   | refine LeO.ite ?_ ?_
   | refine LeO.bind ?_ (fun _ => ?_)
set_option maxHeartbeats 8000000 in
set_option maxRecDepth 100000 in
theorem cohousingref08_Over.calls (k : Nat) (a0 : Int) (a1 : Int) (r : Int) (w : World) (h : cohousingref08_Over.f k a0 a1 = some r) :
  Calls Tryd.prog 32 #[.int .i64 a0, .int .i64 a1] w fun e w' => e = .returned (.int .i64 r) ∧ Drawn0 w w' := by
 have H : ((cohousingref08_Power.f k a1 1073741787 1073741789).bind fun t200 => (some (Int.tmod (wrap64 (a0 * t200)) 1073741789))) = some r := h
 clear h
 replace H := Option.bind_eq_some_iff.mp H
 obtain ⟨t200, A30, H⟩ := H
 replace H : (some (Int.tmod (wrap64 (a0 * t200)) 1073741789)) = some r := H
 have A3 := Aside0.mk A30
 clear A30
 obtain rfl := Option.some.inj H
 go_enter Tryd.func32, Tryd.ntmps32
 go_wp2_with (first | ((with_reducible refine gate_callee (f := 29) rfl ?_); refine goesL_ (some 7) rfl rfl Tryd.func29 (by kernel_rfl) rfl #[.int .i64 a1, .int .i64 1073741787, .int .i64 1073741789] rfl (by (try simp only [List.map_toArray, List.map_cons, List.map_nil]); first | done | rfl | (simp only [List.length_drop, List.length_take]; rfl)) ?_; (with_reducible refine (cohousingref08_Power.calls k a1 1073741787 1073741789 t200 _ A3.out).mono ?_); rintro e w' ⟨rfl, ⟨nd, rfl⟩⟩; refine ⟨_, rfl, ?_⟩))
 go_ret
 exact ⟨by first | rfl | (simp; done) | (simp [*]; done), by repeat (first | exact Drawn0.refl _ | apply Drawn0.step)⟩

end Go.Proofs.YtimcknjodeikmaaDoor.P
