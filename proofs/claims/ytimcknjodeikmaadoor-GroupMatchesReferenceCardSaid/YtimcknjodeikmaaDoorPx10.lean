-- Written by a program of this session out of the translation (wip/pp: the kit's print, turned). Not trusted: Lean checks it.
import Derived.Test.YtimcknjodeikmaaDoorPx0
import Derived.Test.YtimcknjodeikmaaDoorPx1
import Derived.Test.YtimcknjodeikmaaDoorPx2
import Derived.Test.YtimcknjodeikmaaDoorPx3
import Derived.Test.YtimcknjodeikmaaDoorPx4
import Derived.Test.YtimcknjodeikmaaDoorPx5
import Derived.Test.YtimcknjodeikmaaDoorPx6
import Derived.Test.YtimcknjodeikmaaDoorPx7
import Derived.Test.YtimcknjodeikmaaDoorPx8
import Derived.Test.YtimcknjodeikmaaDoorPx9
namespace Go.Proofs.YtimcknjodeikmaaDoor.P
open Go.RowKit Go.Proofs.YtimcknjodeikmaaDoorW.PrintWords Go.Proofs.YtimcknjodeikmaaDoorW.PrintLast Go.Proofs.YtimcknjodeikmaaDoorW.PrintMore
attribute [local go_sem] max2_int min2_int max_two min_two max_three min_three max_four min_four   -- for this text's walks alone
set_option linter.unusedVariables false
set_option linter.unusedSimpArgs false

attribute [local go_sem high] eqA23
/-! ### cohousinglaw08_GroupMatchesReference: function 3 -/
mutual
def cohousinglaw08_GroupMatchesReference.j0 : Nat → Int → Int → Int → Int → List Int → Bool → Int → Int → Option (Bool)
 | 0, _, _, _, _, _, _, _, _ => none
 | k + 1, x0, x1, x2, x3, x5, x13, x304000, x304001 => (group_Exp.f x0 x2).bind fun bt314 => ((cohousingref08_Exp.f k x0 x2).bind fun bt316 => (if x13 = true then (if bt314.1 = bt316.1 then (cohousinglaw08_GroupMatchesReference.j1 k x0 x1 x2 x3 x5 (bt314.2 == bt316.2) x304000 x304001) else (cohousinglaw08_GroupMatchesReference.j1 k x0 x1 x2 x3 x5 false x304000 x304001)) else (cohousinglaw08_GroupMatchesReference.j1 k x0 x1 x2 x3 x5 false x304000 x304001)))
def cohousinglaw08_GroupMatchesReference.j1 : Nat → Int → Int → Int → Int → List Int → Bool → Int → Int → Option (Bool)
 | 0, _, _, _, _, _, _, _, _ => none
 | k + 1, x0, x1, x2, x3, x5, x13, x304000, x304001 => (group_Commit.f k x1 x2 x3).bind fun bt318 => ((cohousingref08_Commit.f k x1 x2 x3).bind fun bt320 => (if x13 = true then (if bt318.1 = bt320.1 then (cohousinglaw08_GroupMatchesReference.j2 k x0 x1 x2 x3 x5 (bt318.2 == bt320.2) x304000 x304001) else (cohousinglaw08_GroupMatchesReference.j2 k x0 x1 x2 x3 x5 false x304000 x304001)) else (cohousinglaw08_GroupMatchesReference.j2 k x0 x1 x2 x3 x5 false x304000 x304001)))
def cohousinglaw08_GroupMatchesReference.j2 : Nat → Int → Int → Int → Int → List Int → Bool → Int → Int → Option (Bool)
 | 0, _, _, _, _, _, _, _, _ => none
 | k + 1, x0, x1, x2, x3, x5, x13, x304000, x304001 => (group_Sign.f k x2 x3 x5).bind fun bt322 => ((cohousingref08_Sign.f k x2 x3 x5).bind fun bt326 => (if x13 = true then (if (bt322.1 == bt326.1 && (bt322.2.1 == bt326.2.1)) = true then (cohousinglaw08_GroupMatchesReference.j3 k x0 x1 x2 x3 x5 (bt322.2.2 == bt326.2.2) x304000 x304001) else (cohousinglaw08_GroupMatchesReference.j3 k x0 x1 x2 x3 x5 false x304000 x304001)) else (cohousinglaw08_GroupMatchesReference.j3 k x0 x1 x2 x3 x5 false x304000 x304001)))
def cohousinglaw08_GroupMatchesReference.j3 : Nat → Int → Int → Int → Int → List Int → Bool → Int → Int → Option (Bool)
 | 0, _, _, _, _, _, _, _, _ => none
 | k + 1, x0, x1, x2, x3, x5, x13, x304000, x304001 => (group_Verify.f k x0 x304000 x304001 x5).bind fun bt330 => ((cohousingref08_Verify.f k x0 x304000 x304001 x5).bind fun bt332 => (if x13 = true then (if (bt330.1 == bt332.1) = true then (cohousinglaw08_GroupMatchesReference.j4 k x0 x1 x2 x3 (bt330.2 == bt332.2) x304000 x304001) else (cohousinglaw08_GroupMatchesReference.j4 k x0 x1 x2 x3 false x304000 x304001)) else (cohousinglaw08_GroupMatchesReference.j4 k x0 x1 x2 x3 false x304000 x304001)))
def cohousinglaw08_GroupMatchesReference.j4 : Nat → Int → Int → Int → Int → Bool → Int → Int → Option (Bool)
 | 0, _, _, _, _, _, _, _ => none
 | k + 1, x0, x1, x2, x3, x13, x304000, x304001 => (group_Same.f k x0 x1 x2 x3).bind fun bt334 => ((cohousingref08_Same.f k x0 x1 x2 x3).bind fun bt337 => (if x13 = true then (if (bt334.1 == bt337.1 && (bt334.2.1 == bt337.2.1)) = true then ((group_Equal.f k x0 x2 x1 x3 x304000 x304001).bind fun bt340 => ((cohousingref08_Equal.f k x0 x2 x1 x3 x304000 x304001).bind fun bt342 => (if bt334.2.2 = bt337.2.2 then (if (bt340.1 == bt342.1) = true then (some (bt340.2 == bt342.2)) else (some false)) else (some false)))) else ((group_Equal.f k x0 x2 x1 x3 x304000 x304001).bind fun bt344 => ((cohousingref08_Equal.f k x0 x2 x1 x3 x304000 x304001).bind fun bt346 => (some false)))) else ((group_Equal.f k x0 x2 x1 x3 x304000 x304001).bind fun bt348 => ((cohousingref08_Equal.f k x0 x2 x1 x3 x304000 x304001).bind fun bt350 => (some false)))))
end
def cohousinglaw08_GroupMatchesReference.f (k : Nat) (a0 : Int) (a1 : Int) (a2 : Int) (a3 : Int) (a4_0 : Int) (a4_1 : Int) (l5 : List Int) : Option (Bool) := (cohousinglaw08_head.f k).bind fun t304 => ((cohousinglaw08_few.f l5).bind fun t305 => ((group_Mul.f a0 a1).bind fun bt308 => ((cohousingref08_Mul.f k a0 a1).bind fun bt310 => (if t304 = true then ((group_Member.f a0).bind fun t312 => ((cohousingref08_Member.f k a0).bind fun t313 => (if (t312 == t313) = true then (if bt308.1 = bt310.1 then (cohousinglaw08_GroupMatchesReference.j0 k a0 a1 a2 a3 t305 (bt308.2 == bt310.2) a4_0 a4_1) else (cohousinglaw08_GroupMatchesReference.j0 k a0 a1 a2 a3 t305 false a4_0 a4_1)) else (cohousinglaw08_GroupMatchesReference.j0 k a0 a1 a2 a3 t305 false a4_0 a4_1)))) else (cohousinglaw08_GroupMatchesReference.j0 k a0 a1 a2 a3 t305 false a4_0 a4_1)))))
theorem cohousinglaw08_GroupMatchesReference.mono_l : ∀ k, (∀ y0 y1 y2 y3 y4 y5 y6 y7, LeO (cohousinglaw08_GroupMatchesReference.j0 k y0 y1 y2 y3 y4 y5 y6 y7) (cohousinglaw08_GroupMatchesReference.j0 (k + 1) y0 y1 y2 y3 y4 y5 y6 y7)) ∧ (∀ y0 y1 y2 y3 y4 y5 y6 y7, LeO (cohousinglaw08_GroupMatchesReference.j1 k y0 y1 y2 y3 y4 y5 y6 y7) (cohousinglaw08_GroupMatchesReference.j1 (k + 1) y0 y1 y2 y3 y4 y5 y6 y7)) ∧ (∀ y0 y1 y2 y3 y4 y5 y6 y7, LeO (cohousinglaw08_GroupMatchesReference.j2 k y0 y1 y2 y3 y4 y5 y6 y7) (cohousinglaw08_GroupMatchesReference.j2 (k + 1) y0 y1 y2 y3 y4 y5 y6 y7)) ∧ (∀ y0 y1 y2 y3 y4 y5 y6 y7, LeO (cohousinglaw08_GroupMatchesReference.j3 k y0 y1 y2 y3 y4 y5 y6 y7) (cohousinglaw08_GroupMatchesReference.j3 (k + 1) y0 y1 y2 y3 y4 y5 y6 y7)) ∧ (∀ y0 y1 y2 y3 y4 y5 y6, LeO (cohousinglaw08_GroupMatchesReference.j4 k y0 y1 y2 y3 y4 y5 y6) (cohousinglaw08_GroupMatchesReference.j4 (k + 1) y0 y1 y2 y3 y4 y5 y6))
 | 0 => ⟨fun _ _ _ _ _ _ _ _ r h => by simp [cohousinglaw08_GroupMatchesReference.j0] at h, fun _ _ _ _ _ _ _ _ r h => by simp [cohousinglaw08_GroupMatchesReference.j1] at h, fun _ _ _ _ _ _ _ _ r h => by simp [cohousinglaw08_GroupMatchesReference.j2] at h, fun _ _ _ _ _ _ _ _ r h => by simp [cohousinglaw08_GroupMatchesReference.j3] at h, fun _ _ _ _ _ _ _ r h => by simp [cohousinglaw08_GroupMatchesReference.j4] at h⟩
 | k + 1 => by
  obtain ⟨ih0, ih1, ih2, ih3, ih4⟩ := cohousinglaw08_GroupMatchesReference.mono_l k
  refine ⟨?_, ?_, ?_, ?_, ?_⟩
  ·intro y0 y1 y2 y3 y4 y5 y6 y7
   unfold cohousinglaw08_GroupMatchesReference.j0
   repeat' first
   | (with_reducible exact ih0 _ _ _ _ _ _ _ _)
   | (with_reducible exact ih1 _ _ _ _ _ _ _ _)
   | (with_reducible exact ih2 _ _ _ _ _ _ _ _)
   | (with_reducible exact ih3 _ _ _ _ _ _ _ _)
   | (with_reducible exact ih4 _ _ _ _ _ _ _)
   | (with_reducible exact cohousinglaw08_head.mono _)
   | (with_reducible exact cohousingref08_Commit.mono _ _ _ _)
   | (with_reducible exact cohousingref08_Equal.mono _ _ _ _ _ _ _)
   | (with_reducible exact cohousingref08_Exp.mono _ _ _)
   | (with_reducible exact cohousingref08_Member.mono _ _)
   | (with_reducible exact cohousingref08_Mul.mono _ _ _)
   | (with_reducible exact cohousingref08_Same.mono _ _ _ _ _)
   | (with_reducible exact cohousingref08_Sign.mono _ _ _ _)
   | (with_reducible exact cohousingref08_Verify.mono _ _ _ _ _)
   | (with_reducible exact group_Commit.mono _ _ _ _)
   | (with_reducible exact group_Equal.mono _ _ _ _ _ _ _)
   | (with_reducible exact group_Same.mono _ _ _ _ _)
   | (with_reducible exact group_Sign.mono _ _ _ _)
   | (with_reducible exact group_Verify.mono _ _ _ _ _)
   | (with_reducible exact LeO.refl _)
   | (with_reducible exact LeO.none _)
   | (with_reducible refine LeO.ite ?_ ?_)
   | (with_reducible refine LeO.bind ?_ (fun _ => ?_))
   | exact ih0 _ _ _ _ _ _ _ _
   | exact ih1 _ _ _ _ _ _ _ _
   | exact ih2 _ _ _ _ _ _ _ _
   | exact ih3 _ _ _ _ _ _ _ _
   | exact ih4 _ _ _ _ _ _ _
   | exact cohousinglaw08_head.mono _
   | exact cohousingref08_Commit.mono _ _ _ _
   | exact cohousingref08_Equal.mono _ _ _ _ _ _ _
   | exact cohousingref08_Exp.mono _ _ _
   | exact cohousingref08_Member.mono _ _
   | exact cohousingref08_Mul.mono _ _ _
   | exact cohousingref08_Same.mono _ _ _ _ _
   | exact cohousingref08_Sign.mono _ _ _ _
   | exact cohousingref08_Verify.mono _ _ _ _ _
   | exact group_Commit.mono _ _ _ _
   | exact group_Equal.mono _ _ _ _ _ _ _
   | exact group_Same.mono _ _ _ _ _
   | exact group_Sign.mono _ _ _ _
   | exact group_Verify.mono _ _ _ _ _
   | exact LeO.none _
   | refine LeO.ite ?_ ?_
   | refine LeO.bind ?_ (fun _ => ?_)
  ·intro y0 y1 y2 y3 y4 y5 y6 y7
   unfold cohousinglaw08_GroupMatchesReference.j1
   repeat' first
   | (with_reducible exact ih0 _ _ _ _ _ _ _ _)
   | (with_reducible exact ih1 _ _ _ _ _ _ _ _)
   | (with_reducible exact ih2 _ _ _ _ _ _ _ _)
   | (with_reducible exact ih3 _ _ _ _ _ _ _ _)
   | (with_reducible exact ih4 _ _ _ _ _ _ _)
   | (with_reducible exact cohousinglaw08_head.mono _)
   | (with_reducible exact cohousingref08_Commit.mono _ _ _ _)
   | (with_reducible exact cohousingref08_Equal.mono _ _ _ _ _ _ _)
   | (with_reducible exact cohousingref08_Exp.mono _ _ _)
   | (with_reducible exact cohousingref08_Member.mono _ _)
   | (with_reducible exact cohousingref08_Mul.mono _ _ _)
   | (with_reducible exact cohousingref08_Same.mono _ _ _ _ _)
   | (with_reducible exact cohousingref08_Sign.mono _ _ _ _)
   | (with_reducible exact cohousingref08_Verify.mono _ _ _ _ _)
   | (with_reducible exact group_Commit.mono _ _ _ _)
   | (with_reducible exact group_Equal.mono _ _ _ _ _ _ _)
   | (with_reducible exact group_Same.mono _ _ _ _ _)
   | (with_reducible exact group_Sign.mono _ _ _ _)
   | (with_reducible exact group_Verify.mono _ _ _ _ _)
   | (with_reducible exact LeO.refl _)
   | (with_reducible exact LeO.none _)
   | (with_reducible refine LeO.ite ?_ ?_)
   | (with_reducible refine LeO.bind ?_ (fun _ => ?_))
   | exact ih0 _ _ _ _ _ _ _ _
   | exact ih1 _ _ _ _ _ _ _ _
   | exact ih2 _ _ _ _ _ _ _ _
   | exact ih3 _ _ _ _ _ _ _ _
   | exact ih4 _ _ _ _ _ _ _
   | exact cohousinglaw08_head.mono _
   | exact cohousingref08_Commit.mono _ _ _ _
   | exact cohousingref08_Equal.mono _ _ _ _ _ _ _
   | exact cohousingref08_Exp.mono _ _ _
   | exact cohousingref08_Member.mono _ _
   | exact cohousingref08_Mul.mono _ _ _
   | exact cohousingref08_Same.mono _ _ _ _ _
   | exact cohousingref08_Sign.mono _ _ _ _
   | exact cohousingref08_Verify.mono _ _ _ _ _
   | exact group_Commit.mono _ _ _ _
   | exact group_Equal.mono _ _ _ _ _ _ _
   | exact group_Same.mono _ _ _ _ _
   | exact group_Sign.mono _ _ _ _
   | exact group_Verify.mono _ _ _ _ _
   | exact LeO.none _
   | refine LeO.ite ?_ ?_
   | refine LeO.bind ?_ (fun _ => ?_)
  ·intro y0 y1 y2 y3 y4 y5 y6 y7
   unfold cohousinglaw08_GroupMatchesReference.j2
   repeat' first
   | (with_reducible exact ih0 _ _ _ _ _ _ _ _)
   | (with_reducible exact ih1 _ _ _ _ _ _ _ _)
   | (with_reducible exact ih2 _ _ _ _ _ _ _ _)
   | (with_reducible exact ih3 _ _ _ _ _ _ _ _)
   | (with_reducible exact ih4 _ _ _ _ _ _ _)
   | (with_reducible exact cohousinglaw08_head.mono _)
   | (with_reducible exact cohousingref08_Commit.mono _ _ _ _)
   | (with_reducible exact cohousingref08_Equal.mono _ _ _ _ _ _ _)
   | (with_reducible exact cohousingref08_Exp.mono _ _ _)
   | (with_reducible exact cohousingref08_Member.mono _ _)
   | (with_reducible exact cohousingref08_Mul.mono _ _ _)
   | (with_reducible exact cohousingref08_Same.mono _ _ _ _ _)
   | (with_reducible exact cohousingref08_Sign.mono _ _ _ _)
   | (with_reducible exact cohousingref08_Verify.mono _ _ _ _ _)
   | (with_reducible exact group_Commit.mono _ _ _ _)
   | (with_reducible exact group_Equal.mono _ _ _ _ _ _ _)
   | (with_reducible exact group_Same.mono _ _ _ _ _)
   | (with_reducible exact group_Sign.mono _ _ _ _)
   | (with_reducible exact group_Verify.mono _ _ _ _ _)
   | (with_reducible exact LeO.refl _)
   | (with_reducible exact LeO.none _)
   | (with_reducible refine LeO.ite ?_ ?_)
   | (with_reducible refine LeO.bind ?_ (fun _ => ?_))
   | exact ih0 _ _ _ _ _ _ _ _
   | exact ih1 _ _ _ _ _ _ _ _
   | exact ih2 _ _ _ _ _ _ _ _
   | exact ih3 _ _ _ _ _ _ _ _
   | exact ih4 _ _ _ _ _ _ _
   | exact cohousinglaw08_head.mono _
   | exact cohousingref08_Commit.mono _ _ _ _
   | exact cohousingref08_Equal.mono _ _ _ _ _ _ _
   | exact cohousingref08_Exp.mono _ _ _
   | exact cohousingref08_Member.mono _ _
   | exact cohousingref08_Mul.mono _ _ _
   | exact cohousingref08_Same.mono _ _ _ _ _
   | exact cohousingref08_Sign.mono _ _ _ _
   | exact cohousingref08_Verify.mono _ _ _ _ _
   | exact group_Commit.mono _ _ _ _
   | exact group_Equal.mono _ _ _ _ _ _ _
   | exact group_Same.mono _ _ _ _ _
   | exact group_Sign.mono _ _ _ _
   | exact group_Verify.mono _ _ _ _ _
   | exact LeO.none _
   | refine LeO.ite ?_ ?_
   | refine LeO.bind ?_ (fun _ => ?_)
  ·intro y0 y1 y2 y3 y4 y5 y6 y7
   unfold cohousinglaw08_GroupMatchesReference.j3
   repeat' first
   | (with_reducible exact ih0 _ _ _ _ _ _ _ _)
   | (with_reducible exact ih1 _ _ _ _ _ _ _ _)
   | (with_reducible exact ih2 _ _ _ _ _ _ _ _)
   | (with_reducible exact ih3 _ _ _ _ _ _ _ _)
   | (with_reducible exact ih4 _ _ _ _ _ _ _)
   | (with_reducible exact cohousinglaw08_head.mono _)
   | (with_reducible exact cohousingref08_Commit.mono _ _ _ _)
   | (with_reducible exact cohousingref08_Equal.mono _ _ _ _ _ _ _)
   | (with_reducible exact cohousingref08_Exp.mono _ _ _)
   | (with_reducible exact cohousingref08_Member.mono _ _)
   | (with_reducible exact cohousingref08_Mul.mono _ _ _)
   | (with_reducible exact cohousingref08_Same.mono _ _ _ _ _)
   | (with_reducible exact cohousingref08_Sign.mono _ _ _ _)
   | (with_reducible exact cohousingref08_Verify.mono _ _ _ _ _)
   | (with_reducible exact group_Commit.mono _ _ _ _)
   | (with_reducible exact group_Equal.mono _ _ _ _ _ _ _)
   | (with_reducible exact group_Same.mono _ _ _ _ _)
   | (with_reducible exact group_Sign.mono _ _ _ _)
   | (with_reducible exact group_Verify.mono _ _ _ _ _)
   | (with_reducible exact LeO.refl _)
   | (with_reducible exact LeO.none _)
   | (with_reducible refine LeO.ite ?_ ?_)
   | (with_reducible refine LeO.bind ?_ (fun _ => ?_))
   | exact ih0 _ _ _ _ _ _ _ _
   | exact ih1 _ _ _ _ _ _ _ _
   | exact ih2 _ _ _ _ _ _ _ _
   | exact ih3 _ _ _ _ _ _ _ _
   | exact ih4 _ _ _ _ _ _ _
   | exact cohousinglaw08_head.mono _
   | exact cohousingref08_Commit.mono _ _ _ _
   | exact cohousingref08_Equal.mono _ _ _ _ _ _ _
   | exact cohousingref08_Exp.mono _ _ _
   | exact cohousingref08_Member.mono _ _
   | exact cohousingref08_Mul.mono _ _ _
   | exact cohousingref08_Same.mono _ _ _ _ _
   | exact cohousingref08_Sign.mono _ _ _ _
   | exact cohousingref08_Verify.mono _ _ _ _ _
   | exact group_Commit.mono _ _ _ _
   | exact group_Equal.mono _ _ _ _ _ _ _
   | exact group_Same.mono _ _ _ _ _
   | exact group_Sign.mono _ _ _ _
   | exact group_Verify.mono _ _ _ _ _
   | exact LeO.none _
   | refine LeO.ite ?_ ?_
   | refine LeO.bind ?_ (fun _ => ?_)
  ·intro y0 y1 y2 y3 y4 y5 y6
   unfold cohousinglaw08_GroupMatchesReference.j4
   repeat' first
   | (with_reducible exact ih0 _ _ _ _ _ _ _ _)
   | (with_reducible exact ih1 _ _ _ _ _ _ _ _)
   | (with_reducible exact ih2 _ _ _ _ _ _ _ _)
   | (with_reducible exact ih3 _ _ _ _ _ _ _ _)
   | (with_reducible exact ih4 _ _ _ _ _ _ _)
   | (with_reducible exact cohousinglaw08_head.mono _)
   | (with_reducible exact cohousingref08_Commit.mono _ _ _ _)
   | (with_reducible exact cohousingref08_Equal.mono _ _ _ _ _ _ _)
   | (with_reducible exact cohousingref08_Exp.mono _ _ _)
   | (with_reducible exact cohousingref08_Member.mono _ _)
   | (with_reducible exact cohousingref08_Mul.mono _ _ _)
   | (with_reducible exact cohousingref08_Same.mono _ _ _ _ _)
   | (with_reducible exact cohousingref08_Sign.mono _ _ _ _)
   | (with_reducible exact cohousingref08_Verify.mono _ _ _ _ _)
   | (with_reducible exact group_Commit.mono _ _ _ _)
   | (with_reducible exact group_Equal.mono _ _ _ _ _ _ _)
   | (with_reducible exact group_Same.mono _ _ _ _ _)
   | (with_reducible exact group_Sign.mono _ _ _ _)
   | (with_reducible exact group_Verify.mono _ _ _ _ _)
   | (with_reducible exact LeO.refl _)
   | (with_reducible exact LeO.none _)
   | (with_reducible refine LeO.ite ?_ ?_)
   | (with_reducible refine LeO.bind ?_ (fun _ => ?_))
   | exact ih0 _ _ _ _ _ _ _ _
   | exact ih1 _ _ _ _ _ _ _ _
   | exact ih2 _ _ _ _ _ _ _ _
   | exact ih3 _ _ _ _ _ _ _ _
   | exact ih4 _ _ _ _ _ _ _
   | exact cohousinglaw08_head.mono _
   | exact cohousingref08_Commit.mono _ _ _ _
   | exact cohousingref08_Equal.mono _ _ _ _ _ _ _
   | exact cohousingref08_Exp.mono _ _ _
   | exact cohousingref08_Member.mono _ _
   | exact cohousingref08_Mul.mono _ _ _
   | exact cohousingref08_Same.mono _ _ _ _ _
   | exact cohousingref08_Sign.mono _ _ _ _
   | exact cohousingref08_Verify.mono _ _ _ _ _
   | exact group_Commit.mono _ _ _ _
   | exact group_Equal.mono _ _ _ _ _ _ _
   | exact group_Same.mono _ _ _ _ _
   | exact group_Sign.mono _ _ _ _
   | exact group_Verify.mono _ _ _ _ _
   | exact LeO.none _
   | refine LeO.ite ?_ ?_
   | refine LeO.bind ?_ (fun _ => ?_)
theorem cohousinglaw08_GroupMatchesReference.mono : ∀ a0 a1 a2 a3 a4 a5 a6 k, LeO (cohousinglaw08_GroupMatchesReference.f k a0 a1 a2 a3 a4 a5 a6) (cohousinglaw08_GroupMatchesReference.f (k + 1) a0 a1 a2 a3 a4 a5 a6) := by
 intro a0 a1 a2 a3 a4 a5 a6 k
 obtain ⟨ih0, ih1, ih2, ih3, ih4⟩ := cohousinglaw08_GroupMatchesReference.mono_l k
 unfold cohousinglaw08_GroupMatchesReference.f
 repeat' first
   | (with_reducible exact ih0 _ _ _ _ _ _ _ _)
   | (with_reducible exact ih1 _ _ _ _ _ _ _ _)
   | (with_reducible exact ih2 _ _ _ _ _ _ _ _)
   | (with_reducible exact ih3 _ _ _ _ _ _ _ _)
   | (with_reducible exact ih4 _ _ _ _ _ _ _)
   | (with_reducible exact cohousinglaw08_head.mono _)
   | (with_reducible exact cohousingref08_Commit.mono _ _ _ _)
   | (with_reducible exact cohousingref08_Equal.mono _ _ _ _ _ _ _)
   | (with_reducible exact cohousingref08_Exp.mono _ _ _)
   | (with_reducible exact cohousingref08_Member.mono _ _)
   | (with_reducible exact cohousingref08_Mul.mono _ _ _)
   | (with_reducible exact cohousingref08_Same.mono _ _ _ _ _)
   | (with_reducible exact cohousingref08_Sign.mono _ _ _ _)
   | (with_reducible exact cohousingref08_Verify.mono _ _ _ _ _)
   | (with_reducible exact group_Commit.mono _ _ _ _)
   | (with_reducible exact group_Equal.mono _ _ _ _ _ _ _)
   | (with_reducible exact group_Same.mono _ _ _ _ _)
   | (with_reducible exact group_Sign.mono _ _ _ _)
   | (with_reducible exact group_Verify.mono _ _ _ _ _)
   | (with_reducible exact LeO.refl _)
   | (with_reducible exact LeO.none _)
   | (with_reducible refine LeO.ite ?_ ?_)
   | (with_reducible refine LeO.bind ?_ (fun _ => ?_))
   | exact ih0 _ _ _ _ _ _ _ _
   | exact ih1 _ _ _ _ _ _ _ _
   | exact ih2 _ _ _ _ _ _ _ _
   | exact ih3 _ _ _ _ _ _ _ _
   | exact ih4 _ _ _ _ _ _ _
   | exact cohousinglaw08_head.mono _
   | exact cohousingref08_Commit.mono _ _ _ _
   | exact cohousingref08_Equal.mono _ _ _ _ _ _ _
   | exact cohousingref08_Exp.mono _ _ _
   | exact cohousingref08_Member.mono _ _
   | exact cohousingref08_Mul.mono _ _ _
   | exact cohousingref08_Same.mono _ _ _ _ _
   | exact cohousingref08_Sign.mono _ _ _ _
   | exact cohousingref08_Verify.mono _ _ _ _ _
   | exact group_Commit.mono _ _ _ _
   | exact group_Equal.mono _ _ _ _ _ _ _
   | exact group_Same.mono _ _ _ _ _
   | exact group_Sign.mono _ _ _ _
   | exact group_Verify.mono _ _ _ _ _
   | exact LeO.none _
   | refine LeO.ite ?_ ?_
   | refine LeO.bind ?_ (fun _ => ?_)
set_option maxHeartbeats 8000000 in
set_option maxRecDepth 100000 in
theorem cohousinglaw08_GroupMatchesReference.calls (k : Nat) (a0 : Int) (a1 : Int) (a2 : Int) (a3 : Int) (a4_0 : Int) (a4_1 : Int) (A5 : Option Addr) (c5 : Nat) (l5 : List Int) (r : Bool) (w : World) (hr5 : Kd.C (Kd.int .i64) w A5 l5.length l5) (hc5 : l5.length ≤ c5) (hT : TabOk w) (h : cohousinglaw08_GroupMatchesReference.f k a0 a1 a2 a3 a4_0 a4_1 l5 = some r) :
  Calls Tryd.prog 3 #[.int .i64 a0, .int .i64 a1, .int .i64 a2, .int .i64 a3, .agg #[.int .i64 a4_0, .int .i64 a4_1], .slice A5 l5.length c5] w fun e w' => e = .returned (.bool r) ∧ Below w.heap.size w w' := by
 have hu23 := Tryd.underlying23
 have HR5 := Aside0.mk hr5
 have HC5 := Aside0.mk hc5
 clear hr5 hc5
 have HT := Aside0.mk hT
 clear hT
 have HB := Aside0.mk (Below.refl w.heap.size w)
 have H : ((cohousinglaw08_head.f k).bind fun t304 => ((cohousinglaw08_few.f l5).bind fun t305 => ((group_Mul.f a0 a1).bind fun bt308 => ((cohousingref08_Mul.f k a0 a1).bind fun bt310 => (if t304 = true then ((group_Member.f a0).bind fun t312 => ((cohousingref08_Member.f k a0).bind fun t313 => (if (t312 == t313) = true then (if bt308.1 = bt310.1 then (cohousinglaw08_GroupMatchesReference.j0 k a0 a1 a2 a3 t305 (bt308.2 == bt310.2) a4_0 a4_1) else (cohousinglaw08_GroupMatchesReference.j0 k a0 a1 a2 a3 t305 false a4_0 a4_1)) else (cohousinglaw08_GroupMatchesReference.j0 k a0 a1 a2 a3 t305 false a4_0 a4_1)))) else (cohousinglaw08_GroupMatchesReference.j0 k a0 a1 a2 a3 t305 false a4_0 a4_1)))))) = some r := h
 clear h
 replace H := Option.bind_eq_some_iff.mp H
 obtain ⟨t304, A70, H⟩ := H
 replace H : ((cohousinglaw08_few.f l5).bind fun t305 => ((group_Mul.f a0 a1).bind fun bt308 => ((cohousingref08_Mul.f k a0 a1).bind fun bt310 => (if t304 = true then ((group_Member.f a0).bind fun t312 => ((cohousingref08_Member.f k a0).bind fun t313 => (if (t312 == t313) = true then (if bt308.1 = bt310.1 then (cohousinglaw08_GroupMatchesReference.j0 k a0 a1 a2 a3 t305 (bt308.2 == bt310.2) a4_0 a4_1) else (cohousinglaw08_GroupMatchesReference.j0 k a0 a1 a2 a3 t305 false a4_0 a4_1)) else (cohousinglaw08_GroupMatchesReference.j0 k a0 a1 a2 a3 t305 false a4_0 a4_1)))) else (cohousinglaw08_GroupMatchesReference.j0 k a0 a1 a2 a3 t305 false a4_0 a4_1))))) = some r := H
 have A7 := Aside0.mk A70
 clear A70
 replace H := Option.bind_eq_some_iff.mp H
 obtain ⟨t305, A80, H⟩ := H
 replace H : ((group_Mul.f a0 a1).bind fun bt308 => ((cohousingref08_Mul.f k a0 a1).bind fun bt310 => (if t304 = true then ((group_Member.f a0).bind fun t312 => ((cohousingref08_Member.f k a0).bind fun t313 => (if (t312 == t313) = true then (if bt308.1 = bt310.1 then (cohousinglaw08_GroupMatchesReference.j0 k a0 a1 a2 a3 t305 (bt308.2 == bt310.2) a4_0 a4_1) else (cohousinglaw08_GroupMatchesReference.j0 k a0 a1 a2 a3 t305 false a4_0 a4_1)) else (cohousinglaw08_GroupMatchesReference.j0 k a0 a1 a2 a3 t305 false a4_0 a4_1)))) else (cohousinglaw08_GroupMatchesReference.j0 k a0 a1 a2 a3 t305 false a4_0 a4_1)))) = some r := H
 have A8 := Aside0.mk A80
 clear A80
 replace H := Option.bind_eq_some_iff.mp H
 obtain ⟨⟨t308, t309⟩, A90, H⟩ := H
 replace H : ((cohousingref08_Mul.f k a0 a1).bind fun bt310 => (if t304 = true then ((group_Member.f a0).bind fun t312 => ((cohousingref08_Member.f k a0).bind fun t313 => (if (t312 == t313) = true then (if t308 = bt310.1 then (cohousinglaw08_GroupMatchesReference.j0 k a0 a1 a2 a3 t305 (t309 == bt310.2) a4_0 a4_1) else (cohousinglaw08_GroupMatchesReference.j0 k a0 a1 a2 a3 t305 false a4_0 a4_1)) else (cohousinglaw08_GroupMatchesReference.j0 k a0 a1 a2 a3 t305 false a4_0 a4_1)))) else (cohousinglaw08_GroupMatchesReference.j0 k a0 a1 a2 a3 t305 false a4_0 a4_1))) = some r := H
 have A9 := Aside0.mk A90
 clear A90
 replace H := Option.bind_eq_some_iff.mp H
 obtain ⟨⟨t310, t311⟩, A100, H⟩ := H
 replace H : (if t304 = true then ((group_Member.f a0).bind fun t312 => ((cohousingref08_Member.f k a0).bind fun t313 => (if (t312 == t313) = true then (if t308 = t310 then (cohousinglaw08_GroupMatchesReference.j0 k a0 a1 a2 a3 t305 (t309 == t311) a4_0 a4_1) else (cohousinglaw08_GroupMatchesReference.j0 k a0 a1 a2 a3 t305 false a4_0 a4_1)) else (cohousinglaw08_GroupMatchesReference.j0 k a0 a1 a2 a3 t305 false a4_0 a4_1)))) else (cohousinglaw08_GroupMatchesReference.j0 k a0 a1 a2 a3 t305 false a4_0 a4_1)) = some r := H
 have A10 := Aside0.mk A100
 clear A100
 have HC11 := Aside0.mk H
 clear H
 go_enter Tryd.func3, Tryd.ntmps3
 go_upto_region 5 with (first | ((with_reducible refine gate_dst (N := 10) rfl ?_); refine box_event ?hg (N := 10) ?hd (cs := #[.int .i64 a4_0, .int .i64 a4_1]) (t := 23) ?hr ?_; (case hd => rfl); (case hg => rfl); (case hr => first | (go_simp; done) | (go_simp; rfl)); intro gb303 hg w12 hbox hb; have n0_ := Aside0.mk (below_step (by repeat (first | (with_reducible first | exact HB.out | apply below_alloc | apply pw_below_drewN | apply below_drew1) | exact HB.out)) hb); have n1_ := Aside0.mk (hbox); have n2_ := Aside0.mk ((by rw [hg]; exact (below_size (by repeat (first | (with_reducible first | exact HB.out | apply below_alloc | apply pw_below_drewN | apply below_drew1) | exact HB.out))) : w.heap.size ≤ gb303)); have n3_ := Aside0.mk ((by rw [hg]; exact (below_size (by repeat (first | (with_reducible first | exact HB.out | apply below_alloc | apply pw_below_drewN | apply below_drew1) | exact HB.out))) : w.heap.size ≤ gb303)); clear HB; have HB := n0_; have BK303 := n1_; have GW303 := n2_; have GE303 := n3_; clear n0_ n1_ n2_ n3_; clear hb hbox hg) | ((with_reducible refine gate_callee (f := 10) rfl ?_); refine goesL_ (some 26) rfl rfl Tryd.func10 (by kernel_rfl) rfl #[] rfl (by (try simp only [List.map_toArray, List.map_cons, List.map_nil]); first | done | rfl | (simp only [List.length_drop, List.length_take]; rfl)) ?_; (with_reducible refine (cohousinglaw08_head.calls k  t304 _ ?side1 A7.out).mono ?_); (case side1 => exact TabOk.below HT.out (by repeat (first | (with_reducible first | exact HB.out | apply below_alloc | apply pw_below_drewN | apply below_drew1 | refine below_set ?_ GE303.out) | exact HB.out))); rintro e w13 ⟨rfl, hb⟩; refine ⟨_, rfl, ?_⟩; have n0_ := Aside0.mk (blk_below (g := gb303) (o := .cells #[.int .i64 a4_0, .int .i64 a4_1] 23 (0, 0)) (by (with_reducible repeat (first | refine blk_drewN ?_ _ | refine blk_drew ?_ | refine blk_alloc ?_ _)); exact BK303.out) hb); have n1_ := Aside0.mk (below_step (by repeat (first | (with_reducible first | exact HB.out | apply below_alloc | apply pw_below_drewN | apply below_drew1 | refine below_set ?_ GE303.out) | exact HB.out)) hb); clear BK303; clear HB; have BK303 := n0_; have HB := n1_; clear n0_ n1_; (try clear hb); (try clear hb2); (try clear hk); (try clear hi)) | ((with_reducible refine gate_callee (f := 11) rfl ?_); refine goesL_ (some 28) rfl rfl Tryd.func11 (by kernel_rfl) rfl #[.slice A5 l5.length c5] rfl (by (try simp only [List.map_toArray, List.map_cons, List.map_nil]); first | done | rfl | (simp only [List.length_drop, List.length_take]; rfl)) ?_; (with_reducible refine (cohousinglaw08_few.calls (fun k_ => k_ < w.heap.size) _ _ l5 t305 _ ?side1 A8.out).mono ?_); (case side1 => exact Kd.V_mk HC5.out (Kd.F_below (Kd.C_F (Kd.heap_int .i64) HR5.out) (by repeat (first | (with_reducible first | exact HB.out | apply below_alloc | apply pw_below_drewN | apply below_drew1 | refine below_set ?_ GE303.out) | exact HB.out)))); rintro e w14 ⟨v306, rfl, ho0, hb⟩; refine ⟨_, rfl, ?_⟩; have n0_ := Aside0.mk (Kd.V_lower (Kd.V_mono (ok' := fun k_ => k_ ≠ gb303) ho0 (fun k_ hk_ => Or.elim hk_ (fun hs_ => fun e_ => Nat.not_le.2 hs_ (by rw [e_]; exact GW303.out)) (fun hn_ => (Kd.freshB (g := gb303) (o := .cells #[.int .i64 a4_0, .int .i64 a4_1] 23 (0, 0)) (by (with_reducible repeat (first | refine blk_drewN ?_ _ | refine blk_drew ?_ | refine blk_alloc ?_ _)); exact BK303.out) k_ hn_)))) (below_size (by repeat (first | (with_reducible first | exact HB.out | apply below_alloc | apply pw_below_drewN | apply below_drew1 | refine below_set ?_ GE303.out) | exact HB.out)))); have n1_ := Aside0.mk (blk_below (g := gb303) (o := .cells #[.int .i64 a4_0, .int .i64 a4_1] 23 (0, 0)) (by (with_reducible repeat (first | refine blk_drewN ?_ _ | refine blk_drew ?_ | refine blk_alloc ?_ _)); exact BK303.out) hb); have n2_ := Aside0.mk (below_step (by repeat (first | (with_reducible first | exact HB.out | apply below_alloc | apply pw_below_drewN | apply below_drew1 | refine below_set ?_ GE303.out) | exact HB.out)) hb); clear BK303; clear HB; have HO307 := n0_; have BK303 := n1_; have HB := n2_; clear n0_ n1_ n2_; (try clear hb); (try clear hb2); (try clear hk); (try clear hi); (try clear ho0)) | ((with_reducible refine gate_callee (f := 12) rfl ?_); refine goesL_ (some 32) rfl rfl Tryd.func12 (by kernel_rfl) rfl #[.int .i64 a0, .int .i64 a1] rfl (by (try simp only [List.map_toArray, List.map_cons, List.map_nil]); first | done | rfl | (simp only [List.length_drop, List.length_take]; rfl)) ?_; (with_reducible refine (group_Mul.calls a0 a1 t308 t309 _ A9.out).mono ?_); rintro e w15 ⟨rfl, hb⟩; refine ⟨_, rfl, ?_⟩; have n0_ := Aside0.mk (Kd.V_below (by (with_reducible repeat (first | apply Kd.V_alloc | apply Kd.V_drewN | apply Kd.V_drew)); exact HO307.out) hb); have n1_ := Aside0.mk (blk_below (g := gb303) (o := .cells #[.int .i64 a4_0, .int .i64 a4_1] 23 (0, 0)) (by (with_reducible repeat (first | refine blk_drewN ?_ _ | refine blk_drew ?_ | refine blk_alloc ?_ _)); exact BK303.out) hb); have n2_ := Aside0.mk (below_step (by repeat (first | (with_reducible first | exact HB.out | apply below_alloc | apply pw_below_drewN | apply below_drew1 | refine below_set ?_ GE303.out) | exact HB.out)) hb); clear HO307; clear BK303; clear HB; have HO307 := n0_; have BK303 := n1_; have HB := n2_; clear n0_ n1_ n2_; (try clear hb); (try clear hb2); (try clear hk); (try clear hi)) | ((with_reducible refine gate_callee (f := 13) rfl ?_); refine goesL_ (some 38) rfl rfl Tryd.func13 (by kernel_rfl) rfl #[.int .i64 a0, .int .i64 a1] rfl (by (try simp only [List.map_toArray, List.map_cons, List.map_nil]); first | done | rfl | (simp only [List.length_drop, List.length_take]; rfl)) ?_; (with_reducible refine (cohousingref08_Mul.calls k a0 a1 t310 t311 _ A10.out).mono ?_); rintro e w' ⟨rfl, ⟨nd, rfl⟩⟩; refine ⟨_, rfl, ?_⟩))
 (try simp only [Act.put, List.setIfInBounds_toArray, List.set_cons_zero, List.set_cons_succ])
 go_cut [13] (fun v13 wc => ∃ (kq : Nat) (x13_10 : Bool), v13 = .bool x13_10 ∧ Aside0 (cohousinglaw08_GroupMatchesReference.j0 kq a0 a1 a2 a3 t305 x13_10 a4_0 a4_1 = some r) ∧ Aside0 (kq ≤ k) ∧ Aside0 (Kd.V (Kd.int .i64) 3 wc w.heap.size (fun k_ => k_ ≠ gb303) v306 t305) ∧ Aside0 (wc.heap[gb303]? = some (.cells #[.int .i64 a4_0, .int .i64 a4_1] 23 (0, 0))) ∧ Aside0 (Below w.heap.size w wc))
 case first =>
  as_aux_lemma =>
   have H := HC11.out
   clear HC11
   by_cases c16 : t304 = true
   ·subst c16
    have H1 : ((group_Member.f a0).bind fun t312 => ((cohousingref08_Member.f k a0).bind fun t313 => (if (t312 == t313) = true then (if t308 = t310 then (cohousinglaw08_GroupMatchesReference.j0 k a0 a1 a2 a3 t305 (t309 == t311) a4_0 a4_1) else (cohousinglaw08_GroupMatchesReference.j0 k a0 a1 a2 a3 t305 false a4_0 a4_1)) else (cohousinglaw08_GroupMatchesReference.j0 k a0 a1 a2 a3 t305 false a4_0 a4_1)))) = some r := by rw [if_pos rfl] at H; exact H
    clear H
    have H := H1
    clear H1
    replace H := Option.bind_eq_some_iff.mp H
    obtain ⟨t312, A170, H⟩ := H
    replace H : ((cohousingref08_Member.f k a0).bind fun t313 => (if (t312 == t313) = true then (if t308 = t310 then (cohousinglaw08_GroupMatchesReference.j0 k a0 a1 a2 a3 t305 (t309 == t311) a4_0 a4_1) else (cohousinglaw08_GroupMatchesReference.j0 k a0 a1 a2 a3 t305 false a4_0 a4_1)) else (cohousinglaw08_GroupMatchesReference.j0 k a0 a1 a2 a3 t305 false a4_0 a4_1))) = some r := H
    have A17 := Aside0.mk A170
    clear A170
    replace H := Option.bind_eq_some_iff.mp H
    obtain ⟨t313, A180, H⟩ := H
    replace H : (if (t312 == t313) = true then (if t308 = t310 then (cohousinglaw08_GroupMatchesReference.j0 k a0 a1 a2 a3 t305 (t309 == t311) a4_0 a4_1) else (cohousinglaw08_GroupMatchesReference.j0 k a0 a1 a2 a3 t305 false a4_0 a4_1)) else (cohousinglaw08_GroupMatchesReference.j0 k a0 a1 a2 a3 t305 false a4_0 a4_1)) = some r := H
    have A18 := Aside0.mk A180
    clear A180
    by_cases c19 : (t312 == t313) = true
    ·rw [if_pos c19] at H
     have c19b0 : (t312 == t313) = true := c19
     (try (have c19b1 : decide (t312 = t313) = true := by simpa using c19))
     (try (have c19b2 : (t312 == t313) = true := by simpa using c19))
     clear c19
     (first | rw [c19b0] | (simp only [i64_w, i32_w]; rw [c19b0]) | skip)
     by_cases c20 : t308 = t310
     ·rw [if_pos c20] at H
      have c20b0 : (t308 == t310) = true := beq_iff_eq.mpr c20
      have c20b1 : (t308 != t310) = false := bne_eq_false_iff_eq.mpr c20
      clear c20
      have H' := Aside0.mk H
      clear H
      go_wp2_with (first | (go_at_call 14; (with_reducible refine (group_Member.calls a0 t312 _ A17.out).mono ?_); rintro e w21 ⟨rfl, hb⟩; have n0_ := Aside0.mk (Kd.V_below (by (with_reducible repeat (first | apply Kd.V_alloc | apply Kd.V_drewN | apply Kd.V_drew)); exact HO307.out) hb); have n1_ := Aside0.mk (blk_below (g := gb303) (o := .cells #[.int .i64 a4_0, .int .i64 a4_1] 23 (0, 0)) (by (with_reducible repeat (first | refine blk_drewN ?_ _ | refine blk_drew ?_ | refine blk_alloc ?_ _)); exact BK303.out) hb); have n2_ := Aside0.mk (below_step (by repeat (first | (with_reducible first | exact HB.out | apply below_alloc | apply pw_below_drewN | apply below_drew1 | refine below_set ?_ GE303.out) | exact HB.out)) hb); clear HO307; clear BK303; clear HB; have HO307 := n0_; have BK303 := n1_; have HB := n2_; clear n0_ n1_ n2_; (try clear hb); (try clear hb2); (try clear hk); (try clear hi)) | (go_at_call 15; (with_reducible refine (cohousingref08_Member.calls k a0 t313 _ A18.out).mono ?_); rintro e w' ⟨rfl, ⟨nd, rfl⟩⟩))
      go_meet
      case rel => exact ⟨_, ((t309 == t311)), (by first | rfl | (simp; done) | (simp [*]; done)), H', ⟨by first | omega | exact Nat.le_refl _⟩, ⟨by (with_reducible repeat (first | apply Kd.V_alloc | apply Kd.V_drewN | apply Kd.V_drew)); exact HO307.out⟩, ⟨by (with_reducible repeat (first | refine blk_drewN ?_ _ | refine blk_drew ?_ | refine blk_alloc ?_ _)); exact BK303.out⟩, ⟨by repeat (first | (with_reducible first | exact HB.out | apply below_alloc | apply pw_below_drewN | apply below_drew1 | refine below_set ?_ GE303.out) | exact HB.out)⟩⟩
     ·rw [if_neg c20] at H
      have c20b0 : (t308 == t310) = false := beq_eq_false_iff_ne.mpr c20
      have c20b1 : (t308 != t310) = true := bne_iff_ne.mpr c20
      have H' := Aside0.mk H
      clear H
      go_wp2_with (first | (go_at_call 14; (with_reducible refine (group_Member.calls a0 t312 _ A17.out).mono ?_); rintro e w22 ⟨rfl, hb⟩; have n0_ := Aside0.mk (Kd.V_below (by (with_reducible repeat (first | apply Kd.V_alloc | apply Kd.V_drewN | apply Kd.V_drew)); exact HO307.out) hb); have n1_ := Aside0.mk (blk_below (g := gb303) (o := .cells #[.int .i64 a4_0, .int .i64 a4_1] 23 (0, 0)) (by (with_reducible repeat (first | refine blk_drewN ?_ _ | refine blk_drew ?_ | refine blk_alloc ?_ _)); exact BK303.out) hb); have n2_ := Aside0.mk (below_step (by repeat (first | (with_reducible first | exact HB.out | apply below_alloc | apply pw_below_drewN | apply below_drew1 | refine below_set ?_ GE303.out) | exact HB.out)) hb); clear HO307; clear BK303; clear HB; have HO307 := n0_; have BK303 := n1_; have HB := n2_; clear n0_ n1_ n2_; (try clear hb); (try clear hb2); (try clear hk); (try clear hi)) | (go_at_call 15; (with_reducible refine (cohousingref08_Member.calls k a0 t313 _ A18.out).mono ?_); rintro e w' ⟨rfl, ⟨nd, rfl⟩⟩))
      go_meet
      case rel => exact ⟨_, (false), (by first | rfl | (simp; done) | (simp [*]; done)), H', ⟨by first | omega | exact Nat.le_refl _⟩, ⟨by (with_reducible repeat (first | apply Kd.V_alloc | apply Kd.V_drewN | apply Kd.V_drew)); exact HO307.out⟩, ⟨by (with_reducible repeat (first | refine blk_drewN ?_ _ | refine blk_drew ?_ | refine blk_alloc ?_ _)); exact BK303.out⟩, ⟨by repeat (first | (with_reducible first | exact HB.out | apply below_alloc | apply pw_below_drewN | apply below_drew1 | refine below_set ?_ GE303.out) | exact HB.out)⟩⟩
    ·rw [if_neg c19] at H
     have c19b0 : (t312 == t313) = false := by simpa using c19
     (try (have c19b1 : decide (t312 = t313) = false := by simpa using c19))
     (try (have c19b2 : (t312 == t313) = false := by simpa using c19))
     (try (have c19b3 : ¬ (t312 = t313) := by simpa using c19))
     clear c19
     (first | rw [c19b0] | (simp only [i64_w, i32_w]; rw [c19b0]) | skip)
     have H' := Aside0.mk H
     clear H
     go_wp2_with (first | (go_at_call 14; (with_reducible refine (group_Member.calls a0 t312 _ A17.out).mono ?_); rintro e w23 ⟨rfl, hb⟩; have n0_ := Aside0.mk (Kd.V_below (by (with_reducible repeat (first | apply Kd.V_alloc | apply Kd.V_drewN | apply Kd.V_drew)); exact HO307.out) hb); have n1_ := Aside0.mk (blk_below (g := gb303) (o := .cells #[.int .i64 a4_0, .int .i64 a4_1] 23 (0, 0)) (by (with_reducible repeat (first | refine blk_drewN ?_ _ | refine blk_drew ?_ | refine blk_alloc ?_ _)); exact BK303.out) hb); have n2_ := Aside0.mk (below_step (by repeat (first | (with_reducible first | exact HB.out | apply below_alloc | apply pw_below_drewN | apply below_drew1 | refine below_set ?_ GE303.out) | exact HB.out)) hb); clear HO307; clear BK303; clear HB; have HO307 := n0_; have BK303 := n1_; have HB := n2_; clear n0_ n1_ n2_; (try clear hb); (try clear hb2); (try clear hk); (try clear hi)) | (go_at_call 15; (with_reducible refine (cohousingref08_Member.calls k a0 t313 _ A18.out).mono ?_); rintro e w' ⟨rfl, ⟨nd, rfl⟩⟩))
     go_meet
     case rel => exact ⟨_, (false), (by first | rfl | (simp; done) | (simp [*]; done)), H', ⟨by first | omega | exact Nat.le_refl _⟩, ⟨by (with_reducible repeat (first | apply Kd.V_alloc | apply Kd.V_drewN | apply Kd.V_drew)); exact HO307.out⟩, ⟨by (with_reducible repeat (first | refine blk_drewN ?_ _ | refine blk_drew ?_ | refine blk_alloc ?_ _)); exact BK303.out⟩, ⟨by repeat (first | (with_reducible first | exact HB.out | apply below_alloc | apply pw_below_drewN | apply below_drew1 | refine below_set ?_ GE303.out) | exact HB.out)⟩⟩
   ·replace c16 := Bool.eq_false_iff.mpr c16
    subst c16
    have H1 : (cohousinglaw08_GroupMatchesReference.j0 k a0 a1 a2 a3 t305 false a4_0 a4_1) = some r := by rw [if_neg (show ¬ (false = true) by decide)] at H; exact H
    clear H
    have H := H1
    clear H1
    have H' := Aside0.mk H
    clear H
    go_wp2
    go_meet
    case rel => exact ⟨_, (false), (by first | rfl | (simp; done) | (simp [*]; done)), H', ⟨by first | omega | exact Nat.le_refl _⟩, ⟨by (with_reducible repeat (first | apply Kd.V_alloc | apply Kd.V_drewN | apply Kd.V_drew)); exact HO307.out⟩, ⟨by (with_reducible repeat (first | refine blk_drewN ?_ _ | refine blk_drew ?_ | refine blk_alloc ?_ _)); exact BK303.out⟩, ⟨by repeat (first | (with_reducible first | exact HB.out | apply below_alloc | apply pw_below_drewN | apply below_drew1 | refine below_set ?_ GE303.out) | exact HB.out)⟩⟩
 case rest =>
  as_aux_lemma =>
   clear HC11
   try clear c1
   try clear c2
   try clear p2
   try clear c3
   try clear c5
   try clear c10
   try clear c11
   try clear c12
   try clear c13
   try clear c16
   try clear c19
   try clear c19b0
   try clear c19b1
   try clear c19b2
   try clear c20
   try clear c20b0
   try clear c20b1
   obtain ⟨kq, x13_10, rfl, HA, HJ10, HO_5, BK303, HB⟩ := hcut
   cases kq with
   | zero => exact absurd HA.out (by simp [cohousinglaw08_GroupMatchesReference.j0])
   | succ kj10 =>
    have H := HA.out
    clear HA
    simp only [cohousinglaw08_GroupMatchesReference.j0] at H
    replace H := Option.bind_eq_some_iff.mp H
    obtain ⟨⟨t314, t315⟩, A240, H⟩ := H
    replace H : ((cohousingref08_Exp.f kj10 a0 a2).bind fun bt316 => (if x13_10 = true then (if t314 = bt316.1 then (cohousinglaw08_GroupMatchesReference.j1 kj10 a0 a1 a2 a3 t305 (t315 == bt316.2) a4_0 a4_1) else (cohousinglaw08_GroupMatchesReference.j1 kj10 a0 a1 a2 a3 t305 false a4_0 a4_1)) else (cohousinglaw08_GroupMatchesReference.j1 kj10 a0 a1 a2 a3 t305 false a4_0 a4_1))) = some r := H
    have A24 := Aside0.mk A240
    clear A240
    replace H := Option.bind_eq_some_iff.mp H
    obtain ⟨⟨t316, t317⟩, A250, H⟩ := H
    replace H : (if x13_10 = true then (if t314 = t316 then (cohousinglaw08_GroupMatchesReference.j1 kj10 a0 a1 a2 a3 t305 (t315 == t317) a4_0 a4_1) else (cohousinglaw08_GroupMatchesReference.j1 kj10 a0 a1 a2 a3 t305 false a4_0 a4_1)) else (cohousinglaw08_GroupMatchesReference.j1 kj10 a0 a1 a2 a3 t305 false a4_0 a4_1)) = some r := H
    have A25 := Aside0.mk A250
    clear A250
    have HC26 := Aside0.mk H
    clear H
    go_upto_region 8 with (first | ((with_reducible refine gate_callee (f := 16) rfl ?_); refine goesL_ (some 62) rfl rfl Tryd.func16 (by kernel_rfl) rfl #[.int .i64 a0, .int .i64 a2] rfl (by (try simp only [List.map_toArray, List.map_cons, List.map_nil]); first | done | rfl | (simp only [List.length_drop, List.length_take]; rfl)) ?_; (with_reducible refine (group_Exp.calls a0 a2 t314 t315 _ A24.out).mono ?_); rintro e w27 ⟨rfl, hb⟩; refine ⟨_, rfl, ?_⟩; have n0_ := Aside0.mk (Kd.V_below (by (with_reducible repeat (first | apply Kd.V_alloc | apply Kd.V_drewN | apply Kd.V_drew)); exact HO_5.out) hb); have n1_ := Aside0.mk (blk_below (g := gb303) (o := .cells #[.int .i64 a4_0, .int .i64 a4_1] 23 (0, 0)) (by (with_reducible repeat (first | refine blk_drewN ?_ _ | refine blk_drew ?_ | refine blk_alloc ?_ _)); exact BK303.out) hb); have n2_ := Aside0.mk (below_step (by repeat (first | (with_reducible first | exact HB.out | apply below_alloc | apply pw_below_drewN | apply below_drew1 | refine below_set ?_ GE303.out) | exact HB.out)) hb); clear HO_5; clear BK303; clear HB; have HO_5 := n0_; have BK303 := n1_; have HB := n2_; clear n0_ n1_ n2_; (try clear hb); (try clear hb2); (try clear hk); (try clear hi)) | ((with_reducible refine gate_callee (f := 17) rfl ?_); refine goesL_ (some 68) rfl rfl Tryd.func17 (by kernel_rfl) rfl #[.int .i64 a0, .int .i64 a2] rfl (by (try simp only [List.map_toArray, List.map_cons, List.map_nil]); first | done | rfl | (simp only [List.length_drop, List.length_take]; rfl)) ?_; (with_reducible refine (cohousingref08_Exp.calls kj10 a0 a2 t316 t317 _ A25.out).mono ?_); rintro e w' ⟨rfl, ⟨nd, rfl⟩⟩; refine ⟨_, rfl, ?_⟩))
    (try simp only [Act.put, List.setIfInBounds_toArray, List.set_cons_zero, List.set_cons_succ])
    go_cut [13] (fun v13 wc => ∃ (kq : Nat) (x13_25 : Bool), v13 = .bool x13_25 ∧ Aside0 (cohousinglaw08_GroupMatchesReference.j1 kq a0 a1 a2 a3 t305 x13_25 a4_0 a4_1 = some r) ∧ Aside0 (kq ≤ kj10) ∧ Aside0 (Kd.V (Kd.int .i64) 3 wc w.heap.size (fun k_ => k_ ≠ gb303) v306 t305) ∧ Aside0 (wc.heap[gb303]? = some (.cells #[.int .i64 a4_0, .int .i64 a4_1] 23 (0, 0))) ∧ Aside0 (Below w.heap.size w wc))
    case first =>
     as_aux_lemma =>
      have H := HC26.out
      clear HC26
      by_cases c28 : x13_10 = true
      ·subst c28
       have H1 : (if t314 = t316 then (cohousinglaw08_GroupMatchesReference.j1 kj10 a0 a1 a2 a3 t305 (t315 == t317) a4_0 a4_1) else (cohousinglaw08_GroupMatchesReference.j1 kj10 a0 a1 a2 a3 t305 false a4_0 a4_1)) = some r := by rw [if_pos rfl] at H; exact H
       clear H
       have H := H1
       clear H1
       by_cases c29 : t314 = t316
       ·rw [if_pos c29] at H
        have c29b0 : (t314 == t316) = true := beq_iff_eq.mpr c29
        have c29b1 : (t314 != t316) = false := bne_eq_false_iff_eq.mpr c29
        clear c29
        (first | rw [c29b0] | (simp only [i64_w, i32_w]; rw [c29b0]) | skip)
        have H' := Aside0.mk H
        clear H
        go_wp2
        go_meet
        case rel => exact ⟨_, ((t315 == t317)), (by first | rfl | (simp; done) | (simp [*]; done)), H', ⟨by have := HJ10.out; first | omega | exact Nat.le_refl _⟩, ⟨by (with_reducible repeat (first | apply Kd.V_alloc | apply Kd.V_drewN | apply Kd.V_drew)); exact HO_5.out⟩, ⟨by (with_reducible repeat (first | refine blk_drewN ?_ _ | refine blk_drew ?_ | refine blk_alloc ?_ _)); exact BK303.out⟩, ⟨by repeat (first | (with_reducible first | exact HB.out | apply below_alloc | apply pw_below_drewN | apply below_drew1 | refine below_set ?_ GE303.out) | exact HB.out)⟩⟩
       ·rw [if_neg c29] at H
        have c29b0 : (t314 == t316) = false := beq_eq_false_iff_ne.mpr c29
        have c29b1 : (t314 != t316) = true := bne_iff_ne.mpr c29
        (first | rw [c29b0] | (simp only [i64_w, i32_w]; rw [c29b0]) | skip)
        have H' := Aside0.mk H
        clear H
        go_wp2
        go_meet
        case rel => exact ⟨_, (false), (by first | rfl | (simp; done) | (simp [*]; done)), H', ⟨by have := HJ10.out; first | omega | exact Nat.le_refl _⟩, ⟨by (with_reducible repeat (first | apply Kd.V_alloc | apply Kd.V_drewN | apply Kd.V_drew)); exact HO_5.out⟩, ⟨by (with_reducible repeat (first | refine blk_drewN ?_ _ | refine blk_drew ?_ | refine blk_alloc ?_ _)); exact BK303.out⟩, ⟨by repeat (first | (with_reducible first | exact HB.out | apply below_alloc | apply pw_below_drewN | apply below_drew1 | refine below_set ?_ GE303.out) | exact HB.out)⟩⟩
      ·replace c28 := Bool.eq_false_iff.mpr c28
       subst c28
       have H1 : (cohousinglaw08_GroupMatchesReference.j1 kj10 a0 a1 a2 a3 t305 false a4_0 a4_1) = some r := by rw [if_neg (show ¬ (false = true) by decide)] at H; exact H
       clear H
       have H := H1
       clear H1
       have H' := Aside0.mk H
       clear H
       go_wp2
       go_meet
       case rel => exact ⟨_, (false), (by first | rfl | (simp; done) | (simp [*]; done)), H', ⟨by have := HJ10.out; first | omega | exact Nat.le_refl _⟩, ⟨by (with_reducible repeat (first | apply Kd.V_alloc | apply Kd.V_drewN | apply Kd.V_drew)); exact HO_5.out⟩, ⟨by (with_reducible repeat (first | refine blk_drewN ?_ _ | refine blk_drew ?_ | refine blk_alloc ?_ _)); exact BK303.out⟩, ⟨by repeat (first | (with_reducible first | exact HB.out | apply below_alloc | apply pw_below_drewN | apply below_drew1 | refine below_set ?_ GE303.out) | exact HB.out)⟩⟩
    case rest =>
     as_aux_lemma =>
      clear HC26
      try clear c1
      try clear c2
      try clear p2
      try clear c3
      try clear c5
      try clear c10
      try clear c11
      try clear c12
      try clear c13
      try clear c16
      try clear c17
      try clear c19
      try clear c19b0
      try clear c19b1
      try clear c19b2
      try clear c20
      try clear c20b0
      try clear c20b1
      try clear c28
      try clear c29
      try clear c29b0
      try clear c29b1
      try clear p2
      obtain ⟨kq, x13_25, rfl, HA, HJ25, HO_5, BK303, HB⟩ := hcut
      cases kq with
      | zero => exact absurd HA.out (by simp [cohousinglaw08_GroupMatchesReference.j1])
      | succ kj25 =>
       have H := HA.out
       clear HA
       simp only [cohousinglaw08_GroupMatchesReference.j1] at H
       replace H := Option.bind_eq_some_iff.mp H
       obtain ⟨⟨t318, t319⟩, A300, H⟩ := H
       replace H : ((cohousingref08_Commit.f kj25 a1 a2 a3).bind fun bt320 => (if x13_25 = true then (if t318 = bt320.1 then (cohousinglaw08_GroupMatchesReference.j2 kj25 a0 a1 a2 a3 t305 (t319 == bt320.2) a4_0 a4_1) else (cohousinglaw08_GroupMatchesReference.j2 kj25 a0 a1 a2 a3 t305 false a4_0 a4_1)) else (cohousinglaw08_GroupMatchesReference.j2 kj25 a0 a1 a2 a3 t305 false a4_0 a4_1))) = some r := H
       have A30 := Aside0.mk A300
       clear A300
       replace H := Option.bind_eq_some_iff.mp H
       obtain ⟨⟨t320, t321⟩, A310, H⟩ := H
       replace H : (if x13_25 = true then (if t318 = t320 then (cohousinglaw08_GroupMatchesReference.j2 kj25 a0 a1 a2 a3 t305 (t319 == t321) a4_0 a4_1) else (cohousinglaw08_GroupMatchesReference.j2 kj25 a0 a1 a2 a3 t305 false a4_0 a4_1)) else (cohousinglaw08_GroupMatchesReference.j2 kj25 a0 a1 a2 a3 t305 false a4_0 a4_1)) = some r := H
       have A31 := Aside0.mk A310
       clear A310
       have HC32 := Aside0.mk H
       clear H
       go_upto_region 11 with (first | ((with_reducible refine gate_callee (f := 18) rfl ?_); refine goesL_ (some 86) rfl rfl Tryd.func18 (by kernel_rfl) rfl #[.int .i64 a1, .int .i64 a2, .int .i64 a3] rfl (by (try simp only [List.map_toArray, List.map_cons, List.map_nil]); first | done | rfl | (simp only [List.length_drop, List.length_take]; rfl)) ?_; (with_reducible refine (group_Commit.calls kj25 a1 a2 a3 t318 t319 _ A30.out).mono ?_); rintro e w33 ⟨rfl, hb⟩; refine ⟨_, rfl, ?_⟩; have n0_ := Aside0.mk (Kd.V_below (by (with_reducible repeat (first | apply Kd.V_alloc | apply Kd.V_drewN | apply Kd.V_drew)); exact HO_5.out) hb); have n1_ := Aside0.mk (blk_below (g := gb303) (o := .cells #[.int .i64 a4_0, .int .i64 a4_1] 23 (0, 0)) (by (with_reducible repeat (first | refine blk_drewN ?_ _ | refine blk_drew ?_ | refine blk_alloc ?_ _)); exact BK303.out) hb); have n2_ := Aside0.mk (below_step (by repeat (first | (with_reducible first | exact HB.out | apply below_alloc | apply pw_below_drewN | apply below_drew1 | refine below_set ?_ GE303.out) | exact HB.out)) hb); clear HO_5; clear BK303; clear HB; have HO_5 := n0_; have BK303 := n1_; have HB := n2_; clear n0_ n1_ n2_; (try clear hb); (try clear hb2); (try clear hk); (try clear hi)) | ((with_reducible refine gate_callee (f := 19) rfl ?_); refine goesL_ (some 93) rfl rfl Tryd.func19 (by kernel_rfl) rfl #[.int .i64 a1, .int .i64 a2, .int .i64 a3] rfl (by (try simp only [List.map_toArray, List.map_cons, List.map_nil]); first | done | rfl | (simp only [List.length_drop, List.length_take]; rfl)) ?_; (with_reducible refine (cohousingref08_Commit.calls kj25 a1 a2 a3 t320 t321 _ A31.out).mono ?_); rintro e w' ⟨rfl, ⟨nd, rfl⟩⟩; refine ⟨_, rfl, ?_⟩))
       (try simp only [Act.put, List.setIfInBounds_toArray, List.set_cons_zero, List.set_cons_succ])
       go_cut [13] (fun v13 wc => ∃ (kq : Nat) (x13_31 : Bool), v13 = .bool x13_31 ∧ Aside0 (cohousinglaw08_GroupMatchesReference.j2 kq a0 a1 a2 a3 t305 x13_31 a4_0 a4_1 = some r) ∧ Aside0 (kq ≤ kj25) ∧ Aside0 (Kd.V (Kd.int .i64) 3 wc w.heap.size (fun k_ => k_ ≠ gb303) v306 t305) ∧ Aside0 (wc.heap[gb303]? = some (.cells #[.int .i64 a4_0, .int .i64 a4_1] 23 (0, 0))) ∧ Aside0 (Below w.heap.size w wc))
       case first =>
        as_aux_lemma =>
         have H := HC32.out
         clear HC32
         by_cases c34 : x13_25 = true
         ·subst c34
          have H1 : (if t318 = t320 then (cohousinglaw08_GroupMatchesReference.j2 kj25 a0 a1 a2 a3 t305 (t319 == t321) a4_0 a4_1) else (cohousinglaw08_GroupMatchesReference.j2 kj25 a0 a1 a2 a3 t305 false a4_0 a4_1)) = some r := by rw [if_pos rfl] at H; exact H
          clear H
          have H := H1
          clear H1
          by_cases c35 : t318 = t320
          ·rw [if_pos c35] at H
           have c35b0 : (t318 == t320) = true := beq_iff_eq.mpr c35
           have c35b1 : (t318 != t320) = false := bne_eq_false_iff_eq.mpr c35
           clear c35
           (first | rw [c35b0] | (simp only [i64_w, i32_w]; rw [c35b0]) | skip)
           have H' := Aside0.mk H
           clear H
           go_wp2
           go_meet
           case rel => exact ⟨_, ((t319 == t321)), (by first | rfl | (simp; done) | (simp [*]; done)), H', ⟨by have := HJ10.out; have := HJ25.out; first | omega | exact Nat.le_refl _⟩, ⟨by (with_reducible repeat (first | apply Kd.V_alloc | apply Kd.V_drewN | apply Kd.V_drew)); exact HO_5.out⟩, ⟨by (with_reducible repeat (first | refine blk_drewN ?_ _ | refine blk_drew ?_ | refine blk_alloc ?_ _)); exact BK303.out⟩, ⟨by repeat (first | (with_reducible first | exact HB.out | apply below_alloc | apply pw_below_drewN | apply below_drew1 | refine below_set ?_ GE303.out) | exact HB.out)⟩⟩
          ·rw [if_neg c35] at H
           have c35b0 : (t318 == t320) = false := beq_eq_false_iff_ne.mpr c35
           have c35b1 : (t318 != t320) = true := bne_iff_ne.mpr c35
           (first | rw [c35b0] | (simp only [i64_w, i32_w]; rw [c35b0]) | skip)
           have H' := Aside0.mk H
           clear H
           go_wp2
           go_meet
           case rel => exact ⟨_, (false), (by first | rfl | (simp; done) | (simp [*]; done)), H', ⟨by have := HJ10.out; have := HJ25.out; first | omega | exact Nat.le_refl _⟩, ⟨by (with_reducible repeat (first | apply Kd.V_alloc | apply Kd.V_drewN | apply Kd.V_drew)); exact HO_5.out⟩, ⟨by (with_reducible repeat (first | refine blk_drewN ?_ _ | refine blk_drew ?_ | refine blk_alloc ?_ _)); exact BK303.out⟩, ⟨by repeat (first | (with_reducible first | exact HB.out | apply below_alloc | apply pw_below_drewN | apply below_drew1 | refine below_set ?_ GE303.out) | exact HB.out)⟩⟩
         ·replace c34 := Bool.eq_false_iff.mpr c34
          subst c34
          have H1 : (cohousinglaw08_GroupMatchesReference.j2 kj25 a0 a1 a2 a3 t305 false a4_0 a4_1) = some r := by rw [if_neg (show ¬ (false = true) by decide)] at H; exact H
          clear H
          have H := H1
          clear H1
          have H' := Aside0.mk H
          clear H
          go_wp2
          go_meet
          case rel => exact ⟨_, (false), (by first | rfl | (simp; done) | (simp [*]; done)), H', ⟨by have := HJ10.out; have := HJ25.out; first | omega | exact Nat.le_refl _⟩, ⟨by (with_reducible repeat (first | apply Kd.V_alloc | apply Kd.V_drewN | apply Kd.V_drew)); exact HO_5.out⟩, ⟨by (with_reducible repeat (first | refine blk_drewN ?_ _ | refine blk_drew ?_ | refine blk_alloc ?_ _)); exact BK303.out⟩, ⟨by repeat (first | (with_reducible first | exact HB.out | apply below_alloc | apply pw_below_drewN | apply below_drew1 | refine below_set ?_ GE303.out) | exact HB.out)⟩⟩
       case rest =>
        as_aux_lemma =>
         clear HC32
         try clear c1
         try clear c2
         try clear p2
         try clear c3
         try clear c5
         try clear c10
         try clear c11
         try clear c12
         try clear c13
         try clear c16
         try clear c17
         try clear c18
         try clear c19
         try clear c19b0
         try clear c19b1
         try clear c19b2
         try clear c20
         try clear c20b0
         try clear c20b1
         try clear c28
         try clear c29
         try clear c29b0
         try clear c29b1
         try clear c34
         try clear c35
         try clear c35b0
         try clear c35b1
         try clear p2
         obtain ⟨kq, x13_31, rfl, HA, HJ31, HO_5, BK303, HB⟩ := hcut
         cases kq with
         | zero => exact absurd HA.out (by simp [cohousinglaw08_GroupMatchesReference.j2])
         | succ kj31 =>
          have H := HA.out
          clear HA
          simp only [cohousinglaw08_GroupMatchesReference.j2] at H
          replace H := Option.bind_eq_some_iff.mp H
          obtain ⟨⟨t322, t323, t324⟩, A360, H⟩ := H
          replace H : ((cohousingref08_Sign.f kj31 a2 a3 t305).bind fun bt326 => (if x13_31 = true then (if (t322 == bt326.1 && (t323 == bt326.2.1)) = true then (cohousinglaw08_GroupMatchesReference.j3 kj31 a0 a1 a2 a3 t305 (t324 == bt326.2.2) a4_0 a4_1) else (cohousinglaw08_GroupMatchesReference.j3 kj31 a0 a1 a2 a3 t305 false a4_0 a4_1)) else (cohousinglaw08_GroupMatchesReference.j3 kj31 a0 a1 a2 a3 t305 false a4_0 a4_1))) = some r := H
          have A36 := Aside0.mk A360
          clear A360
          replace H := Option.bind_eq_some_iff.mp H
          obtain ⟨⟨t326, t327, t328⟩, A370, H⟩ := H
          replace H : (if x13_31 = true then (if (t322 == t326 && (t323 == t327)) = true then (cohousinglaw08_GroupMatchesReference.j3 kj31 a0 a1 a2 a3 t305 (t324 == t328) a4_0 a4_1) else (cohousinglaw08_GroupMatchesReference.j3 kj31 a0 a1 a2 a3 t305 false a4_0 a4_1)) else (cohousinglaw08_GroupMatchesReference.j3 kj31 a0 a1 a2 a3 t305 false a4_0 a4_1)) = some r := H
          have A37 := Aside0.mk A370
          clear A370
          have HC38 := Aside0.mk H
          clear H
          obtain ⟨Ao39, co39, eo39⟩ := Kd.V_slice HO_5.out
          subst eo39
          go_upto_region 14 with (first | ((with_reducible refine gate_callee (f := 20) rfl ?_); refine goesL_ (some 111) rfl rfl Tryd.func20 (by kernel_rfl) rfl #[.int .i64 a2, .int .i64 a3, .slice Ao39 t305.length co39] rfl (by (try simp only [List.map_toArray, List.map_cons, List.map_nil]); first | done | rfl | (simp only [List.length_drop, List.length_take]; rfl)) ?_; (with_reducible refine (group_Sign.calls kj31 a2 a3 _ _ t305 t322 t323 t324 _ ?side1 ?side2 ?side3 A36.out).mono ?_); (case side1 => repeat (first | exact (Kd.V_reads' HO_5.out).2.2 | (with_reducible refine Kd.C_alloc ?_ _) | (with_reducible refine Kd.C_drewN ?_ _) | (with_reducible refine Kd.C_drew ?_))); (case side2 => exact (Kd.V_reads' HO_5.out).2.1); (case side3 => exact TabOk.below HT.out (by repeat (first | (with_reducible first | exact HB.out | apply below_alloc | apply pw_below_drewN | apply below_drew1 | refine below_set ?_ GE303.out) | exact HB.out))); rintro e w40 ⟨rfl, hb⟩; refine ⟨_, rfl, ?_⟩; have n0_ := Aside0.mk (Kd.V_below (by (with_reducible repeat (first | apply Kd.V_alloc | apply Kd.V_drewN | apply Kd.V_drew)); exact HO_5.out) hb); have n1_ := Aside0.mk (blk_below (g := gb303) (o := .cells #[.int .i64 a4_0, .int .i64 a4_1] 23 (0, 0)) (by (with_reducible repeat (first | refine blk_drewN ?_ _ | refine blk_drew ?_ | refine blk_alloc ?_ _)); exact BK303.out) hb); have n2_ := Aside0.mk (below_step (by repeat (first | (with_reducible first | exact HB.out | apply below_alloc | apply pw_below_drewN | apply below_drew1 | refine below_set ?_ GE303.out) | exact HB.out)) hb); clear HO_5; clear BK303; clear HB; have HO_5 := n0_; have BK303 := n1_; have HB := n2_; clear n0_ n1_ n2_; (try clear hb); (try clear hb2); (try clear hk); (try clear hi)) | ((with_reducible refine gate_dst (N := 18) rfl ?_); refine box_event ?hg (N := 18) ?hd (cs := #[.int .i64 0, .int .i64 0]) (t := 23) ?hr ?_; (case hd => rfl); (case hg => rfl); (case hr => first | (go_simp; done) | (go_simp; rfl)); intro gb325 hg w41 hbox hb; have n0_ := Aside0.mk (Kd.V_below (Kd.V_elderB (by (with_reducible repeat (first | apply Kd.V_alloc | apply Kd.V_drewN | apply Kd.V_drew)); exact HO_5.out) gb325 (Nat.le_of_eq hg.symm)) hb); have n1_ := Aside0.mk (blk_below (g := gb303) (o := .cells #[.int .i64 a4_0, .int .i64 a4_1] 23 (0, 0)) (by (with_reducible repeat (first | refine blk_drewN ?_ _ | refine blk_drew ?_ | refine blk_alloc ?_ _)); exact BK303.out) hb); have n2_ := Aside0.mk (below_step (by repeat (first | (with_reducible first | exact HB.out | apply below_alloc | apply pw_below_drewN | apply below_drew1 | refine below_set ?_ GE303.out) | exact HB.out)) hb); have n3_ := Aside0.mk (hbox); have n4_ := Aside0.mk ((by rw [hg]; exact (below_size (by repeat (first | (with_reducible first | exact HB.out | apply below_alloc | apply pw_below_drewN | apply below_drew1 | refine below_set ?_ GE303.out) | exact HB.out))) : w.heap.size ≤ gb325)); have n5_ := Aside0.mk ((by rw [hg]; exact (below_size (by repeat (first | (with_reducible first | exact HB.out | apply below_alloc | apply pw_below_drewN | apply below_drew1 | refine below_set ?_ GE303.out) | exact HB.out))) : w.heap.size ≤ gb325)); have n6_ := Aside0.mk ((by rw [hg]; exact Nat.ne_of_lt (blk_lt (g := gb303) (o := .cells #[.int .i64 a4_0, .int .i64 a4_1] 23 (0, 0)) (by (with_reducible repeat (first | refine blk_drewN ?_ _ | refine blk_drew ?_ | refine blk_alloc ?_ _)); exact BK303.out)) : gb303 ≠ gb325)); have n7_ := Aside0.mk ((by rw [hg]; exact Nat.ne_of_gt (blk_lt (g := gb303) (o := .cells #[.int .i64 a4_0, .int .i64 a4_1] 23 (0, 0)) (by (with_reducible repeat (first | refine blk_drewN ?_ _ | refine blk_drew ?_ | refine blk_alloc ?_ _)); exact BK303.out)) : gb325 ≠ gb303)); clear HO_5; clear BK303; clear HB; have HO_5 := n0_; have BK303 := n1_; have HB := n2_; have BK325 := n3_; have GW325 := n4_; have GE325 := n5_; have NB303_325 := n6_; have NB325_303 := n7_; clear n0_ n1_ n2_ n3_ n4_ n5_ n6_ n7_; clear hb hbox hg; have hnb42 := NB325_303.out; have hnc42 := NB303_325.out; have hcz43_0 : w41.cell? ⟨gb325, 0, none⟩ = some (.int .i64 0) := (blk_cell BK325.out 0).trans rfl; have hcz43_1 : w41.cell? ⟨gb325, 1, none⟩ = some (.int .i64 0) := (blk_cell BK325.out 1).trans rfl; have hfz43_0 := blk_frozen BK325.out 0; have hfz43_1 := blk_frozen BK325.out 1) | ((with_reducible refine gate_callee (f := 21) rfl ?_); refine goesL_ (some 118) rfl rfl Tryd.func21 (by kernel_rfl) rfl #[.int .i64 a2, .int .i64 a3, .slice Ao39 t305.length co39] rfl (by (try simp only [List.map_toArray, List.map_cons, List.map_nil]); first | done | rfl | (simp only [List.length_drop, List.length_take]; rfl)) ?_; (with_reducible refine (cohousingref08_Sign.calls kj31 a2 a3 _ _ t305 t326 t327 t328 _ ?side1 ?side2 A37.out).mono ?_); (case side1 => refine (Kd.V_reads' (e := 3) (base := w.heap.size) (ok := fun k_ => (k_ ≠ gb303 ∧ k_ ≠ gb325)) (n := t305.length) (c := co39) ?_).2.2; exact (by (with_reducible repeat (first | apply Kd.V_alloc | apply Kd.V_drewN | apply Kd.V_drew)); exact (Kd.V_mono (Kd.V_far (p := ⟨gb325, 1, none⟩) (Kd.V_far (p := ⟨gb325, 0, none⟩) (Kd.V_mono HO_5.out (fun k_ hk => (⟨hk, hk.2⟩ : _ ∧ k_ ≠ gb325))) (fun _ hk => hk.2) (.int .i64 t322)) (fun _ hk => hk.2) (.int .i64 t323)) (fun _ h_ => h_.1)))); (case side2 => exact (Kd.V_reads' HO_5.out).2.1); rintro e w44 ⟨rfl, hb⟩; refine ⟨_, rfl, ?_⟩; have n0_ := Aside0.mk (Kd.V_below (by (with_reducible repeat (first | apply Kd.V_alloc | apply Kd.V_drewN | apply Kd.V_drew)); exact (Kd.V_mono (Kd.V_far (p := ⟨gb325, 1, none⟩) (Kd.V_far (p := ⟨gb325, 0, none⟩) (Kd.V_mono HO_5.out (fun k_ hk => (⟨hk, hk.2⟩ : _ ∧ k_ ≠ gb325))) (fun _ hk => hk.2) (.int .i64 t322)) (fun _ hk => hk.2) (.int .i64 t323)) (fun _ h_ => h_.1))) hb); have n1_ := Aside0.mk (blk_below (g := gb303) (o := .cells #[.int .i64 a4_0, .int .i64 a4_1] 23 (0, 0)) (by (with_reducible repeat (first | refine blk_drewN ?_ _ | refine blk_drew ?_ | refine blk_alloc ?_ _)); refine blk_far ?_ NB303_325.out _; (with_reducible repeat (first | refine blk_drewN ?_ _ | refine blk_drew ?_ | refine blk_alloc ?_ _)); refine blk_far ?_ NB303_325.out _; (with_reducible repeat (first | refine blk_drewN ?_ _ | refine blk_drew ?_ | refine blk_alloc ?_ _)); exact BK303.out) hb); have n2_ := Aside0.mk (blk_below (g := gb325) (o := .cells #[.int .i64 t322, .int .i64 t323] 23 (0, 0)) (by (with_reducible repeat (first | refine blk_drewN ?_ _ | refine blk_drew ?_ | refine blk_alloc ?_ _)); refine blk_put (cs := #[.int .i64 t322, .int .i64 0]) ?_ 1 _ rfl; (with_reducible repeat (first | refine blk_drewN ?_ _ | refine blk_drew ?_ | refine blk_alloc ?_ _)); refine blk_put (cs := #[.int .i64 0, .int .i64 0]) ?_ 0 _ rfl; (with_reducible repeat (first | refine blk_drewN ?_ _ | refine blk_drew ?_ | refine blk_alloc ?_ _)); exact BK325.out) hb); have n3_ := Aside0.mk (below_step (by repeat (first | (with_reducible first | exact HB.out | apply below_alloc | apply pw_below_drewN | apply below_drew1 | refine below_set ?_ GE303.out | refine below_set ?_ GE325.out) | exact HB.out)) hb); clear HO_5; clear BK303; clear BK325; clear HB; have HO_5 := n0_; have BK303 := n1_; have BK325 := n2_; have HB := n3_; clear n0_ n1_ n2_ n3_; (try clear hb); (try clear hb2); (try clear hk); (try clear hi)) | ((with_reducible refine gate_dst (N := 20) rfl ?_); refine box_event ?hg (N := 20) ?hd (cs := #[.int .i64 0, .int .i64 0]) (t := 23) ?hr ?_; (case hd => rfl); (case hg => rfl); (case hr => first | (go_simp; done) | (go_simp; rfl)); intro gb329 hg w45 hbox hb; have n0_ := Aside0.mk (Kd.V_below (Kd.V_elderB (by (with_reducible repeat (first | apply Kd.V_alloc | apply Kd.V_drewN | apply Kd.V_drew)); exact HO_5.out) gb329 (Nat.le_of_eq hg.symm)) hb); have n1_ := Aside0.mk (blk_below (g := gb303) (o := .cells #[.int .i64 a4_0, .int .i64 a4_1] 23 (0, 0)) (by (with_reducible repeat (first | refine blk_drewN ?_ _ | refine blk_drew ?_ | refine blk_alloc ?_ _)); exact BK303.out) hb); have n2_ := Aside0.mk (blk_below (g := gb325) (o := .cells #[.int .i64 t322, .int .i64 t323] 23 (0, 0)) (by (with_reducible repeat (first | refine blk_drewN ?_ _ | refine blk_drew ?_ | refine blk_alloc ?_ _)); exact BK325.out) hb); have n3_ := Aside0.mk (below_step (by repeat (first | (with_reducible first | exact HB.out | apply below_alloc | apply pw_below_drewN | apply below_drew1 | refine below_set ?_ GE303.out | refine below_set ?_ GE325.out) | exact HB.out)) hb); have n4_ := Aside0.mk (hbox); have n5_ := Aside0.mk ((by rw [hg]; exact (below_size (by repeat (first | (with_reducible first | exact HB.out | apply below_alloc | apply pw_below_drewN | apply below_drew1 | refine below_set ?_ GE303.out | refine below_set ?_ GE325.out) | exact HB.out))) : w.heap.size ≤ gb329)); have n6_ := Aside0.mk ((by rw [hg]; exact (below_size (by repeat (first | (with_reducible first | exact HB.out | apply below_alloc | apply pw_below_drewN | apply below_drew1 | refine below_set ?_ GE303.out | refine below_set ?_ GE325.out) | exact HB.out))) : w.heap.size ≤ gb329)); have n7_ := Aside0.mk ((by rw [hg]; exact Nat.ne_of_lt (blk_lt (g := gb303) (o := .cells #[.int .i64 a4_0, .int .i64 a4_1] 23 (0, 0)) (by (with_reducible repeat (first | refine blk_drewN ?_ _ | refine blk_drew ?_ | refine blk_alloc ?_ _)); exact BK303.out)) : gb303 ≠ gb329)); have n8_ := Aside0.mk ((by rw [hg]; exact Nat.ne_of_gt (blk_lt (g := gb303) (o := .cells #[.int .i64 a4_0, .int .i64 a4_1] 23 (0, 0)) (by (with_reducible repeat (first | refine blk_drewN ?_ _ | refine blk_drew ?_ | refine blk_alloc ?_ _)); exact BK303.out)) : gb329 ≠ gb303)); have n9_ := Aside0.mk ((by rw [hg]; exact Nat.ne_of_lt (blk_lt (g := gb325) (o := .cells #[.int .i64 t322, .int .i64 t323] 23 (0, 0)) (by (with_reducible repeat (first | refine blk_drewN ?_ _ | refine blk_drew ?_ | refine blk_alloc ?_ _)); exact BK325.out)) : gb325 ≠ gb329)); have n10_ := Aside0.mk ((by rw [hg]; exact Nat.ne_of_gt (blk_lt (g := gb325) (o := .cells #[.int .i64 t322, .int .i64 t323] 23 (0, 0)) (by (with_reducible repeat (first | refine blk_drewN ?_ _ | refine blk_drew ?_ | refine blk_alloc ?_ _)); exact BK325.out)) : gb329 ≠ gb325)); clear HO_5; clear BK303; clear BK325; clear HB; have HO_5 := n0_; have BK303 := n1_; have BK325 := n2_; have HB := n3_; have BK329 := n4_; have GW329 := n5_; have GE329 := n6_; have NB303_329 := n7_; have NB329_303 := n8_; have NB325_329 := n9_; have NB329_325 := n10_; clear n0_ n1_ n2_ n3_ n4_ n5_ n6_ n7_ n8_ n9_ n10_; clear hb hbox hg; have hnb46 := NB329_303.out; have hnc46 := NB303_329.out; have hnb47 := NB329_325.out; have hnc47 := NB325_329.out; have hcz48_0 : w45.cell? ⟨gb329, 0, none⟩ = some (.int .i64 0) := (blk_cell BK329.out 0).trans rfl; have hcz48_1 : w45.cell? ⟨gb329, 1, none⟩ = some (.int .i64 0) := (blk_cell BK329.out 1).trans rfl; have hfz48_0 := blk_frozen BK329.out 0; have hfz48_1 := blk_frozen BK329.out 1))
          (try simp only [Act.put, List.setIfInBounds_toArray, List.set_cons_zero, List.set_cons_succ])
          go_cut [13] (fun v13 wc => ∃ (kq : Nat) (x13_37 : Bool), v13 = .bool x13_37 ∧ Aside0 (cohousinglaw08_GroupMatchesReference.j3 kq a0 a1 a2 a3 t305 x13_37 a4_0 a4_1 = some r) ∧ Aside0 (kq ≤ kj31) ∧ Aside0 (Kd.V (Kd.int .i64) 3 wc w.heap.size (fun k_ => k_ ≠ gb303 ∧ k_ ≠ gb325 ∧ k_ ≠ gb329) (.slice Ao39 t305.length co39) t305) ∧ Aside0 (wc.heap[gb303]? = some (.cells #[.int .i64 a4_0, .int .i64 a4_1] 23 (0, 0))) ∧ Aside0 (wc.heap[gb325]? = some (.cells #[.int .i64 t322, .int .i64 t323] 23 (0, 0))) ∧ Aside0 (wc.heap[gb329]? = some (.cells #[.int .i64 t326, .int .i64 t327] 23 (0, 0))) ∧ Aside0 (Below w.heap.size w wc))
          case first =>
           as_aux_lemma =>
            have H := HC38.out
            clear HC38
            by_cases c49 : x13_31 = true
            ·subst c49
             have H1 : (if (t322 == t326 && (t323 == t327)) = true then (cohousinglaw08_GroupMatchesReference.j3 kj31 a0 a1 a2 a3 t305 (t324 == t328) a4_0 a4_1) else (cohousinglaw08_GroupMatchesReference.j3 kj31 a0 a1 a2 a3 t305 false a4_0 a4_1)) = some r := by rw [if_pos rfl] at H; exact H
             clear H
             have H := H1
             clear H1
             by_cases c50 : (t322 == t326 && (t323 == t327)) = true
             ·rw [if_pos c50] at H
              have c50b0 : (t322 == t326 && (t323 == t327)) = true := c50
              (try (have c50b1 : decide (t322 = t326 && (t323 == t327)) = true := by simpa using c50))
              (try (have c50b2 : (t322 == t326 && (t323 == t327)) = true := by simpa using c50))
              clear c50
              (first | rw [c50b0] | (simp only [i64_w, i32_w]; rw [c50b0]) | skip)
              have H' := Aside0.mk H
              clear H
              have hnb51 := NB325_303.out
              have hnc51 := NB303_325.out
              have hnb52 := NB325_329.out
              have hnc52 := NB329_325.out
              have hcz53_0 : w45.cell? ⟨gb325, 0, none⟩ = some (.int .i64 t322) := (blk_cell BK325.out 0).trans rfl
              have hcz53_1 : w45.cell? ⟨gb325, 1, none⟩ = some (.int .i64 t323) := (blk_cell BK325.out 1).trans rfl
              have hfz53_0 := blk_frozen BK325.out 0
              have hfz53_1 := blk_frozen BK325.out 1
              have hnb54 := NB329_303.out
              have hnc54 := NB303_329.out
              have hcz55_0 : w45.cell? ⟨gb329, 0, none⟩ = some (.int .i64 0) := (blk_cell BK329.out 0).trans rfl
              have hcz55_1 : w45.cell? ⟨gb329, 1, none⟩ = some (.int .i64 0) := (blk_cell BK329.out 1).trans rfl
              have hfz55_0 := blk_frozen BK329.out 0
              have hfz55_1 := blk_frozen BK329.out 1
              go_wp2
              go_meet
              case rel => exact ⟨_, ((t324 == t328)), (by first | rfl | (simp; done) | (simp [*]; done)), H', ⟨by have := HJ10.out; have := HJ25.out; have := HJ31.out; first | omega | exact Nat.le_refl _⟩, ⟨by (with_reducible repeat (first | apply Kd.V_alloc | apply Kd.V_drewN | apply Kd.V_drew)); exact Kd.V_mono (Kd.V_far (p := ⟨gb329, 1, none⟩) (Kd.V_far (p := ⟨gb329, 0, none⟩) (Kd.V_mono HO_5.out (fun k_ hk => (⟨hk, hk.2⟩ : _ ∧ k_ ≠ gb329))) (fun _ hk => hk.2) (.int .i64 t326)) (fun _ hk => hk.2) (.int .i64 t327)) (fun _ hk => ⟨hk.1.1.1, ⟨hk.1.1.2, hk.1.2⟩⟩)⟩, ⟨by (with_reducible repeat (first | refine blk_drewN ?_ _ | refine blk_drew ?_ | refine blk_alloc ?_ _)); refine blk_far ?_ NB303_329.out _; (with_reducible repeat (first | refine blk_drewN ?_ _ | refine blk_drew ?_ | refine blk_alloc ?_ _)); refine blk_far ?_ NB303_329.out _; (with_reducible repeat (first | refine blk_drewN ?_ _ | refine blk_drew ?_ | refine blk_alloc ?_ _)); exact BK303.out⟩, ⟨by (with_reducible repeat (first | refine blk_drewN ?_ _ | refine blk_drew ?_ | refine blk_alloc ?_ _)); refine blk_far ?_ NB325_329.out _; (with_reducible repeat (first | refine blk_drewN ?_ _ | refine blk_drew ?_ | refine blk_alloc ?_ _)); refine blk_far ?_ NB325_329.out _; (with_reducible repeat (first | refine blk_drewN ?_ _ | refine blk_drew ?_ | refine blk_alloc ?_ _)); exact BK325.out⟩, ⟨by (with_reducible repeat (first | refine blk_drewN ?_ _ | refine blk_drew ?_ | refine blk_alloc ?_ _)); refine blk_put (cs := #[.int .i64 t326, .int .i64 0]) ?_ 1 _ rfl; (with_reducible repeat (first | refine blk_drewN ?_ _ | refine blk_drew ?_ | refine blk_alloc ?_ _)); refine blk_put (cs := #[.int .i64 0, .int .i64 0]) ?_ 0 _ rfl; (with_reducible repeat (first | refine blk_drewN ?_ _ | refine blk_drew ?_ | refine blk_alloc ?_ _)); exact BK329.out⟩, ⟨by repeat (first | (with_reducible first | exact HB.out | apply below_alloc | apply pw_below_drewN | apply below_drew1 | refine below_set ?_ GE303.out | refine below_set ?_ GE325.out | refine below_set ?_ GE329.out) | exact HB.out)⟩⟩
             ·rw [if_neg c50] at H
              have c50b0 : (t322 == t326 && (t323 == t327)) = false := by simpa using c50
              (try (have c50b1 : decide (t322 = t326 && (t323 == t327)) = false := by simpa using c50))
              (try (have c50b2 : (t322 == t326 && (t323 == t327)) = false := by simpa using c50))
              (try (have c50b3 : ¬ (t322 = t326 && (t323 == t327)) := by simpa using c50))
              clear c50
              (first | rw [c50b0] | (simp only [i64_w, i32_w]; rw [c50b0]) | skip)
              have H' := Aside0.mk H
              clear H
              have hnb56 := NB325_303.out
              have hnc56 := NB303_325.out
              have hnb57 := NB325_329.out
              have hnc57 := NB329_325.out
              have hcz58_0 : w45.cell? ⟨gb325, 0, none⟩ = some (.int .i64 t322) := (blk_cell BK325.out 0).trans rfl
              have hcz58_1 : w45.cell? ⟨gb325, 1, none⟩ = some (.int .i64 t323) := (blk_cell BK325.out 1).trans rfl
              have hfz58_0 := blk_frozen BK325.out 0
              have hfz58_1 := blk_frozen BK325.out 1
              have hnb59 := NB329_303.out
              have hnc59 := NB303_329.out
              have hcz60_0 : w45.cell? ⟨gb329, 0, none⟩ = some (.int .i64 0) := (blk_cell BK329.out 0).trans rfl
              have hcz60_1 : w45.cell? ⟨gb329, 1, none⟩ = some (.int .i64 0) := (blk_cell BK329.out 1).trans rfl
              have hfz60_0 := blk_frozen BK329.out 0
              have hfz60_1 := blk_frozen BK329.out 1
              go_wp2
              go_meet
              case rel => exact ⟨_, (false), (by first | rfl | (simp; done) | (simp [*]; done)), H', ⟨by have := HJ10.out; have := HJ25.out; have := HJ31.out; first | omega | exact Nat.le_refl _⟩, ⟨by (with_reducible repeat (first | apply Kd.V_alloc | apply Kd.V_drewN | apply Kd.V_drew)); exact Kd.V_mono (Kd.V_far (p := ⟨gb329, 1, none⟩) (Kd.V_far (p := ⟨gb329, 0, none⟩) (Kd.V_mono HO_5.out (fun k_ hk => (⟨hk, hk.2⟩ : _ ∧ k_ ≠ gb329))) (fun _ hk => hk.2) (.int .i64 t326)) (fun _ hk => hk.2) (.int .i64 t327)) (fun _ hk => ⟨hk.1.1.1, ⟨hk.1.1.2, hk.1.2⟩⟩)⟩, ⟨by (with_reducible repeat (first | refine blk_drewN ?_ _ | refine blk_drew ?_ | refine blk_alloc ?_ _)); refine blk_far ?_ NB303_329.out _; (with_reducible repeat (first | refine blk_drewN ?_ _ | refine blk_drew ?_ | refine blk_alloc ?_ _)); refine blk_far ?_ NB303_329.out _; (with_reducible repeat (first | refine blk_drewN ?_ _ | refine blk_drew ?_ | refine blk_alloc ?_ _)); exact BK303.out⟩, ⟨by (with_reducible repeat (first | refine blk_drewN ?_ _ | refine blk_drew ?_ | refine blk_alloc ?_ _)); refine blk_far ?_ NB325_329.out _; (with_reducible repeat (first | refine blk_drewN ?_ _ | refine blk_drew ?_ | refine blk_alloc ?_ _)); refine blk_far ?_ NB325_329.out _; (with_reducible repeat (first | refine blk_drewN ?_ _ | refine blk_drew ?_ | refine blk_alloc ?_ _)); exact BK325.out⟩, ⟨by (with_reducible repeat (first | refine blk_drewN ?_ _ | refine blk_drew ?_ | refine blk_alloc ?_ _)); refine blk_put (cs := #[.int .i64 t326, .int .i64 0]) ?_ 1 _ rfl; (with_reducible repeat (first | refine blk_drewN ?_ _ | refine blk_drew ?_ | refine blk_alloc ?_ _)); refine blk_put (cs := #[.int .i64 0, .int .i64 0]) ?_ 0 _ rfl; (with_reducible repeat (first | refine blk_drewN ?_ _ | refine blk_drew ?_ | refine blk_alloc ?_ _)); exact BK329.out⟩, ⟨by repeat (first | (with_reducible first | exact HB.out | apply below_alloc | apply pw_below_drewN | apply below_drew1 | refine below_set ?_ GE303.out | refine below_set ?_ GE325.out | refine below_set ?_ GE329.out) | exact HB.out)⟩⟩
            ·replace c49 := Bool.eq_false_iff.mpr c49
             subst c49
             have H1 : (cohousinglaw08_GroupMatchesReference.j3 kj31 a0 a1 a2 a3 t305 false a4_0 a4_1) = some r := by rw [if_neg (show ¬ (false = true) by decide)] at H; exact H
             clear H
             have H := H1
             clear H1
             have H' := Aside0.mk H
             clear H
             go_wp2
             go_meet
             case rel => exact ⟨_, (false), (by first | rfl | (simp; done) | (simp [*]; done)), H', ⟨by have := HJ10.out; have := HJ25.out; have := HJ31.out; first | omega | exact Nat.le_refl _⟩, ⟨by (with_reducible repeat (first | apply Kd.V_alloc | apply Kd.V_drewN | apply Kd.V_drew)); exact Kd.V_mono (Kd.V_far (p := ⟨gb329, 1, none⟩) (Kd.V_far (p := ⟨gb329, 0, none⟩) (Kd.V_mono HO_5.out (fun k_ hk => (⟨hk, hk.2⟩ : _ ∧ k_ ≠ gb329))) (fun _ hk => hk.2) (.int .i64 t326)) (fun _ hk => hk.2) (.int .i64 t327)) (fun _ hk => ⟨hk.1.1.1, ⟨hk.1.1.2, hk.1.2⟩⟩)⟩, ⟨by (with_reducible repeat (first | refine blk_drewN ?_ _ | refine blk_drew ?_ | refine blk_alloc ?_ _)); refine blk_far ?_ NB303_329.out _; (with_reducible repeat (first | refine blk_drewN ?_ _ | refine blk_drew ?_ | refine blk_alloc ?_ _)); refine blk_far ?_ NB303_329.out _; (with_reducible repeat (first | refine blk_drewN ?_ _ | refine blk_drew ?_ | refine blk_alloc ?_ _)); exact BK303.out⟩, ⟨by (with_reducible repeat (first | refine blk_drewN ?_ _ | refine blk_drew ?_ | refine blk_alloc ?_ _)); refine blk_far ?_ NB325_329.out _; (with_reducible repeat (first | refine blk_drewN ?_ _ | refine blk_drew ?_ | refine blk_alloc ?_ _)); refine blk_far ?_ NB325_329.out _; (with_reducible repeat (first | refine blk_drewN ?_ _ | refine blk_drew ?_ | refine blk_alloc ?_ _)); exact BK325.out⟩, ⟨by (with_reducible repeat (first | refine blk_drewN ?_ _ | refine blk_drew ?_ | refine blk_alloc ?_ _)); refine blk_put (cs := #[.int .i64 t326, .int .i64 0]) ?_ 1 _ rfl; (with_reducible repeat (first | refine blk_drewN ?_ _ | refine blk_drew ?_ | refine blk_alloc ?_ _)); refine blk_put (cs := #[.int .i64 0, .int .i64 0]) ?_ 0 _ rfl; (with_reducible repeat (first | refine blk_drewN ?_ _ | refine blk_drew ?_ | refine blk_alloc ?_ _)); exact BK329.out⟩, ⟨by repeat (first | (with_reducible first | exact HB.out | apply below_alloc | apply pw_below_drewN | apply below_drew1 | refine below_set ?_ GE303.out | refine below_set ?_ GE325.out | refine below_set ?_ GE329.out) | exact HB.out)⟩⟩
          case rest =>
           as_aux_lemma =>
            clear HC38
            try clear c1
            try clear c2
            try clear p2
            try clear c3
            try clear c4
            try clear c5
            try clear c10
            try clear c11
            try clear c12
            try clear c13
            try clear c16
            try clear c17
            try clear c18
            try clear c19
            try clear c19b0
            try clear c19b1
            try clear c19b2
            try clear c20
            try clear c20b0
            try clear c20b1
            try clear c21
            try clear c28
            try clear c29
            try clear c29b0
            try clear c29b1
            try clear c34
            try clear c35
            try clear c35b0
            try clear c35b1
            try clear c42
            try clear c46
            try clear c47
            try clear c49
            try clear c50
            try clear c50b0
            try clear c50b1
            try clear c50b2
            try clear c51
            try clear c52
            try clear c54
            try clear c56
            try clear c57
            try clear c59
            try clear hcz43_0
            try clear hcz43_1
            try clear hcz48_0
            try clear hcz48_1
            try clear hcz53_0
            try clear hcz53_1
            try clear hcz55_0
            try clear hcz55_1
            try clear hcz58_0
            try clear hcz58_1
            try clear hcz60_0
            try clear hcz60_1
            try clear hfz43_0
            try clear hfz43_1
            try clear hfz48_0
            try clear hfz48_1
            try clear hfz53_0
            try clear hfz53_1
            try clear hfz55_0
            try clear hfz55_1
            try clear hfz58_0
            try clear hfz58_1
            try clear hfz60_0
            try clear hfz60_1
            try clear p2
            obtain ⟨kq, x13_37, rfl, HA, HJ37, HO_5, BK303, BK325, BK329, HB⟩ := hcut
            cases kq with
            | zero => exact absurd HA.out (by simp [cohousinglaw08_GroupMatchesReference.j3])
            | succ kj37 =>
             have H := HA.out
             clear HA
             simp only [cohousinglaw08_GroupMatchesReference.j3] at H
             replace H := Option.bind_eq_some_iff.mp H
             obtain ⟨⟨t330, t331⟩, A610, H⟩ := H
             replace H : ((cohousingref08_Verify.f kj37 a0 a4_0 a4_1 t305).bind fun bt332 => (if x13_37 = true then (if (t330 == bt332.1) = true then (cohousinglaw08_GroupMatchesReference.j4 kj37 a0 a1 a2 a3 (t331 == bt332.2) a4_0 a4_1) else (cohousinglaw08_GroupMatchesReference.j4 kj37 a0 a1 a2 a3 false a4_0 a4_1)) else (cohousinglaw08_GroupMatchesReference.j4 kj37 a0 a1 a2 a3 false a4_0 a4_1))) = some r := H
             have A61 := Aside0.mk A610
             clear A610
             replace H := Option.bind_eq_some_iff.mp H
             obtain ⟨⟨t332, t333⟩, A620, H⟩ := H
             replace H : (if x13_37 = true then (if (t330 == t332) = true then (cohousinglaw08_GroupMatchesReference.j4 kj37 a0 a1 a2 a3 (t331 == t333) a4_0 a4_1) else (cohousinglaw08_GroupMatchesReference.j4 kj37 a0 a1 a2 a3 false a4_0 a4_1)) else (cohousinglaw08_GroupMatchesReference.j4 kj37 a0 a1 a2 a3 false a4_0 a4_1)) = some r := H
             have A62 := Aside0.mk A620
             clear A620
             have HC63 := Aside0.mk H
             clear H
             have hnb64 := NB303_325.out
             have hnc64 := NB325_303.out
             have hnb65 := NB303_329.out
             have hnc65 := NB329_303.out
             have hcz66_0 : wc.cell? ⟨gb303, 0, none⟩ = some (.int .i64 a4_0) := (blk_cell BK303.out 0).trans rfl
             have hcz66_1 : wc.cell? ⟨gb303, 1, none⟩ = some (.int .i64 a4_1) := (blk_cell BK303.out 1).trans rfl
             have hfz66_0 := blk_frozen BK303.out 0
             have hfz66_1 := blk_frozen BK303.out 1
             go_upto_region 17 with (first | ((with_reducible refine gate_callee (f := 22) rfl ?_); refine goesL_ (some 136) rfl rfl Tryd.func22 (by kernel_rfl) rfl #[.int .i64 a0, .agg #[.int .i64 a4_0, .int .i64 a4_1], .slice Ao39 t305.length co39] rfl (by (try simp only [List.map_toArray, List.map_cons, List.map_nil]); first | done | rfl | (simp only [List.length_drop, List.length_take]; rfl)) ?_; (with_reducible refine (group_Verify.calls kj37 a0 a4_0 a4_1 _ _ t305 t330 t331 _ ?side1 ?side2 ?side3 A61.out).mono ?_); (case side1 => repeat (first | exact (Kd.V_reads' HO_5.out).2.2 | (with_reducible refine Kd.C_alloc ?_ _) | (with_reducible refine Kd.C_drewN ?_ _) | (with_reducible refine Kd.C_drew ?_))); (case side2 => exact (Kd.V_reads' HO_5.out).2.1); (case side3 => exact TabOk.below HT.out (by repeat (first | (with_reducible first | exact HB.out | apply below_alloc | apply pw_below_drewN | apply below_drew1 | refine below_set ?_ GE303.out | refine below_set ?_ GE325.out | refine below_set ?_ GE329.out) | exact HB.out))); rintro e w67 ⟨rfl, hb⟩; refine ⟨_, rfl, ?_⟩; have n0_ := Aside0.mk (Kd.V_below (by (with_reducible repeat (first | apply Kd.V_alloc | apply Kd.V_drewN | apply Kd.V_drew)); exact HO_5.out) hb); have n1_ := Aside0.mk (blk_below (g := gb303) (o := .cells #[.int .i64 a4_0, .int .i64 a4_1] 23 (0, 0)) (by (with_reducible repeat (first | refine blk_drewN ?_ _ | refine blk_drew ?_ | refine blk_alloc ?_ _)); exact BK303.out) hb); have n2_ := Aside0.mk (blk_below (g := gb325) (o := .cells #[.int .i64 t322, .int .i64 t323] 23 (0, 0)) (by (with_reducible repeat (first | refine blk_drewN ?_ _ | refine blk_drew ?_ | refine blk_alloc ?_ _)); exact BK325.out) hb); have n3_ := Aside0.mk (blk_below (g := gb329) (o := .cells #[.int .i64 t326, .int .i64 t327] 23 (0, 0)) (by (with_reducible repeat (first | refine blk_drewN ?_ _ | refine blk_drew ?_ | refine blk_alloc ?_ _)); exact BK329.out) hb); have n4_ := Aside0.mk (below_step (by repeat (first | (with_reducible first | exact HB.out | apply below_alloc | apply pw_below_drewN | apply below_drew1 | refine below_set ?_ GE303.out | refine below_set ?_ GE325.out | refine below_set ?_ GE329.out) | exact HB.out)) hb); clear HO_5; clear BK303; clear BK325; clear BK329; clear HB; have HO_5 := n0_; have BK303 := n1_; have BK325 := n2_; have BK329 := n3_; have HB := n4_; clear n0_ n1_ n2_ n3_ n4_; (try clear hb); (try clear hb2); (try clear hk); (try clear hi); have hcz68_0 : w67.cell? ⟨gb303, 0, none⟩ = some (.int .i64 a4_0) := (blk_cell BK303.out 0).trans rfl; have hcz68_1 : w67.cell? ⟨gb303, 1, none⟩ = some (.int .i64 a4_1) := (blk_cell BK303.out 1).trans rfl; have hfz68_0 := blk_frozen BK303.out 0; have hfz68_1 := blk_frozen BK303.out 1) | ((with_reducible refine gate_callee (f := 23) rfl ?_); refine goesL_ (some 143) rfl rfl Tryd.func23 (by kernel_rfl) rfl #[.int .i64 a0, .agg #[.int .i64 a4_0, .int .i64 a4_1], .slice Ao39 t305.length co39] rfl (by (try simp only [List.map_toArray, List.map_cons, List.map_nil]); first | done | rfl | (simp only [List.length_drop, List.length_take]; rfl)) ?_; (with_reducible refine (cohousingref08_Verify.calls kj37 a0 a4_0 a4_1 _ _ t305 t332 t333 _ ?side1 ?side2 A62.out).mono ?_); (case side1 => repeat (first | exact (Kd.V_reads' HO_5.out).2.2 | (with_reducible refine Kd.C_alloc ?_ _) | (with_reducible refine Kd.C_drewN ?_ _) | (with_reducible refine Kd.C_drew ?_))); (case side2 => exact (Kd.V_reads' HO_5.out).2.1); rintro e w69 ⟨rfl, hb⟩; refine ⟨_, rfl, ?_⟩; have n0_ := Aside0.mk (Kd.V_below (by (with_reducible repeat (first | apply Kd.V_alloc | apply Kd.V_drewN | apply Kd.V_drew)); exact HO_5.out) hb); have n1_ := Aside0.mk (blk_below (g := gb303) (o := .cells #[.int .i64 a4_0, .int .i64 a4_1] 23 (0, 0)) (by (with_reducible repeat (first | refine blk_drewN ?_ _ | refine blk_drew ?_ | refine blk_alloc ?_ _)); exact BK303.out) hb); have n2_ := Aside0.mk (blk_below (g := gb325) (o := .cells #[.int .i64 t322, .int .i64 t323] 23 (0, 0)) (by (with_reducible repeat (first | refine blk_drewN ?_ _ | refine blk_drew ?_ | refine blk_alloc ?_ _)); exact BK325.out) hb); have n3_ := Aside0.mk (blk_below (g := gb329) (o := .cells #[.int .i64 t326, .int .i64 t327] 23 (0, 0)) (by (with_reducible repeat (first | refine blk_drewN ?_ _ | refine blk_drew ?_ | refine blk_alloc ?_ _)); exact BK329.out) hb); have n4_ := Aside0.mk (below_step (by repeat (first | (with_reducible first | exact HB.out | apply below_alloc | apply pw_below_drewN | apply below_drew1 | refine below_set ?_ GE303.out | refine below_set ?_ GE325.out | refine below_set ?_ GE329.out) | exact HB.out)) hb); clear HO_5; clear BK303; clear BK325; clear BK329; clear HB; have HO_5 := n0_; have BK303 := n1_; have BK325 := n2_; have BK329 := n3_; have HB := n4_; clear n0_ n1_ n2_ n3_ n4_; (try clear hb); (try clear hb2); (try clear hk); (try clear hi)))
             (try simp only [Act.put, List.setIfInBounds_toArray, List.set_cons_zero, List.set_cons_succ])
             go_cut [13] (fun v13 wc => ∃ (kq : Nat) (x13_62 : Bool), v13 = .bool x13_62 ∧ Aside0 (cohousinglaw08_GroupMatchesReference.j4 kq a0 a1 a2 a3 x13_62 a4_0 a4_1 = some r) ∧ Aside0 (kq ≤ kj37) ∧ Aside0 (wc.heap[gb303]? = some (.cells #[.int .i64 a4_0, .int .i64 a4_1] 23 (0, 0))) ∧ Aside0 (wc.heap[gb325]? = some (.cells #[.int .i64 t322, .int .i64 t323] 23 (0, 0))) ∧ Aside0 (wc.heap[gb329]? = some (.cells #[.int .i64 t326, .int .i64 t327] 23 (0, 0))) ∧ Aside0 (Below w.heap.size w wc))
             case first =>
              as_aux_lemma =>
               have H := HC63.out
               clear HC63
               by_cases c70 : x13_37 = true
               ·subst c70
                have H1 : (if (t330 == t332) = true then (cohousinglaw08_GroupMatchesReference.j4 kj37 a0 a1 a2 a3 (t331 == t333) a4_0 a4_1) else (cohousinglaw08_GroupMatchesReference.j4 kj37 a0 a1 a2 a3 false a4_0 a4_1)) = some r := by rw [if_pos rfl] at H; exact H
                clear H
                have H := H1
                clear H1
                by_cases c71 : (t330 == t332) = true
                ·rw [if_pos c71] at H
                 have c71b0 : (t330 == t332) = true := c71
                 (try (have c71b1 : decide (t330 = t332) = true := by simpa using c71))
                 (try (have c71b2 : (t330 == t332) = true := by simpa using c71))
                 clear c71
                 (first | rw [c71b0] | (simp only [i64_w, i32_w]; rw [c71b0]) | skip)
                 have H' := Aside0.mk H
                 clear H
                 go_wp2
                 go_meet
                 case rel => exact ⟨_, ((t331 == t333)), (by first | rfl | (simp; done) | (simp [*]; done)), H', ⟨by have := HJ10.out; have := HJ25.out; have := HJ31.out; have := HJ37.out; first | omega | exact Nat.le_refl _⟩, ⟨by (with_reducible repeat (first | refine blk_drewN ?_ _ | refine blk_drew ?_ | refine blk_alloc ?_ _)); exact BK303.out⟩, ⟨by (with_reducible repeat (first | refine blk_drewN ?_ _ | refine blk_drew ?_ | refine blk_alloc ?_ _)); exact BK325.out⟩, ⟨by (with_reducible repeat (first | refine blk_drewN ?_ _ | refine blk_drew ?_ | refine blk_alloc ?_ _)); exact BK329.out⟩, ⟨by repeat (first | (with_reducible first | exact HB.out | apply below_alloc | apply pw_below_drewN | apply below_drew1 | refine below_set ?_ GE303.out | refine below_set ?_ GE325.out | refine below_set ?_ GE329.out) | exact HB.out)⟩⟩
                ·rw [if_neg c71] at H
                 have c71b0 : (t330 == t332) = false := by simpa using c71
                 (try (have c71b1 : decide (t330 = t332) = false := by simpa using c71))
                 (try (have c71b2 : (t330 == t332) = false := by simpa using c71))
                 (try (have c71b3 : ¬ (t330 = t332) := by simpa using c71))
                 clear c71
                 (first | rw [c71b0] | (simp only [i64_w, i32_w]; rw [c71b0]) | skip)
                 have H' := Aside0.mk H
                 clear H
                 go_wp2
                 go_meet
                 case rel => exact ⟨_, (false), (by first | rfl | (simp; done) | (simp [*]; done)), H', ⟨by have := HJ10.out; have := HJ25.out; have := HJ31.out; have := HJ37.out; first | omega | exact Nat.le_refl _⟩, ⟨by (with_reducible repeat (first | refine blk_drewN ?_ _ | refine blk_drew ?_ | refine blk_alloc ?_ _)); exact BK303.out⟩, ⟨by (with_reducible repeat (first | refine blk_drewN ?_ _ | refine blk_drew ?_ | refine blk_alloc ?_ _)); exact BK325.out⟩, ⟨by (with_reducible repeat (first | refine blk_drewN ?_ _ | refine blk_drew ?_ | refine blk_alloc ?_ _)); exact BK329.out⟩, ⟨by repeat (first | (with_reducible first | exact HB.out | apply below_alloc | apply pw_below_drewN | apply below_drew1 | refine below_set ?_ GE303.out | refine below_set ?_ GE325.out | refine below_set ?_ GE329.out) | exact HB.out)⟩⟩
               ·replace c70 := Bool.eq_false_iff.mpr c70
                subst c70
                have H1 : (cohousinglaw08_GroupMatchesReference.j4 kj37 a0 a1 a2 a3 false a4_0 a4_1) = some r := by rw [if_neg (show ¬ (false = true) by decide)] at H; exact H
                clear H
                have H := H1
                clear H1
                have H' := Aside0.mk H
                clear H
                go_wp2
                go_meet
                case rel => exact ⟨_, (false), (by first | rfl | (simp; done) | (simp [*]; done)), H', ⟨by have := HJ10.out; have := HJ25.out; have := HJ31.out; have := HJ37.out; first | omega | exact Nat.le_refl _⟩, ⟨by (with_reducible repeat (first | refine blk_drewN ?_ _ | refine blk_drew ?_ | refine blk_alloc ?_ _)); exact BK303.out⟩, ⟨by (with_reducible repeat (first | refine blk_drewN ?_ _ | refine blk_drew ?_ | refine blk_alloc ?_ _)); exact BK325.out⟩, ⟨by (with_reducible repeat (first | refine blk_drewN ?_ _ | refine blk_drew ?_ | refine blk_alloc ?_ _)); exact BK329.out⟩, ⟨by repeat (first | (with_reducible first | exact HB.out | apply below_alloc | apply pw_below_drewN | apply below_drew1 | refine below_set ?_ GE303.out | refine below_set ?_ GE325.out | refine below_set ?_ GE329.out) | exact HB.out)⟩⟩
             case rest =>
              as_aux_lemma =>
               clear HC63
               try clear c1
               try clear c2
               try clear p2
               try clear c3
               try clear c4
               try clear c5
               try clear c6
               try clear c7
               try clear c10
               try clear c11
               try clear c12
               try clear c13
               try clear c16
               try clear c17
               try clear c18
               try clear c19
               try clear c19b0
               try clear c19b1
               try clear c19b2
               try clear c20
               try clear c20b0
               try clear c20b1
               try clear c21
               try clear c22
               try clear c23
               try clear c28
               try clear c29
               try clear c29b0
               try clear c29b1
               try clear c34
               try clear c35
               try clear c35b0
               try clear c35b1
               try clear c42
               try clear c46
               try clear c47
               try clear c49
               try clear c50
               try clear c50b0
               try clear c50b1
               try clear c50b2
               try clear c51
               try clear c52
               try clear c54
               try clear c56
               try clear c57
               try clear c59
               try clear c64
               try clear c65
               try clear c70
               try clear c71
               try clear c71b0
               try clear c71b1
               try clear c71b2
               try clear hcz43_0
               try clear hcz43_1
               try clear hcz48_0
               try clear hcz48_1
               try clear hcz53_0
               try clear hcz53_1
               try clear hcz55_0
               try clear hcz55_1
               try clear hcz58_0
               try clear hcz58_1
               try clear hcz60_0
               try clear hcz60_1
               try clear hcz66_0
               try clear hcz66_1
               try clear hcz68_0
               try clear hcz68_1
               try clear hfz43_0
               try clear hfz43_1
               try clear hfz48_0
               try clear hfz48_1
               try clear hfz53_0
               try clear hfz53_1
               try clear hfz55_0
               try clear hfz55_1
               try clear hfz58_0
               try clear hfz58_1
               try clear hfz60_0
               try clear hfz60_1
               try clear hfz66_0
               try clear hfz66_1
               try clear hfz68_0
               try clear hfz68_1
               try clear p2
               obtain ⟨kq, x13_62, rfl, HA, HJ62, BK303, BK325, BK329, HB⟩ := hcut
               cases kq with
               | zero => exact absurd HA.out (by simp [cohousinglaw08_GroupMatchesReference.j4])
               | succ kj62 =>
                have H := HA.out
                clear HA
                simp only [cohousinglaw08_GroupMatchesReference.j4] at H
                replace H := Option.bind_eq_some_iff.mp H
                obtain ⟨⟨t334, t335, t336⟩, A720, H⟩ := H
                replace H : ((cohousingref08_Same.f kj62 a0 a1 a2 a3).bind fun bt337 => (if x13_62 = true then (if (t334 == bt337.1 && (t335 == bt337.2.1)) = true then ((group_Equal.f kj62 a0 a2 a1 a3 a4_0 a4_1).bind fun bt340 => ((cohousingref08_Equal.f kj62 a0 a2 a1 a3 a4_0 a4_1).bind fun bt342 => (if t336 = bt337.2.2 then (if (bt340.1 == bt342.1) = true then (some (bt340.2 == bt342.2)) else (some false)) else (some false)))) else ((group_Equal.f kj62 a0 a2 a1 a3 a4_0 a4_1).bind fun bt344 => ((cohousingref08_Equal.f kj62 a0 a2 a1 a3 a4_0 a4_1).bind fun bt346 => (some false)))) else ((group_Equal.f kj62 a0 a2 a1 a3 a4_0 a4_1).bind fun bt348 => ((cohousingref08_Equal.f kj62 a0 a2 a1 a3 a4_0 a4_1).bind fun bt350 => (some false))))) = some r := H
                have A72 := Aside0.mk A720
                clear A720
                replace H := Option.bind_eq_some_iff.mp H
                obtain ⟨⟨t337, t338, t339⟩, A730, H⟩ := H
                replace H : (if x13_62 = true then (if (t334 == t337 && (t335 == t338)) = true then ((group_Equal.f kj62 a0 a2 a1 a3 a4_0 a4_1).bind fun bt340 => ((cohousingref08_Equal.f kj62 a0 a2 a1 a3 a4_0 a4_1).bind fun bt342 => (if t336 = t339 then (if (bt340.1 == bt342.1) = true then (some (bt340.2 == bt342.2)) else (some false)) else (some false)))) else ((group_Equal.f kj62 a0 a2 a1 a3 a4_0 a4_1).bind fun bt344 => ((cohousingref08_Equal.f kj62 a0 a2 a1 a3 a4_0 a4_1).bind fun bt346 => (some false)))) else ((group_Equal.f kj62 a0 a2 a1 a3 a4_0 a4_1).bind fun bt348 => ((cohousingref08_Equal.f kj62 a0 a2 a1 a3 a4_0 a4_1).bind fun bt350 => (some false)))) = some r := H
                have A73 := Aside0.mk A730
                clear A730
                by_cases c74 : x13_62 = true
                ·subst c74
                 have H1 : (if (t334 == t337 && (t335 == t338)) = true then ((group_Equal.f kj62 a0 a2 a1 a3 a4_0 a4_1).bind fun bt340 => ((cohousingref08_Equal.f kj62 a0 a2 a1 a3 a4_0 a4_1).bind fun bt342 => (if t336 = t339 then (if (bt340.1 == bt342.1) = true then (some (bt340.2 == bt342.2)) else (some false)) else (some false)))) else ((group_Equal.f kj62 a0 a2 a1 a3 a4_0 a4_1).bind fun bt344 => ((cohousingref08_Equal.f kj62 a0 a2 a1 a3 a4_0 a4_1).bind fun bt346 => (some false)))) = some r := by rw [if_pos rfl] at H; exact H
                 clear H
                 have H := H1
                 clear H1
                 by_cases c75 : (t334 == t337 && (t335 == t338)) = true
                 ·rw [if_pos c75] at H
                  have c75b0 : (t334 == t337 && (t335 == t338)) = true := c75
                  (try (have c75b1 : decide (t334 = t337 && (t335 == t338)) = true := by simpa using c75))
                  (try (have c75b2 : (t334 == t337 && (t335 == t338)) = true := by simpa using c75))
                  clear c75
                  replace H := Option.bind_eq_some_iff.mp H
                  obtain ⟨⟨t340, t341⟩, A760, H⟩ := H
                  replace H : ((cohousingref08_Equal.f kj62 a0 a2 a1 a3 a4_0 a4_1).bind fun bt342 => (if t336 = t339 then (if (t340 == bt342.1) = true then (some (t341 == bt342.2)) else (some false)) else (some false))) = some r := H
                  have A76 := Aside0.mk A760
                  clear A760
                  replace H := Option.bind_eq_some_iff.mp H
                  obtain ⟨⟨t342, t343⟩, A770, H⟩ := H
                  replace H : (if t336 = t339 then (if (t340 == t342) = true then (some (t341 == t343)) else (some false)) else (some false)) = some r := H
                  have A77 := Aside0.mk A770
                  clear A770
                  by_cases c78 : t336 = t339
                  ·rw [if_pos c78] at H
                   have c78b0 : (t336 == t339) = true := beq_iff_eq.mpr c78
                   have c78b1 : (t336 != t339) = false := bne_eq_false_iff_eq.mpr c78
                   clear c78
                   by_cases c79 : (t340 == t342) = true
                   ·rw [if_pos c79] at H
                    have c79b0 : (t340 == t342) = true := c79
                    (try (have c79b1 : decide (t340 = t342) = true := by simpa using c79))
                    (try (have c79b2 : (t340 == t342) = true := by simpa using c79))
                    clear c79
                    obtain rfl := Option.some.inj H
                    go_wp2_with (first | ((with_reducible refine gate_callee (f := 24) rfl ?_); refine goesL_ (some 162) rfl rfl Tryd.func24 (by kernel_rfl) rfl #[.int .i64 a0, .int .i64 a1, .int .i64 a2, .int .i64 a3] rfl (by (try simp only [List.map_toArray, List.map_cons, List.map_nil]); first | done | rfl | (simp only [List.length_drop, List.length_take]; rfl)) ?_; (with_reducible refine (group_Same.calls kj62 a0 a1 a2 a3 t334 t335 t336 _ ?side1 A72.out).mono ?_); (case side1 => exact TabOk.below HT.out (by repeat (first | (with_reducible first | exact HB.out | apply below_alloc | apply pw_below_drewN | apply below_drew1 | refine below_set ?_ GE303.out | refine below_set ?_ GE325.out | refine below_set ?_ GE329.out) | exact HB.out))); rintro e w80 ⟨rfl, hb⟩; refine ⟨_, rfl, ?_⟩; have n0_ := Aside0.mk (blk_below (g := gb303) (o := .cells #[.int .i64 a4_0, .int .i64 a4_1] 23 (0, 0)) (by (with_reducible repeat (first | refine blk_drewN ?_ _ | refine blk_drew ?_ | refine blk_alloc ?_ _)); exact BK303.out) hb); have n1_ := Aside0.mk (blk_below (g := gb325) (o := .cells #[.int .i64 t322, .int .i64 t323] 23 (0, 0)) (by (with_reducible repeat (first | refine blk_drewN ?_ _ | refine blk_drew ?_ | refine blk_alloc ?_ _)); exact BK325.out) hb); have n2_ := Aside0.mk (blk_below (g := gb329) (o := .cells #[.int .i64 t326, .int .i64 t327] 23 (0, 0)) (by (with_reducible repeat (first | refine blk_drewN ?_ _ | refine blk_drew ?_ | refine blk_alloc ?_ _)); exact BK329.out) hb); have n3_ := Aside0.mk (below_step (by repeat (first | (with_reducible first | exact HB.out | apply below_alloc | apply pw_below_drewN | apply below_drew1 | refine below_set ?_ GE303.out | refine below_set ?_ GE325.out | refine below_set ?_ GE329.out) | exact HB.out)) hb); clear BK303; clear BK325; clear BK329; clear HB; have BK303 := n0_; have BK325 := n1_; have BK329 := n2_; have HB := n3_; clear n0_ n1_ n2_ n3_; (try clear hb); (try clear hb2); (try clear hk); (try clear hi); have hnb81 := NB325_303.out; have hnc81 := NB303_325.out; have hnb82 := NB325_329.out; have hnc82 := NB329_325.out; have hcz83_0 : w80.cell? ⟨gb325, 0, none⟩ = some (.int .i64 t322) := (blk_cell BK325.out 0).trans rfl; have hcz83_1 : w80.cell? ⟨gb325, 1, none⟩ = some (.int .i64 t323) := (blk_cell BK325.out 1).trans rfl; have hfz83_0 := blk_frozen BK325.out 0; have hfz83_1 := blk_frozen BK325.out 1) | ((with_reducible refine gate_callee (f := 25) rfl ?_); refine goesL_ (some 170) rfl rfl Tryd.func25 (by kernel_rfl) rfl #[.int .i64 a0, .int .i64 a1, .int .i64 a2, .int .i64 a3] rfl (by (try simp only [List.map_toArray, List.map_cons, List.map_nil]); first | done | rfl | (simp only [List.length_drop, List.length_take]; rfl)) ?_; (with_reducible refine (cohousingref08_Same.calls kj62 a0 a1 a2 a3 t337 t338 t339 _ A73.out).mono ?_); rintro e w84 ⟨rfl, hb⟩; refine ⟨_, rfl, ?_⟩; have n0_ := Aside0.mk (blk_below (g := gb303) (o := .cells #[.int .i64 a4_0, .int .i64 a4_1] 23 (0, 0)) (by (with_reducible repeat (first | refine blk_drewN ?_ _ | refine blk_drew ?_ | refine blk_alloc ?_ _)); refine blk_far ?_ NB303_325.out _; (with_reducible repeat (first | refine blk_drewN ?_ _ | refine blk_drew ?_ | refine blk_alloc ?_ _)); refine blk_far ?_ NB303_325.out _; (with_reducible repeat (first | refine blk_drewN ?_ _ | refine blk_drew ?_ | refine blk_alloc ?_ _)); exact BK303.out) hb); have n1_ := Aside0.mk (blk_below (g := gb325) (o := .cells #[.int .i64 t334, .int .i64 t335] 23 (0, 0)) (by (with_reducible repeat (first | refine blk_drewN ?_ _ | refine blk_drew ?_ | refine blk_alloc ?_ _)); refine blk_put (cs := #[.int .i64 t334, .int .i64 t323]) ?_ 1 _ rfl; (with_reducible repeat (first | refine blk_drewN ?_ _ | refine blk_drew ?_ | refine blk_alloc ?_ _)); refine blk_put (cs := #[.int .i64 t322, .int .i64 t323]) ?_ 0 _ rfl; (with_reducible repeat (first | refine blk_drewN ?_ _ | refine blk_drew ?_ | refine blk_alloc ?_ _)); exact BK325.out) hb); have n2_ := Aside0.mk (blk_below (g := gb329) (o := .cells #[.int .i64 t326, .int .i64 t327] 23 (0, 0)) (by (with_reducible repeat (first | refine blk_drewN ?_ _ | refine blk_drew ?_ | refine blk_alloc ?_ _)); refine blk_far ?_ NB329_325.out _; (with_reducible repeat (first | refine blk_drewN ?_ _ | refine blk_drew ?_ | refine blk_alloc ?_ _)); refine blk_far ?_ NB329_325.out _; (with_reducible repeat (first | refine blk_drewN ?_ _ | refine blk_drew ?_ | refine blk_alloc ?_ _)); exact BK329.out) hb); have n3_ := Aside0.mk (below_step (by repeat (first | (with_reducible first | exact HB.out | apply below_alloc | apply pw_below_drewN | apply below_drew1 | refine below_set ?_ GE303.out | refine below_set ?_ GE325.out | refine below_set ?_ GE329.out) | exact HB.out)) hb); clear BK303; clear BK325; clear BK329; clear HB; have BK303 := n0_; have BK325 := n1_; have BK329 := n2_; have HB := n3_; clear n0_ n1_ n2_ n3_; (try clear hb); (try clear hb2); (try clear hk); (try clear hi); have hnb85 := NB329_303.out; have hnc85 := NB303_329.out; have hcz86_0 : w84.cell? ⟨gb329, 0, none⟩ = some (.int .i64 t326) := (blk_cell BK329.out 0).trans rfl; have hcz86_1 : w84.cell? ⟨gb329, 1, none⟩ = some (.int .i64 t327) := (blk_cell BK329.out 1).trans rfl; have hfz86_0 := blk_frozen BK329.out 0; have hfz86_1 := blk_frozen BK329.out 1; have hcz87_0 : w84.cell? ⟨gb325, 0, none⟩ = some (.int .i64 t334) := (blk_cell BK325.out 0).trans rfl; have hcz87_1 : w84.cell? ⟨gb325, 1, none⟩ = some (.int .i64 t335) := (blk_cell BK325.out 1).trans rfl; have hfz87_0 := blk_frozen BK325.out 0; have hfz87_1 := blk_frozen BK325.out 1; have hcz88_0 : w84.cell? ⟨gb303, 0, none⟩ = some (.int .i64 a4_0) := (blk_cell BK303.out 0).trans rfl; have hcz88_1 : w84.cell? ⟨gb303, 1, none⟩ = some (.int .i64 a4_1) := (blk_cell BK303.out 1).trans rfl; have hfz88_0 := blk_frozen BK303.out 0; have hfz88_1 := blk_frozen BK303.out 1) | ((with_reducible refine gate_callee (f := 26) rfl ?_); refine goesL_ (some 190) rfl rfl Tryd.func26 (by kernel_rfl) rfl #[.int .i64 a0, .int .i64 a2, .int .i64 a1, .int .i64 a3, .agg #[.int .i64 a4_0, .int .i64 a4_1]] rfl (by (try simp only [List.map_toArray, List.map_cons, List.map_nil]); first | done | rfl | (simp only [List.length_drop, List.length_take]; rfl)) ?_; (with_reducible refine (group_Equal.calls kj62 a0 a2 a1 a3 a4_0 a4_1 t340 t341 _ ?side1 A76.out).mono ?_); (case side1 => exact TabOk.below HT.out (by repeat (first | (with_reducible first | exact HB.out | apply below_alloc | apply pw_below_drewN | apply below_drew1 | refine below_set ?_ GE303.out | refine below_set ?_ GE325.out | refine below_set ?_ GE329.out) | exact HB.out))); rintro e w89 ⟨rfl, hb⟩; refine ⟨_, rfl, ?_⟩; have n0_ := Aside0.mk (blk_below (g := gb303) (o := .cells #[.int .i64 a4_0, .int .i64 a4_1] 23 (0, 0)) (by (with_reducible repeat (first | refine blk_drewN ?_ _ | refine blk_drew ?_ | refine blk_alloc ?_ _)); refine blk_far ?_ NB303_329.out _; (with_reducible repeat (first | refine blk_drewN ?_ _ | refine blk_drew ?_ | refine blk_alloc ?_ _)); refine blk_far ?_ NB303_329.out _; (with_reducible repeat (first | refine blk_drewN ?_ _ | refine blk_drew ?_ | refine blk_alloc ?_ _)); exact BK303.out) hb); have n1_ := Aside0.mk (blk_below (g := gb325) (o := .cells #[.int .i64 t334, .int .i64 t335] 23 (0, 0)) (by (with_reducible repeat (first | refine blk_drewN ?_ _ | refine blk_drew ?_ | refine blk_alloc ?_ _)); refine blk_far ?_ NB325_329.out _; (with_reducible repeat (first | refine blk_drewN ?_ _ | refine blk_drew ?_ | refine blk_alloc ?_ _)); refine blk_far ?_ NB325_329.out _; (with_reducible repeat (first | refine blk_drewN ?_ _ | refine blk_drew ?_ | refine blk_alloc ?_ _)); exact BK325.out) hb); have n2_ := Aside0.mk (blk_below (g := gb329) (o := .cells #[.int .i64 t337, .int .i64 t338] 23 (0, 0)) (by (with_reducible repeat (first | refine blk_drewN ?_ _ | refine blk_drew ?_ | refine blk_alloc ?_ _)); refine blk_put (cs := #[.int .i64 t337, .int .i64 t327]) ?_ 1 _ rfl; (with_reducible repeat (first | refine blk_drewN ?_ _ | refine blk_drew ?_ | refine blk_alloc ?_ _)); refine blk_put (cs := #[.int .i64 t326, .int .i64 t327]) ?_ 0 _ rfl; (with_reducible repeat (first | refine blk_drewN ?_ _ | refine blk_drew ?_ | refine blk_alloc ?_ _)); exact BK329.out) hb); have n3_ := Aside0.mk (below_step (by repeat (first | (with_reducible first | exact HB.out | apply below_alloc | apply pw_below_drewN | apply below_drew1 | refine below_set ?_ GE303.out | refine below_set ?_ GE325.out | refine below_set ?_ GE329.out) | exact HB.out)) hb); clear BK303; clear BK325; clear BK329; clear HB; have BK303 := n0_; have BK325 := n1_; have BK329 := n2_; have HB := n3_; clear n0_ n1_ n2_ n3_; (try clear hb); (try clear hb2); (try clear hk); (try clear hi); have hcz90_0 : w89.cell? ⟨gb303, 0, none⟩ = some (.int .i64 a4_0) := (blk_cell BK303.out 0).trans rfl; have hcz90_1 : w89.cell? ⟨gb303, 1, none⟩ = some (.int .i64 a4_1) := (blk_cell BK303.out 1).trans rfl; have hfz90_0 := blk_frozen BK303.out 0; have hfz90_1 := blk_frozen BK303.out 1) | ((with_reducible refine gate_callee (f := 27) rfl ?_); refine goesL_ (some 199) rfl rfl Tryd.func27 (by kernel_rfl) rfl #[.int .i64 a0, .int .i64 a2, .int .i64 a1, .int .i64 a3, .agg #[.int .i64 a4_0, .int .i64 a4_1]] rfl (by (try simp only [List.map_toArray, List.map_cons, List.map_nil]); first | done | rfl | (simp only [List.length_drop, List.length_take]; rfl)) ?_; (with_reducible refine (cohousingref08_Equal.calls kj62 a0 a2 a1 a3 a4_0 a4_1 t342 t343 _ A77.out).mono ?_); rintro e w91 ⟨rfl, hb⟩; refine ⟨_, rfl, ?_⟩; have n0_ := Aside0.mk (blk_below (g := gb303) (o := .cells #[.int .i64 a4_0, .int .i64 a4_1] 23 (0, 0)) (by (with_reducible repeat (first | refine blk_drewN ?_ _ | refine blk_drew ?_ | refine blk_alloc ?_ _)); exact BK303.out) hb); have n1_ := Aside0.mk (blk_below (g := gb325) (o := .cells #[.int .i64 t334, .int .i64 t335] 23 (0, 0)) (by (with_reducible repeat (first | refine blk_drewN ?_ _ | refine blk_drew ?_ | refine blk_alloc ?_ _)); exact BK325.out) hb); have n2_ := Aside0.mk (blk_below (g := gb329) (o := .cells #[.int .i64 t337, .int .i64 t338] 23 (0, 0)) (by (with_reducible repeat (first | refine blk_drewN ?_ _ | refine blk_drew ?_ | refine blk_alloc ?_ _)); exact BK329.out) hb); have n3_ := Aside0.mk (below_step (by repeat (first | (with_reducible first | exact HB.out | apply below_alloc | apply pw_below_drewN | apply below_drew1 | refine below_set ?_ GE303.out | refine below_set ?_ GE325.out | refine below_set ?_ GE329.out) | exact HB.out)) hb); clear BK303; clear BK325; clear BK329; clear HB; have BK303 := n0_; have BK325 := n1_; have BK329 := n2_; have HB := n3_; clear n0_ n1_ n2_ n3_; (try clear hb); (try clear hb2); (try clear hk); (try clear hi)))
                    go_ret
                    exact ⟨by first | rfl | (simp [errW_none, errW_some] <;> rfl) | (simp [*, errW_none, errW_some] <;> rfl), by repeat (first | (with_reducible first | exact HB.out | apply below_alloc | apply pw_below_drewN | apply below_drew1 | refine below_set ?_ GE303.out | refine below_set ?_ GE325.out | refine below_set ?_ GE329.out) | exact HB.out)⟩
                   ·rw [if_neg c79] at H
                    have c79b0 : (t340 == t342) = false := by simpa using c79
                    (try (have c79b1 : decide (t340 = t342) = false := by simpa using c79))
                    (try (have c79b2 : (t340 == t342) = false := by simpa using c79))
                    (try (have c79b3 : ¬ (t340 = t342) := by simpa using c79))
                    clear c79
                    obtain rfl := Option.some.inj H
                    go_wp2_with (first | ((with_reducible refine gate_callee (f := 24) rfl ?_); refine goesL_ (some 162) rfl rfl Tryd.func24 (by kernel_rfl) rfl #[.int .i64 a0, .int .i64 a1, .int .i64 a2, .int .i64 a3] rfl (by (try simp only [List.map_toArray, List.map_cons, List.map_nil]); first | done | rfl | (simp only [List.length_drop, List.length_take]; rfl)) ?_; (with_reducible refine (group_Same.calls kj62 a0 a1 a2 a3 t334 t335 t336 _ ?side1 A72.out).mono ?_); (case side1 => exact TabOk.below HT.out (by repeat (first | (with_reducible first | exact HB.out | apply below_alloc | apply pw_below_drewN | apply below_drew1 | refine below_set ?_ GE303.out | refine below_set ?_ GE325.out | refine below_set ?_ GE329.out) | exact HB.out))); rintro e w92 ⟨rfl, hb⟩; refine ⟨_, rfl, ?_⟩; have n0_ := Aside0.mk (blk_below (g := gb303) (o := .cells #[.int .i64 a4_0, .int .i64 a4_1] 23 (0, 0)) (by (with_reducible repeat (first | refine blk_drewN ?_ _ | refine blk_drew ?_ | refine blk_alloc ?_ _)); exact BK303.out) hb); have n1_ := Aside0.mk (blk_below (g := gb325) (o := .cells #[.int .i64 t322, .int .i64 t323] 23 (0, 0)) (by (with_reducible repeat (first | refine blk_drewN ?_ _ | refine blk_drew ?_ | refine blk_alloc ?_ _)); exact BK325.out) hb); have n2_ := Aside0.mk (blk_below (g := gb329) (o := .cells #[.int .i64 t326, .int .i64 t327] 23 (0, 0)) (by (with_reducible repeat (first | refine blk_drewN ?_ _ | refine blk_drew ?_ | refine blk_alloc ?_ _)); exact BK329.out) hb); have n3_ := Aside0.mk (below_step (by repeat (first | (with_reducible first | exact HB.out | apply below_alloc | apply pw_below_drewN | apply below_drew1 | refine below_set ?_ GE303.out | refine below_set ?_ GE325.out | refine below_set ?_ GE329.out) | exact HB.out)) hb); clear BK303; clear BK325; clear BK329; clear HB; have BK303 := n0_; have BK325 := n1_; have BK329 := n2_; have HB := n3_; clear n0_ n1_ n2_ n3_; (try clear hb); (try clear hb2); (try clear hk); (try clear hi); have hnb93 := NB325_303.out; have hnc93 := NB303_325.out; have hnb94 := NB325_329.out; have hnc94 := NB329_325.out; have hcz95_0 : w92.cell? ⟨gb325, 0, none⟩ = some (.int .i64 t322) := (blk_cell BK325.out 0).trans rfl; have hcz95_1 : w92.cell? ⟨gb325, 1, none⟩ = some (.int .i64 t323) := (blk_cell BK325.out 1).trans rfl; have hfz95_0 := blk_frozen BK325.out 0; have hfz95_1 := blk_frozen BK325.out 1) | ((with_reducible refine gate_callee (f := 25) rfl ?_); refine goesL_ (some 170) rfl rfl Tryd.func25 (by kernel_rfl) rfl #[.int .i64 a0, .int .i64 a1, .int .i64 a2, .int .i64 a3] rfl (by (try simp only [List.map_toArray, List.map_cons, List.map_nil]); first | done | rfl | (simp only [List.length_drop, List.length_take]; rfl)) ?_; (with_reducible refine (cohousingref08_Same.calls kj62 a0 a1 a2 a3 t337 t338 t339 _ A73.out).mono ?_); rintro e w96 ⟨rfl, hb⟩; refine ⟨_, rfl, ?_⟩; have n0_ := Aside0.mk (blk_below (g := gb303) (o := .cells #[.int .i64 a4_0, .int .i64 a4_1] 23 (0, 0)) (by (with_reducible repeat (first | refine blk_drewN ?_ _ | refine blk_drew ?_ | refine blk_alloc ?_ _)); refine blk_far ?_ NB303_325.out _; (with_reducible repeat (first | refine blk_drewN ?_ _ | refine blk_drew ?_ | refine blk_alloc ?_ _)); refine blk_far ?_ NB303_325.out _; (with_reducible repeat (first | refine blk_drewN ?_ _ | refine blk_drew ?_ | refine blk_alloc ?_ _)); exact BK303.out) hb); have n1_ := Aside0.mk (blk_below (g := gb325) (o := .cells #[.int .i64 t334, .int .i64 t335] 23 (0, 0)) (by (with_reducible repeat (first | refine blk_drewN ?_ _ | refine blk_drew ?_ | refine blk_alloc ?_ _)); refine blk_put (cs := #[.int .i64 t334, .int .i64 t323]) ?_ 1 _ rfl; (with_reducible repeat (first | refine blk_drewN ?_ _ | refine blk_drew ?_ | refine blk_alloc ?_ _)); refine blk_put (cs := #[.int .i64 t322, .int .i64 t323]) ?_ 0 _ rfl; (with_reducible repeat (first | refine blk_drewN ?_ _ | refine blk_drew ?_ | refine blk_alloc ?_ _)); exact BK325.out) hb); have n2_ := Aside0.mk (blk_below (g := gb329) (o := .cells #[.int .i64 t326, .int .i64 t327] 23 (0, 0)) (by (with_reducible repeat (first | refine blk_drewN ?_ _ | refine blk_drew ?_ | refine blk_alloc ?_ _)); refine blk_far ?_ NB329_325.out _; (with_reducible repeat (first | refine blk_drewN ?_ _ | refine blk_drew ?_ | refine blk_alloc ?_ _)); refine blk_far ?_ NB329_325.out _; (with_reducible repeat (first | refine blk_drewN ?_ _ | refine blk_drew ?_ | refine blk_alloc ?_ _)); exact BK329.out) hb); have n3_ := Aside0.mk (below_step (by repeat (first | (with_reducible first | exact HB.out | apply below_alloc | apply pw_below_drewN | apply below_drew1 | refine below_set ?_ GE303.out | refine below_set ?_ GE325.out | refine below_set ?_ GE329.out) | exact HB.out)) hb); clear BK303; clear BK325; clear BK329; clear HB; have BK303 := n0_; have BK325 := n1_; have BK329 := n2_; have HB := n3_; clear n0_ n1_ n2_ n3_; (try clear hb); (try clear hb2); (try clear hk); (try clear hi); have hnb97 := NB329_303.out; have hnc97 := NB303_329.out; have hcz98_0 : w96.cell? ⟨gb329, 0, none⟩ = some (.int .i64 t326) := (blk_cell BK329.out 0).trans rfl; have hcz98_1 : w96.cell? ⟨gb329, 1, none⟩ = some (.int .i64 t327) := (blk_cell BK329.out 1).trans rfl; have hfz98_0 := blk_frozen BK329.out 0; have hfz98_1 := blk_frozen BK329.out 1; have hcz99_0 : w96.cell? ⟨gb325, 0, none⟩ = some (.int .i64 t334) := (blk_cell BK325.out 0).trans rfl; have hcz99_1 : w96.cell? ⟨gb325, 1, none⟩ = some (.int .i64 t335) := (blk_cell BK325.out 1).trans rfl; have hfz99_0 := blk_frozen BK325.out 0; have hfz99_1 := blk_frozen BK325.out 1; have hcz100_0 : w96.cell? ⟨gb303, 0, none⟩ = some (.int .i64 a4_0) := (blk_cell BK303.out 0).trans rfl; have hcz100_1 : w96.cell? ⟨gb303, 1, none⟩ = some (.int .i64 a4_1) := (blk_cell BK303.out 1).trans rfl; have hfz100_0 := blk_frozen BK303.out 0; have hfz100_1 := blk_frozen BK303.out 1) | ((with_reducible refine gate_callee (f := 26) rfl ?_); refine goesL_ (some 190) rfl rfl Tryd.func26 (by kernel_rfl) rfl #[.int .i64 a0, .int .i64 a2, .int .i64 a1, .int .i64 a3, .agg #[.int .i64 a4_0, .int .i64 a4_1]] rfl (by (try simp only [List.map_toArray, List.map_cons, List.map_nil]); first | done | rfl | (simp only [List.length_drop, List.length_take]; rfl)) ?_; (with_reducible refine (group_Equal.calls kj62 a0 a2 a1 a3 a4_0 a4_1 t340 t341 _ ?side1 A76.out).mono ?_); (case side1 => exact TabOk.below HT.out (by repeat (first | (with_reducible first | exact HB.out | apply below_alloc | apply pw_below_drewN | apply below_drew1 | refine below_set ?_ GE303.out | refine below_set ?_ GE325.out | refine below_set ?_ GE329.out) | exact HB.out))); rintro e w101 ⟨rfl, hb⟩; refine ⟨_, rfl, ?_⟩; have n0_ := Aside0.mk (blk_below (g := gb303) (o := .cells #[.int .i64 a4_0, .int .i64 a4_1] 23 (0, 0)) (by (with_reducible repeat (first | refine blk_drewN ?_ _ | refine blk_drew ?_ | refine blk_alloc ?_ _)); refine blk_far ?_ NB303_329.out _; (with_reducible repeat (first | refine blk_drewN ?_ _ | refine blk_drew ?_ | refine blk_alloc ?_ _)); refine blk_far ?_ NB303_329.out _; (with_reducible repeat (first | refine blk_drewN ?_ _ | refine blk_drew ?_ | refine blk_alloc ?_ _)); exact BK303.out) hb); have n1_ := Aside0.mk (blk_below (g := gb325) (o := .cells #[.int .i64 t334, .int .i64 t335] 23 (0, 0)) (by (with_reducible repeat (first | refine blk_drewN ?_ _ | refine blk_drew ?_ | refine blk_alloc ?_ _)); refine blk_far ?_ NB325_329.out _; (with_reducible repeat (first | refine blk_drewN ?_ _ | refine blk_drew ?_ | refine blk_alloc ?_ _)); refine blk_far ?_ NB325_329.out _; (with_reducible repeat (first | refine blk_drewN ?_ _ | refine blk_drew ?_ | refine blk_alloc ?_ _)); exact BK325.out) hb); have n2_ := Aside0.mk (blk_below (g := gb329) (o := .cells #[.int .i64 t337, .int .i64 t338] 23 (0, 0)) (by (with_reducible repeat (first | refine blk_drewN ?_ _ | refine blk_drew ?_ | refine blk_alloc ?_ _)); refine blk_put (cs := #[.int .i64 t337, .int .i64 t327]) ?_ 1 _ rfl; (with_reducible repeat (first | refine blk_drewN ?_ _ | refine blk_drew ?_ | refine blk_alloc ?_ _)); refine blk_put (cs := #[.int .i64 t326, .int .i64 t327]) ?_ 0 _ rfl; (with_reducible repeat (first | refine blk_drewN ?_ _ | refine blk_drew ?_ | refine blk_alloc ?_ _)); exact BK329.out) hb); have n3_ := Aside0.mk (below_step (by repeat (first | (with_reducible first | exact HB.out | apply below_alloc | apply pw_below_drewN | apply below_drew1 | refine below_set ?_ GE303.out | refine below_set ?_ GE325.out | refine below_set ?_ GE329.out) | exact HB.out)) hb); clear BK303; clear BK325; clear BK329; clear HB; have BK303 := n0_; have BK325 := n1_; have BK329 := n2_; have HB := n3_; clear n0_ n1_ n2_ n3_; (try clear hb); (try clear hb2); (try clear hk); (try clear hi); have hcz102_0 : w101.cell? ⟨gb303, 0, none⟩ = some (.int .i64 a4_0) := (blk_cell BK303.out 0).trans rfl; have hcz102_1 : w101.cell? ⟨gb303, 1, none⟩ = some (.int .i64 a4_1) := (blk_cell BK303.out 1).trans rfl; have hfz102_0 := blk_frozen BK303.out 0; have hfz102_1 := blk_frozen BK303.out 1) | ((with_reducible refine gate_callee (f := 27) rfl ?_); refine goesL_ (some 199) rfl rfl Tryd.func27 (by kernel_rfl) rfl #[.int .i64 a0, .int .i64 a2, .int .i64 a1, .int .i64 a3, .agg #[.int .i64 a4_0, .int .i64 a4_1]] rfl (by (try simp only [List.map_toArray, List.map_cons, List.map_nil]); first | done | rfl | (simp only [List.length_drop, List.length_take]; rfl)) ?_; (with_reducible refine (cohousingref08_Equal.calls kj62 a0 a2 a1 a3 a4_0 a4_1 t342 t343 _ A77.out).mono ?_); rintro e w103 ⟨rfl, hb⟩; refine ⟨_, rfl, ?_⟩; have n0_ := Aside0.mk (blk_below (g := gb303) (o := .cells #[.int .i64 a4_0, .int .i64 a4_1] 23 (0, 0)) (by (with_reducible repeat (first | refine blk_drewN ?_ _ | refine blk_drew ?_ | refine blk_alloc ?_ _)); exact BK303.out) hb); have n1_ := Aside0.mk (blk_below (g := gb325) (o := .cells #[.int .i64 t334, .int .i64 t335] 23 (0, 0)) (by (with_reducible repeat (first | refine blk_drewN ?_ _ | refine blk_drew ?_ | refine blk_alloc ?_ _)); exact BK325.out) hb); have n2_ := Aside0.mk (blk_below (g := gb329) (o := .cells #[.int .i64 t337, .int .i64 t338] 23 (0, 0)) (by (with_reducible repeat (first | refine blk_drewN ?_ _ | refine blk_drew ?_ | refine blk_alloc ?_ _)); exact BK329.out) hb); have n3_ := Aside0.mk (below_step (by repeat (first | (with_reducible first | exact HB.out | apply below_alloc | apply pw_below_drewN | apply below_drew1 | refine below_set ?_ GE303.out | refine below_set ?_ GE325.out | refine below_set ?_ GE329.out) | exact HB.out)) hb); clear BK303; clear BK325; clear BK329; clear HB; have BK303 := n0_; have BK325 := n1_; have BK329 := n2_; have HB := n3_; clear n0_ n1_ n2_ n3_; (try clear hb); (try clear hb2); (try clear hk); (try clear hi)))
                    go_ret
                    exact ⟨by first | rfl | (simp [errW_none, errW_some] <;> rfl) | (simp [*, errW_none, errW_some] <;> rfl), by repeat (first | (with_reducible first | exact HB.out | apply below_alloc | apply pw_below_drewN | apply below_drew1 | refine below_set ?_ GE303.out | refine below_set ?_ GE325.out | refine below_set ?_ GE329.out) | exact HB.out)⟩
                  ·rw [if_neg c78] at H
                   have c78b0 : (t336 == t339) = false := beq_eq_false_iff_ne.mpr c78
                   have c78b1 : (t336 != t339) = true := bne_iff_ne.mpr c78
                   obtain rfl := Option.some.inj H
                   go_wp2_with (first | ((with_reducible refine gate_callee (f := 24) rfl ?_); refine goesL_ (some 162) rfl rfl Tryd.func24 (by kernel_rfl) rfl #[.int .i64 a0, .int .i64 a1, .int .i64 a2, .int .i64 a3] rfl (by (try simp only [List.map_toArray, List.map_cons, List.map_nil]); first | done | rfl | (simp only [List.length_drop, List.length_take]; rfl)) ?_; (with_reducible refine (group_Same.calls kj62 a0 a1 a2 a3 t334 t335 t336 _ ?side1 A72.out).mono ?_); (case side1 => exact TabOk.below HT.out (by repeat (first | (with_reducible first | exact HB.out | apply below_alloc | apply pw_below_drewN | apply below_drew1 | refine below_set ?_ GE303.out | refine below_set ?_ GE325.out | refine below_set ?_ GE329.out) | exact HB.out))); rintro e w104 ⟨rfl, hb⟩; refine ⟨_, rfl, ?_⟩; have n0_ := Aside0.mk (blk_below (g := gb303) (o := .cells #[.int .i64 a4_0, .int .i64 a4_1] 23 (0, 0)) (by (with_reducible repeat (first | refine blk_drewN ?_ _ | refine blk_drew ?_ | refine blk_alloc ?_ _)); exact BK303.out) hb); have n1_ := Aside0.mk (blk_below (g := gb325) (o := .cells #[.int .i64 t322, .int .i64 t323] 23 (0, 0)) (by (with_reducible repeat (first | refine blk_drewN ?_ _ | refine blk_drew ?_ | refine blk_alloc ?_ _)); exact BK325.out) hb); have n2_ := Aside0.mk (blk_below (g := gb329) (o := .cells #[.int .i64 t326, .int .i64 t327] 23 (0, 0)) (by (with_reducible repeat (first | refine blk_drewN ?_ _ | refine blk_drew ?_ | refine blk_alloc ?_ _)); exact BK329.out) hb); have n3_ := Aside0.mk (below_step (by repeat (first | (with_reducible first | exact HB.out | apply below_alloc | apply pw_below_drewN | apply below_drew1 | refine below_set ?_ GE303.out | refine below_set ?_ GE325.out | refine below_set ?_ GE329.out) | exact HB.out)) hb); clear BK303; clear BK325; clear BK329; clear HB; have BK303 := n0_; have BK325 := n1_; have BK329 := n2_; have HB := n3_; clear n0_ n1_ n2_ n3_; (try clear hb); (try clear hb2); (try clear hk); (try clear hi); have hnb105 := NB325_303.out; have hnc105 := NB303_325.out; have hnb106 := NB325_329.out; have hnc106 := NB329_325.out; have hcz107_0 : w104.cell? ⟨gb325, 0, none⟩ = some (.int .i64 t322) := (blk_cell BK325.out 0).trans rfl; have hcz107_1 : w104.cell? ⟨gb325, 1, none⟩ = some (.int .i64 t323) := (blk_cell BK325.out 1).trans rfl; have hfz107_0 := blk_frozen BK325.out 0; have hfz107_1 := blk_frozen BK325.out 1) | ((with_reducible refine gate_callee (f := 25) rfl ?_); refine goesL_ (some 170) rfl rfl Tryd.func25 (by kernel_rfl) rfl #[.int .i64 a0, .int .i64 a1, .int .i64 a2, .int .i64 a3] rfl (by (try simp only [List.map_toArray, List.map_cons, List.map_nil]); first | done | rfl | (simp only [List.length_drop, List.length_take]; rfl)) ?_; (with_reducible refine (cohousingref08_Same.calls kj62 a0 a1 a2 a3 t337 t338 t339 _ A73.out).mono ?_); rintro e w108 ⟨rfl, hb⟩; refine ⟨_, rfl, ?_⟩; have n0_ := Aside0.mk (blk_below (g := gb303) (o := .cells #[.int .i64 a4_0, .int .i64 a4_1] 23 (0, 0)) (by (with_reducible repeat (first | refine blk_drewN ?_ _ | refine blk_drew ?_ | refine blk_alloc ?_ _)); refine blk_far ?_ NB303_325.out _; (with_reducible repeat (first | refine blk_drewN ?_ _ | refine blk_drew ?_ | refine blk_alloc ?_ _)); refine blk_far ?_ NB303_325.out _; (with_reducible repeat (first | refine blk_drewN ?_ _ | refine blk_drew ?_ | refine blk_alloc ?_ _)); exact BK303.out) hb); have n1_ := Aside0.mk (blk_below (g := gb325) (o := .cells #[.int .i64 t334, .int .i64 t335] 23 (0, 0)) (by (with_reducible repeat (first | refine blk_drewN ?_ _ | refine blk_drew ?_ | refine blk_alloc ?_ _)); refine blk_put (cs := #[.int .i64 t334, .int .i64 t323]) ?_ 1 _ rfl; (with_reducible repeat (first | refine blk_drewN ?_ _ | refine blk_drew ?_ | refine blk_alloc ?_ _)); refine blk_put (cs := #[.int .i64 t322, .int .i64 t323]) ?_ 0 _ rfl; (with_reducible repeat (first | refine blk_drewN ?_ _ | refine blk_drew ?_ | refine blk_alloc ?_ _)); exact BK325.out) hb); have n2_ := Aside0.mk (blk_below (g := gb329) (o := .cells #[.int .i64 t326, .int .i64 t327] 23 (0, 0)) (by (with_reducible repeat (first | refine blk_drewN ?_ _ | refine blk_drew ?_ | refine blk_alloc ?_ _)); refine blk_far ?_ NB329_325.out _; (with_reducible repeat (first | refine blk_drewN ?_ _ | refine blk_drew ?_ | refine blk_alloc ?_ _)); refine blk_far ?_ NB329_325.out _; (with_reducible repeat (first | refine blk_drewN ?_ _ | refine blk_drew ?_ | refine blk_alloc ?_ _)); exact BK329.out) hb); have n3_ := Aside0.mk (below_step (by repeat (first | (with_reducible first | exact HB.out | apply below_alloc | apply pw_below_drewN | apply below_drew1 | refine below_set ?_ GE303.out | refine below_set ?_ GE325.out | refine below_set ?_ GE329.out) | exact HB.out)) hb); clear BK303; clear BK325; clear BK329; clear HB; have BK303 := n0_; have BK325 := n1_; have BK329 := n2_; have HB := n3_; clear n0_ n1_ n2_ n3_; (try clear hb); (try clear hb2); (try clear hk); (try clear hi); have hnb109 := NB329_303.out; have hnc109 := NB303_329.out; have hcz110_0 : w108.cell? ⟨gb329, 0, none⟩ = some (.int .i64 t326) := (blk_cell BK329.out 0).trans rfl; have hcz110_1 : w108.cell? ⟨gb329, 1, none⟩ = some (.int .i64 t327) := (blk_cell BK329.out 1).trans rfl; have hfz110_0 := blk_frozen BK329.out 0; have hfz110_1 := blk_frozen BK329.out 1; have hcz111_0 : w108.cell? ⟨gb325, 0, none⟩ = some (.int .i64 t334) := (blk_cell BK325.out 0).trans rfl; have hcz111_1 : w108.cell? ⟨gb325, 1, none⟩ = some (.int .i64 t335) := (blk_cell BK325.out 1).trans rfl; have hfz111_0 := blk_frozen BK325.out 0; have hfz111_1 := blk_frozen BK325.out 1; have hcz112_0 : w108.cell? ⟨gb303, 0, none⟩ = some (.int .i64 a4_0) := (blk_cell BK303.out 0).trans rfl; have hcz112_1 : w108.cell? ⟨gb303, 1, none⟩ = some (.int .i64 a4_1) := (blk_cell BK303.out 1).trans rfl; have hfz112_0 := blk_frozen BK303.out 0; have hfz112_1 := blk_frozen BK303.out 1) | ((with_reducible refine gate_callee (f := 26) rfl ?_); refine goesL_ (some 190) rfl rfl Tryd.func26 (by kernel_rfl) rfl #[.int .i64 a0, .int .i64 a2, .int .i64 a1, .int .i64 a3, .agg #[.int .i64 a4_0, .int .i64 a4_1]] rfl (by (try simp only [List.map_toArray, List.map_cons, List.map_nil]); first | done | rfl | (simp only [List.length_drop, List.length_take]; rfl)) ?_; (with_reducible refine (group_Equal.calls kj62 a0 a2 a1 a3 a4_0 a4_1 t340 t341 _ ?side1 A76.out).mono ?_); (case side1 => exact TabOk.below HT.out (by repeat (first | (with_reducible first | exact HB.out | apply below_alloc | apply pw_below_drewN | apply below_drew1 | refine below_set ?_ GE303.out | refine below_set ?_ GE325.out | refine below_set ?_ GE329.out) | exact HB.out))); rintro e w113 ⟨rfl, hb⟩; refine ⟨_, rfl, ?_⟩; have n0_ := Aside0.mk (blk_below (g := gb303) (o := .cells #[.int .i64 a4_0, .int .i64 a4_1] 23 (0, 0)) (by (with_reducible repeat (first | refine blk_drewN ?_ _ | refine blk_drew ?_ | refine blk_alloc ?_ _)); refine blk_far ?_ NB303_329.out _; (with_reducible repeat (first | refine blk_drewN ?_ _ | refine blk_drew ?_ | refine blk_alloc ?_ _)); refine blk_far ?_ NB303_329.out _; (with_reducible repeat (first | refine blk_drewN ?_ _ | refine blk_drew ?_ | refine blk_alloc ?_ _)); exact BK303.out) hb); have n1_ := Aside0.mk (blk_below (g := gb325) (o := .cells #[.int .i64 t334, .int .i64 t335] 23 (0, 0)) (by (with_reducible repeat (first | refine blk_drewN ?_ _ | refine blk_drew ?_ | refine blk_alloc ?_ _)); refine blk_far ?_ NB325_329.out _; (with_reducible repeat (first | refine blk_drewN ?_ _ | refine blk_drew ?_ | refine blk_alloc ?_ _)); refine blk_far ?_ NB325_329.out _; (with_reducible repeat (first | refine blk_drewN ?_ _ | refine blk_drew ?_ | refine blk_alloc ?_ _)); exact BK325.out) hb); have n2_ := Aside0.mk (blk_below (g := gb329) (o := .cells #[.int .i64 t337, .int .i64 t338] 23 (0, 0)) (by (with_reducible repeat (first | refine blk_drewN ?_ _ | refine blk_drew ?_ | refine blk_alloc ?_ _)); refine blk_put (cs := #[.int .i64 t337, .int .i64 t327]) ?_ 1 _ rfl; (with_reducible repeat (first | refine blk_drewN ?_ _ | refine blk_drew ?_ | refine blk_alloc ?_ _)); refine blk_put (cs := #[.int .i64 t326, .int .i64 t327]) ?_ 0 _ rfl; (with_reducible repeat (first | refine blk_drewN ?_ _ | refine blk_drew ?_ | refine blk_alloc ?_ _)); exact BK329.out) hb); have n3_ := Aside0.mk (below_step (by repeat (first | (with_reducible first | exact HB.out | apply below_alloc | apply pw_below_drewN | apply below_drew1 | refine below_set ?_ GE303.out | refine below_set ?_ GE325.out | refine below_set ?_ GE329.out) | exact HB.out)) hb); clear BK303; clear BK325; clear BK329; clear HB; have BK303 := n0_; have BK325 := n1_; have BK329 := n2_; have HB := n3_; clear n0_ n1_ n2_ n3_; (try clear hb); (try clear hb2); (try clear hk); (try clear hi); have hcz114_0 : w113.cell? ⟨gb303, 0, none⟩ = some (.int .i64 a4_0) := (blk_cell BK303.out 0).trans rfl; have hcz114_1 : w113.cell? ⟨gb303, 1, none⟩ = some (.int .i64 a4_1) := (blk_cell BK303.out 1).trans rfl; have hfz114_0 := blk_frozen BK303.out 0; have hfz114_1 := blk_frozen BK303.out 1) | ((with_reducible refine gate_callee (f := 27) rfl ?_); refine goesL_ (some 199) rfl rfl Tryd.func27 (by kernel_rfl) rfl #[.int .i64 a0, .int .i64 a2, .int .i64 a1, .int .i64 a3, .agg #[.int .i64 a4_0, .int .i64 a4_1]] rfl (by (try simp only [List.map_toArray, List.map_cons, List.map_nil]); first | done | rfl | (simp only [List.length_drop, List.length_take]; rfl)) ?_; (with_reducible refine (cohousingref08_Equal.calls kj62 a0 a2 a1 a3 a4_0 a4_1 t342 t343 _ A77.out).mono ?_); rintro e w115 ⟨rfl, hb⟩; refine ⟨_, rfl, ?_⟩; have n0_ := Aside0.mk (blk_below (g := gb303) (o := .cells #[.int .i64 a4_0, .int .i64 a4_1] 23 (0, 0)) (by (with_reducible repeat (first | refine blk_drewN ?_ _ | refine blk_drew ?_ | refine blk_alloc ?_ _)); exact BK303.out) hb); have n1_ := Aside0.mk (blk_below (g := gb325) (o := .cells #[.int .i64 t334, .int .i64 t335] 23 (0, 0)) (by (with_reducible repeat (first | refine blk_drewN ?_ _ | refine blk_drew ?_ | refine blk_alloc ?_ _)); exact BK325.out) hb); have n2_ := Aside0.mk (blk_below (g := gb329) (o := .cells #[.int .i64 t337, .int .i64 t338] 23 (0, 0)) (by (with_reducible repeat (first | refine blk_drewN ?_ _ | refine blk_drew ?_ | refine blk_alloc ?_ _)); exact BK329.out) hb); have n3_ := Aside0.mk (below_step (by repeat (first | (with_reducible first | exact HB.out | apply below_alloc | apply pw_below_drewN | apply below_drew1 | refine below_set ?_ GE303.out | refine below_set ?_ GE325.out | refine below_set ?_ GE329.out) | exact HB.out)) hb); clear BK303; clear BK325; clear BK329; clear HB; have BK303 := n0_; have BK325 := n1_; have BK329 := n2_; have HB := n3_; clear n0_ n1_ n2_ n3_; (try clear hb); (try clear hb2); (try clear hk); (try clear hi)))
                   go_ret
                   exact ⟨by first | rfl | (simp [errW_none, errW_some] <;> rfl) | (simp [*, errW_none, errW_some] <;> rfl), by repeat (first | (with_reducible first | exact HB.out | apply below_alloc | apply pw_below_drewN | apply below_drew1 | refine below_set ?_ GE303.out | refine below_set ?_ GE325.out | refine below_set ?_ GE329.out) | exact HB.out)⟩
                 ·rw [if_neg c75] at H
                  have c75b0 : (t334 == t337 && (t335 == t338)) = false := by simpa using c75
                  (try (have c75b1 : decide (t334 = t337 && (t335 == t338)) = false := by simpa using c75))
                  (try (have c75b2 : (t334 == t337 && (t335 == t338)) = false := by simpa using c75))
                  (try (have c75b3 : ¬ (t334 = t337 && (t335 == t338)) := by simpa using c75))
                  clear c75
                  replace H := Option.bind_eq_some_iff.mp H
                  obtain ⟨⟨t344, t345⟩, A1160, H⟩ := H
                  replace H : ((cohousingref08_Equal.f kj62 a0 a2 a1 a3 a4_0 a4_1).bind fun bt346 => (some false)) = some r := H
                  have A116 := Aside0.mk A1160
                  clear A1160
                  replace H := Option.bind_eq_some_iff.mp H
                  obtain ⟨⟨t346, t347⟩, A1170, H⟩ := H
                  replace H : (some false) = some r := H
                  have A117 := Aside0.mk A1170
                  clear A1170
                  obtain rfl := Option.some.inj H
                  go_wp2_with (first | ((with_reducible refine gate_callee (f := 24) rfl ?_); refine goesL_ (some 162) rfl rfl Tryd.func24 (by kernel_rfl) rfl #[.int .i64 a0, .int .i64 a1, .int .i64 a2, .int .i64 a3] rfl (by (try simp only [List.map_toArray, List.map_cons, List.map_nil]); first | done | rfl | (simp only [List.length_drop, List.length_take]; rfl)) ?_; (with_reducible refine (group_Same.calls kj62 a0 a1 a2 a3 t334 t335 t336 _ ?side1 A72.out).mono ?_); (case side1 => exact TabOk.below HT.out (by repeat (first | (with_reducible first | exact HB.out | apply below_alloc | apply pw_below_drewN | apply below_drew1 | refine below_set ?_ GE303.out | refine below_set ?_ GE325.out | refine below_set ?_ GE329.out) | exact HB.out))); rintro e w118 ⟨rfl, hb⟩; refine ⟨_, rfl, ?_⟩; have n0_ := Aside0.mk (blk_below (g := gb303) (o := .cells #[.int .i64 a4_0, .int .i64 a4_1] 23 (0, 0)) (by (with_reducible repeat (first | refine blk_drewN ?_ _ | refine blk_drew ?_ | refine blk_alloc ?_ _)); exact BK303.out) hb); have n1_ := Aside0.mk (blk_below (g := gb325) (o := .cells #[.int .i64 t322, .int .i64 t323] 23 (0, 0)) (by (with_reducible repeat (first | refine blk_drewN ?_ _ | refine blk_drew ?_ | refine blk_alloc ?_ _)); exact BK325.out) hb); have n2_ := Aside0.mk (blk_below (g := gb329) (o := .cells #[.int .i64 t326, .int .i64 t327] 23 (0, 0)) (by (with_reducible repeat (first | refine blk_drewN ?_ _ | refine blk_drew ?_ | refine blk_alloc ?_ _)); exact BK329.out) hb); have n3_ := Aside0.mk (below_step (by repeat (first | (with_reducible first | exact HB.out | apply below_alloc | apply pw_below_drewN | apply below_drew1 | refine below_set ?_ GE303.out | refine below_set ?_ GE325.out | refine below_set ?_ GE329.out) | exact HB.out)) hb); clear BK303; clear BK325; clear BK329; clear HB; have BK303 := n0_; have BK325 := n1_; have BK329 := n2_; have HB := n3_; clear n0_ n1_ n2_ n3_; (try clear hb); (try clear hb2); (try clear hk); (try clear hi); have hnb119 := NB325_303.out; have hnc119 := NB303_325.out; have hnb120 := NB325_329.out; have hnc120 := NB329_325.out; have hcz121_0 : w118.cell? ⟨gb325, 0, none⟩ = some (.int .i64 t322) := (blk_cell BK325.out 0).trans rfl; have hcz121_1 : w118.cell? ⟨gb325, 1, none⟩ = some (.int .i64 t323) := (blk_cell BK325.out 1).trans rfl; have hfz121_0 := blk_frozen BK325.out 0; have hfz121_1 := blk_frozen BK325.out 1) | ((with_reducible refine gate_callee (f := 25) rfl ?_); refine goesL_ (some 170) rfl rfl Tryd.func25 (by kernel_rfl) rfl #[.int .i64 a0, .int .i64 a1, .int .i64 a2, .int .i64 a3] rfl (by (try simp only [List.map_toArray, List.map_cons, List.map_nil]); first | done | rfl | (simp only [List.length_drop, List.length_take]; rfl)) ?_; (with_reducible refine (cohousingref08_Same.calls kj62 a0 a1 a2 a3 t337 t338 t339 _ A73.out).mono ?_); rintro e w122 ⟨rfl, hb⟩; refine ⟨_, rfl, ?_⟩; have n0_ := Aside0.mk (blk_below (g := gb303) (o := .cells #[.int .i64 a4_0, .int .i64 a4_1] 23 (0, 0)) (by (with_reducible repeat (first | refine blk_drewN ?_ _ | refine blk_drew ?_ | refine blk_alloc ?_ _)); refine blk_far ?_ NB303_325.out _; (with_reducible repeat (first | refine blk_drewN ?_ _ | refine blk_drew ?_ | refine blk_alloc ?_ _)); refine blk_far ?_ NB303_325.out _; (with_reducible repeat (first | refine blk_drewN ?_ _ | refine blk_drew ?_ | refine blk_alloc ?_ _)); exact BK303.out) hb); have n1_ := Aside0.mk (blk_below (g := gb325) (o := .cells #[.int .i64 t334, .int .i64 t335] 23 (0, 0)) (by (with_reducible repeat (first | refine blk_drewN ?_ _ | refine blk_drew ?_ | refine blk_alloc ?_ _)); refine blk_put (cs := #[.int .i64 t334, .int .i64 t323]) ?_ 1 _ rfl; (with_reducible repeat (first | refine blk_drewN ?_ _ | refine blk_drew ?_ | refine blk_alloc ?_ _)); refine blk_put (cs := #[.int .i64 t322, .int .i64 t323]) ?_ 0 _ rfl; (with_reducible repeat (first | refine blk_drewN ?_ _ | refine blk_drew ?_ | refine blk_alloc ?_ _)); exact BK325.out) hb); have n2_ := Aside0.mk (blk_below (g := gb329) (o := .cells #[.int .i64 t326, .int .i64 t327] 23 (0, 0)) (by (with_reducible repeat (first | refine blk_drewN ?_ _ | refine blk_drew ?_ | refine blk_alloc ?_ _)); refine blk_far ?_ NB329_325.out _; (with_reducible repeat (first | refine blk_drewN ?_ _ | refine blk_drew ?_ | refine blk_alloc ?_ _)); refine blk_far ?_ NB329_325.out _; (with_reducible repeat (first | refine blk_drewN ?_ _ | refine blk_drew ?_ | refine blk_alloc ?_ _)); exact BK329.out) hb); have n3_ := Aside0.mk (below_step (by repeat (first | (with_reducible first | exact HB.out | apply below_alloc | apply pw_below_drewN | apply below_drew1 | refine below_set ?_ GE303.out | refine below_set ?_ GE325.out | refine below_set ?_ GE329.out) | exact HB.out)) hb); clear BK303; clear BK325; clear BK329; clear HB; have BK303 := n0_; have BK325 := n1_; have BK329 := n2_; have HB := n3_; clear n0_ n1_ n2_ n3_; (try clear hb); (try clear hb2); (try clear hk); (try clear hi); have hnb123 := NB329_303.out; have hnc123 := NB303_329.out; have hcz124_0 : w122.cell? ⟨gb329, 0, none⟩ = some (.int .i64 t326) := (blk_cell BK329.out 0).trans rfl; have hcz124_1 : w122.cell? ⟨gb329, 1, none⟩ = some (.int .i64 t327) := (blk_cell BK329.out 1).trans rfl; have hfz124_0 := blk_frozen BK329.out 0; have hfz124_1 := blk_frozen BK329.out 1; have hcz125_0 : w122.cell? ⟨gb325, 0, none⟩ = some (.int .i64 t334) := (blk_cell BK325.out 0).trans rfl; have hcz125_1 : w122.cell? ⟨gb325, 1, none⟩ = some (.int .i64 t335) := (blk_cell BK325.out 1).trans rfl; have hfz125_0 := blk_frozen BK325.out 0; have hfz125_1 := blk_frozen BK325.out 1; have hcz126_0 : w122.cell? ⟨gb303, 0, none⟩ = some (.int .i64 a4_0) := (blk_cell BK303.out 0).trans rfl; have hcz126_1 : w122.cell? ⟨gb303, 1, none⟩ = some (.int .i64 a4_1) := (blk_cell BK303.out 1).trans rfl; have hfz126_0 := blk_frozen BK303.out 0; have hfz126_1 := blk_frozen BK303.out 1) | ((with_reducible refine gate_callee (f := 26) rfl ?_); refine goesL_ (some 190) rfl rfl Tryd.func26 (by kernel_rfl) rfl #[.int .i64 a0, .int .i64 a2, .int .i64 a1, .int .i64 a3, .agg #[.int .i64 a4_0, .int .i64 a4_1]] rfl (by (try simp only [List.map_toArray, List.map_cons, List.map_nil]); first | done | rfl | (simp only [List.length_drop, List.length_take]; rfl)) ?_; (with_reducible refine (group_Equal.calls kj62 a0 a2 a1 a3 a4_0 a4_1 t344 t345 _ ?side1 A116.out).mono ?_); (case side1 => exact TabOk.below HT.out (by repeat (first | (with_reducible first | exact HB.out | apply below_alloc | apply pw_below_drewN | apply below_drew1 | refine below_set ?_ GE303.out | refine below_set ?_ GE325.out | refine below_set ?_ GE329.out) | exact HB.out))); rintro e w127 ⟨rfl, hb⟩; refine ⟨_, rfl, ?_⟩; have n0_ := Aside0.mk (blk_below (g := gb303) (o := .cells #[.int .i64 a4_0, .int .i64 a4_1] 23 (0, 0)) (by (with_reducible repeat (first | refine blk_drewN ?_ _ | refine blk_drew ?_ | refine blk_alloc ?_ _)); refine blk_far ?_ NB303_329.out _; (with_reducible repeat (first | refine blk_drewN ?_ _ | refine blk_drew ?_ | refine blk_alloc ?_ _)); refine blk_far ?_ NB303_329.out _; (with_reducible repeat (first | refine blk_drewN ?_ _ | refine blk_drew ?_ | refine blk_alloc ?_ _)); exact BK303.out) hb); have n1_ := Aside0.mk (blk_below (g := gb325) (o := .cells #[.int .i64 t334, .int .i64 t335] 23 (0, 0)) (by (with_reducible repeat (first | refine blk_drewN ?_ _ | refine blk_drew ?_ | refine blk_alloc ?_ _)); refine blk_far ?_ NB325_329.out _; (with_reducible repeat (first | refine blk_drewN ?_ _ | refine blk_drew ?_ | refine blk_alloc ?_ _)); refine blk_far ?_ NB325_329.out _; (with_reducible repeat (first | refine blk_drewN ?_ _ | refine blk_drew ?_ | refine blk_alloc ?_ _)); exact BK325.out) hb); have n2_ := Aside0.mk (blk_below (g := gb329) (o := .cells #[.int .i64 t337, .int .i64 t338] 23 (0, 0)) (by (with_reducible repeat (first | refine blk_drewN ?_ _ | refine blk_drew ?_ | refine blk_alloc ?_ _)); refine blk_put (cs := #[.int .i64 t337, .int .i64 t327]) ?_ 1 _ rfl; (with_reducible repeat (first | refine blk_drewN ?_ _ | refine blk_drew ?_ | refine blk_alloc ?_ _)); refine blk_put (cs := #[.int .i64 t326, .int .i64 t327]) ?_ 0 _ rfl; (with_reducible repeat (first | refine blk_drewN ?_ _ | refine blk_drew ?_ | refine blk_alloc ?_ _)); exact BK329.out) hb); have n3_ := Aside0.mk (below_step (by repeat (first | (with_reducible first | exact HB.out | apply below_alloc | apply pw_below_drewN | apply below_drew1 | refine below_set ?_ GE303.out | refine below_set ?_ GE325.out | refine below_set ?_ GE329.out) | exact HB.out)) hb); clear BK303; clear BK325; clear BK329; clear HB; have BK303 := n0_; have BK325 := n1_; have BK329 := n2_; have HB := n3_; clear n0_ n1_ n2_ n3_; (try clear hb); (try clear hb2); (try clear hk); (try clear hi); have hcz128_0 : w127.cell? ⟨gb303, 0, none⟩ = some (.int .i64 a4_0) := (blk_cell BK303.out 0).trans rfl; have hcz128_1 : w127.cell? ⟨gb303, 1, none⟩ = some (.int .i64 a4_1) := (blk_cell BK303.out 1).trans rfl; have hfz128_0 := blk_frozen BK303.out 0; have hfz128_1 := blk_frozen BK303.out 1) | ((with_reducible refine gate_callee (f := 27) rfl ?_); refine goesL_ (some 199) rfl rfl Tryd.func27 (by kernel_rfl) rfl #[.int .i64 a0, .int .i64 a2, .int .i64 a1, .int .i64 a3, .agg #[.int .i64 a4_0, .int .i64 a4_1]] rfl (by (try simp only [List.map_toArray, List.map_cons, List.map_nil]); first | done | rfl | (simp only [List.length_drop, List.length_take]; rfl)) ?_; (with_reducible refine (cohousingref08_Equal.calls kj62 a0 a2 a1 a3 a4_0 a4_1 t346 t347 _ A117.out).mono ?_); rintro e w129 ⟨rfl, hb⟩; refine ⟨_, rfl, ?_⟩; have n0_ := Aside0.mk (blk_below (g := gb303) (o := .cells #[.int .i64 a4_0, .int .i64 a4_1] 23 (0, 0)) (by (with_reducible repeat (first | refine blk_drewN ?_ _ | refine blk_drew ?_ | refine blk_alloc ?_ _)); exact BK303.out) hb); have n1_ := Aside0.mk (blk_below (g := gb325) (o := .cells #[.int .i64 t334, .int .i64 t335] 23 (0, 0)) (by (with_reducible repeat (first | refine blk_drewN ?_ _ | refine blk_drew ?_ | refine blk_alloc ?_ _)); exact BK325.out) hb); have n2_ := Aside0.mk (blk_below (g := gb329) (o := .cells #[.int .i64 t337, .int .i64 t338] 23 (0, 0)) (by (with_reducible repeat (first | refine blk_drewN ?_ _ | refine blk_drew ?_ | refine blk_alloc ?_ _)); exact BK329.out) hb); have n3_ := Aside0.mk (below_step (by repeat (first | (with_reducible first | exact HB.out | apply below_alloc | apply pw_below_drewN | apply below_drew1 | refine below_set ?_ GE303.out | refine below_set ?_ GE325.out | refine below_set ?_ GE329.out) | exact HB.out)) hb); clear BK303; clear BK325; clear BK329; clear HB; have BK303 := n0_; have BK325 := n1_; have BK329 := n2_; have HB := n3_; clear n0_ n1_ n2_ n3_; (try clear hb); (try clear hb2); (try clear hk); (try clear hi)))
                  go_ret
                  exact ⟨by first | rfl | (simp [errW_none, errW_some] <;> rfl) | (simp [*, errW_none, errW_some] <;> rfl), by repeat (first | (with_reducible first | exact HB.out | apply below_alloc | apply pw_below_drewN | apply below_drew1 | refine below_set ?_ GE303.out | refine below_set ?_ GE325.out | refine below_set ?_ GE329.out) | exact HB.out)⟩
                ·replace c74 := Bool.eq_false_iff.mpr c74
                 subst c74
                 have H1 : ((group_Equal.f kj62 a0 a2 a1 a3 a4_0 a4_1).bind fun bt348 => ((cohousingref08_Equal.f kj62 a0 a2 a1 a3 a4_0 a4_1).bind fun bt350 => (some false))) = some r := by rw [if_neg (show ¬ (false = true) by decide)] at H; exact H
                 clear H
                 have H := H1
                 clear H1
                 replace H := Option.bind_eq_some_iff.mp H
                 obtain ⟨⟨t348, t349⟩, A1300, H⟩ := H
                 replace H : ((cohousingref08_Equal.f kj62 a0 a2 a1 a3 a4_0 a4_1).bind fun bt350 => (some false)) = some r := H
                 have A130 := Aside0.mk A1300
                 clear A1300
                 replace H := Option.bind_eq_some_iff.mp H
                 obtain ⟨⟨t350, t351⟩, A1310, H⟩ := H
                 replace H : (some false) = some r := H
                 have A131 := Aside0.mk A1310
                 clear A1310
                 obtain rfl := Option.some.inj H
                 go_wp2_with (first | ((with_reducible refine gate_callee (f := 24) rfl ?_); refine goesL_ (some 162) rfl rfl Tryd.func24 (by kernel_rfl) rfl #[.int .i64 a0, .int .i64 a1, .int .i64 a2, .int .i64 a3] rfl (by (try simp only [List.map_toArray, List.map_cons, List.map_nil]); first | done | rfl | (simp only [List.length_drop, List.length_take]; rfl)) ?_; (with_reducible refine (group_Same.calls kj62 a0 a1 a2 a3 t334 t335 t336 _ ?side1 A72.out).mono ?_); (case side1 => exact TabOk.below HT.out (by repeat (first | (with_reducible first | exact HB.out | apply below_alloc | apply pw_below_drewN | apply below_drew1 | refine below_set ?_ GE303.out | refine below_set ?_ GE325.out | refine below_set ?_ GE329.out) | exact HB.out))); rintro e w132 ⟨rfl, hb⟩; refine ⟨_, rfl, ?_⟩; have n0_ := Aside0.mk (blk_below (g := gb303) (o := .cells #[.int .i64 a4_0, .int .i64 a4_1] 23 (0, 0)) (by (with_reducible repeat (first | refine blk_drewN ?_ _ | refine blk_drew ?_ | refine blk_alloc ?_ _)); exact BK303.out) hb); have n1_ := Aside0.mk (blk_below (g := gb325) (o := .cells #[.int .i64 t322, .int .i64 t323] 23 (0, 0)) (by (with_reducible repeat (first | refine blk_drewN ?_ _ | refine blk_drew ?_ | refine blk_alloc ?_ _)); exact BK325.out) hb); have n2_ := Aside0.mk (blk_below (g := gb329) (o := .cells #[.int .i64 t326, .int .i64 t327] 23 (0, 0)) (by (with_reducible repeat (first | refine blk_drewN ?_ _ | refine blk_drew ?_ | refine blk_alloc ?_ _)); exact BK329.out) hb); have n3_ := Aside0.mk (below_step (by repeat (first | (with_reducible first | exact HB.out | apply below_alloc | apply pw_below_drewN | apply below_drew1 | refine below_set ?_ GE303.out | refine below_set ?_ GE325.out | refine below_set ?_ GE329.out) | exact HB.out)) hb); clear BK303; clear BK325; clear BK329; clear HB; have BK303 := n0_; have BK325 := n1_; have BK329 := n2_; have HB := n3_; clear n0_ n1_ n2_ n3_; (try clear hb); (try clear hb2); (try clear hk); (try clear hi); have hnb133 := NB325_303.out; have hnc133 := NB303_325.out; have hnb134 := NB325_329.out; have hnc134 := NB329_325.out; have hcz135_0 : w132.cell? ⟨gb325, 0, none⟩ = some (.int .i64 t322) := (blk_cell BK325.out 0).trans rfl; have hcz135_1 : w132.cell? ⟨gb325, 1, none⟩ = some (.int .i64 t323) := (blk_cell BK325.out 1).trans rfl; have hfz135_0 := blk_frozen BK325.out 0; have hfz135_1 := blk_frozen BK325.out 1) | ((with_reducible refine gate_callee (f := 25) rfl ?_); refine goesL_ (some 170) rfl rfl Tryd.func25 (by kernel_rfl) rfl #[.int .i64 a0, .int .i64 a1, .int .i64 a2, .int .i64 a3] rfl (by (try simp only [List.map_toArray, List.map_cons, List.map_nil]); first | done | rfl | (simp only [List.length_drop, List.length_take]; rfl)) ?_; (with_reducible refine (cohousingref08_Same.calls kj62 a0 a1 a2 a3 t337 t338 t339 _ A73.out).mono ?_); rintro e w136 ⟨rfl, hb⟩; refine ⟨_, rfl, ?_⟩; have n0_ := Aside0.mk (blk_below (g := gb303) (o := .cells #[.int .i64 a4_0, .int .i64 a4_1] 23 (0, 0)) (by (with_reducible repeat (first | refine blk_drewN ?_ _ | refine blk_drew ?_ | refine blk_alloc ?_ _)); refine blk_far ?_ NB303_325.out _; (with_reducible repeat (first | refine blk_drewN ?_ _ | refine blk_drew ?_ | refine blk_alloc ?_ _)); refine blk_far ?_ NB303_325.out _; (with_reducible repeat (first | refine blk_drewN ?_ _ | refine blk_drew ?_ | refine blk_alloc ?_ _)); exact BK303.out) hb); have n1_ := Aside0.mk (blk_below (g := gb325) (o := .cells #[.int .i64 t334, .int .i64 t335] 23 (0, 0)) (by (with_reducible repeat (first | refine blk_drewN ?_ _ | refine blk_drew ?_ | refine blk_alloc ?_ _)); refine blk_put (cs := #[.int .i64 t334, .int .i64 t323]) ?_ 1 _ rfl; (with_reducible repeat (first | refine blk_drewN ?_ _ | refine blk_drew ?_ | refine blk_alloc ?_ _)); refine blk_put (cs := #[.int .i64 t322, .int .i64 t323]) ?_ 0 _ rfl; (with_reducible repeat (first | refine blk_drewN ?_ _ | refine blk_drew ?_ | refine blk_alloc ?_ _)); exact BK325.out) hb); have n2_ := Aside0.mk (blk_below (g := gb329) (o := .cells #[.int .i64 t326, .int .i64 t327] 23 (0, 0)) (by (with_reducible repeat (first | refine blk_drewN ?_ _ | refine blk_drew ?_ | refine blk_alloc ?_ _)); refine blk_far ?_ NB329_325.out _; (with_reducible repeat (first | refine blk_drewN ?_ _ | refine blk_drew ?_ | refine blk_alloc ?_ _)); refine blk_far ?_ NB329_325.out _; (with_reducible repeat (first | refine blk_drewN ?_ _ | refine blk_drew ?_ | refine blk_alloc ?_ _)); exact BK329.out) hb); have n3_ := Aside0.mk (below_step (by repeat (first | (with_reducible first | exact HB.out | apply below_alloc | apply pw_below_drewN | apply below_drew1 | refine below_set ?_ GE303.out | refine below_set ?_ GE325.out | refine below_set ?_ GE329.out) | exact HB.out)) hb); clear BK303; clear BK325; clear BK329; clear HB; have BK303 := n0_; have BK325 := n1_; have BK329 := n2_; have HB := n3_; clear n0_ n1_ n2_ n3_; (try clear hb); (try clear hb2); (try clear hk); (try clear hi); have hnb137 := NB329_303.out; have hnc137 := NB303_329.out; have hcz138_0 : w136.cell? ⟨gb329, 0, none⟩ = some (.int .i64 t326) := (blk_cell BK329.out 0).trans rfl; have hcz138_1 : w136.cell? ⟨gb329, 1, none⟩ = some (.int .i64 t327) := (blk_cell BK329.out 1).trans rfl; have hfz138_0 := blk_frozen BK329.out 0; have hfz138_1 := blk_frozen BK329.out 1; have hcz139_0 : w136.cell? ⟨gb303, 0, none⟩ = some (.int .i64 a4_0) := (blk_cell BK303.out 0).trans rfl; have hcz139_1 : w136.cell? ⟨gb303, 1, none⟩ = some (.int .i64 a4_1) := (blk_cell BK303.out 1).trans rfl; have hfz139_0 := blk_frozen BK303.out 0; have hfz139_1 := blk_frozen BK303.out 1) | ((with_reducible refine gate_callee (f := 26) rfl ?_); refine goesL_ (some 190) rfl rfl Tryd.func26 (by kernel_rfl) rfl #[.int .i64 a0, .int .i64 a2, .int .i64 a1, .int .i64 a3, .agg #[.int .i64 a4_0, .int .i64 a4_1]] rfl (by (try simp only [List.map_toArray, List.map_cons, List.map_nil]); first | done | rfl | (simp only [List.length_drop, List.length_take]; rfl)) ?_; (with_reducible refine (group_Equal.calls kj62 a0 a2 a1 a3 a4_0 a4_1 t348 t349 _ ?side1 A130.out).mono ?_); (case side1 => exact TabOk.below HT.out (by repeat (first | (with_reducible first | exact HB.out | apply below_alloc | apply pw_below_drewN | apply below_drew1 | refine below_set ?_ GE303.out | refine below_set ?_ GE325.out | refine below_set ?_ GE329.out) | exact HB.out))); rintro e w140 ⟨rfl, hb⟩; refine ⟨_, rfl, ?_⟩; have n0_ := Aside0.mk (blk_below (g := gb303) (o := .cells #[.int .i64 a4_0, .int .i64 a4_1] 23 (0, 0)) (by (with_reducible repeat (first | refine blk_drewN ?_ _ | refine blk_drew ?_ | refine blk_alloc ?_ _)); refine blk_far ?_ NB303_329.out _; (with_reducible repeat (first | refine blk_drewN ?_ _ | refine blk_drew ?_ | refine blk_alloc ?_ _)); refine blk_far ?_ NB303_329.out _; (with_reducible repeat (first | refine blk_drewN ?_ _ | refine blk_drew ?_ | refine blk_alloc ?_ _)); exact BK303.out) hb); have n1_ := Aside0.mk (blk_below (g := gb325) (o := .cells #[.int .i64 t334, .int .i64 t335] 23 (0, 0)) (by (with_reducible repeat (first | refine blk_drewN ?_ _ | refine blk_drew ?_ | refine blk_alloc ?_ _)); refine blk_far ?_ NB325_329.out _; (with_reducible repeat (first | refine blk_drewN ?_ _ | refine blk_drew ?_ | refine blk_alloc ?_ _)); refine blk_far ?_ NB325_329.out _; (with_reducible repeat (first | refine blk_drewN ?_ _ | refine blk_drew ?_ | refine blk_alloc ?_ _)); exact BK325.out) hb); have n2_ := Aside0.mk (blk_below (g := gb329) (o := .cells #[.int .i64 t337, .int .i64 t338] 23 (0, 0)) (by (with_reducible repeat (first | refine blk_drewN ?_ _ | refine blk_drew ?_ | refine blk_alloc ?_ _)); refine blk_put (cs := #[.int .i64 t337, .int .i64 t327]) ?_ 1 _ rfl; (with_reducible repeat (first | refine blk_drewN ?_ _ | refine blk_drew ?_ | refine blk_alloc ?_ _)); refine blk_put (cs := #[.int .i64 t326, .int .i64 t327]) ?_ 0 _ rfl; (with_reducible repeat (first | refine blk_drewN ?_ _ | refine blk_drew ?_ | refine blk_alloc ?_ _)); exact BK329.out) hb); have n3_ := Aside0.mk (below_step (by repeat (first | (with_reducible first | exact HB.out | apply below_alloc | apply pw_below_drewN | apply below_drew1 | refine below_set ?_ GE303.out | refine below_set ?_ GE325.out | refine below_set ?_ GE329.out) | exact HB.out)) hb); clear BK303; clear BK325; clear BK329; clear HB; have BK303 := n0_; have BK325 := n1_; have BK329 := n2_; have HB := n3_; clear n0_ n1_ n2_ n3_; (try clear hb); (try clear hb2); (try clear hk); (try clear hi); have hcz141_0 : w140.cell? ⟨gb303, 0, none⟩ = some (.int .i64 a4_0) := (blk_cell BK303.out 0).trans rfl; have hcz141_1 : w140.cell? ⟨gb303, 1, none⟩ = some (.int .i64 a4_1) := (blk_cell BK303.out 1).trans rfl; have hfz141_0 := blk_frozen BK303.out 0; have hfz141_1 := blk_frozen BK303.out 1) | ((with_reducible refine gate_callee (f := 27) rfl ?_); refine goesL_ (some 199) rfl rfl Tryd.func27 (by kernel_rfl) rfl #[.int .i64 a0, .int .i64 a2, .int .i64 a1, .int .i64 a3, .agg #[.int .i64 a4_0, .int .i64 a4_1]] rfl (by (try simp only [List.map_toArray, List.map_cons, List.map_nil]); first | done | rfl | (simp only [List.length_drop, List.length_take]; rfl)) ?_; (with_reducible refine (cohousingref08_Equal.calls kj62 a0 a2 a1 a3 a4_0 a4_1 t350 t351 _ A131.out).mono ?_); rintro e w142 ⟨rfl, hb⟩; refine ⟨_, rfl, ?_⟩; have n0_ := Aside0.mk (blk_below (g := gb303) (o := .cells #[.int .i64 a4_0, .int .i64 a4_1] 23 (0, 0)) (by (with_reducible repeat (first | refine blk_drewN ?_ _ | refine blk_drew ?_ | refine blk_alloc ?_ _)); exact BK303.out) hb); have n1_ := Aside0.mk (blk_below (g := gb325) (o := .cells #[.int .i64 t334, .int .i64 t335] 23 (0, 0)) (by (with_reducible repeat (first | refine blk_drewN ?_ _ | refine blk_drew ?_ | refine blk_alloc ?_ _)); exact BK325.out) hb); have n2_ := Aside0.mk (blk_below (g := gb329) (o := .cells #[.int .i64 t337, .int .i64 t338] 23 (0, 0)) (by (with_reducible repeat (first | refine blk_drewN ?_ _ | refine blk_drew ?_ | refine blk_alloc ?_ _)); exact BK329.out) hb); have n3_ := Aside0.mk (below_step (by repeat (first | (with_reducible first | exact HB.out | apply below_alloc | apply pw_below_drewN | apply below_drew1 | refine below_set ?_ GE303.out | refine below_set ?_ GE325.out | refine below_set ?_ GE329.out) | exact HB.out)) hb); clear BK303; clear BK325; clear BK329; clear HB; have BK303 := n0_; have BK325 := n1_; have BK329 := n2_; have HB := n3_; clear n0_ n1_ n2_ n3_; (try clear hb); (try clear hb2); (try clear hk); (try clear hi)))
                 go_ret
                 exact ⟨by first | rfl | (simp [errW_none, errW_some] <;> rfl) | (simp [*, errW_none, errW_some] <;> rfl), by repeat (first | (with_reducible first | exact HB.out | apply below_alloc | apply pw_below_drewN | apply below_drew1 | refine below_set ?_ GE303.out | refine below_set ?_ GE325.out | refine below_set ?_ GE329.out) | exact HB.out)⟩

end Go.Proofs.YtimcknjodeikmaaDoor.P
