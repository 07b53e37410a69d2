-- Written by a program of this session out of the translation (wip/pp: the kit's print, turned). Not trusted: Lean checks it.
import Derived.Test.YtdhnojfpgpjabaaDoorPx0
import Derived.Test.YtdhnojfpgpjabaaDoorPx7
import Derived.Test.YtdhnojfpgpjabaaDoorPx9
namespace Go.Proofs.YtdhnojfpgpjabaaDoor.P
open Go.RowKit Go.Proofs.YtdhnojfpgpjabaaDoorW.PrintWords Go.Proofs.YtdhnojfpgpjabaaDoorW.PrintLast Go.Proofs.YtdhnojfpgpjabaaDoorW.PrintMore
attribute [local go_sem] max2_int min2_int max_two min_two max_three min_three max_four min_four   -- for this text's walks alone
set_option linter.unusedVariables false
set_option linter.unusedSimpArgs false

/-! ### cohousingref02_Scale: function 41 -/
mutual
def cohousingref02_Scale.j0 : Nat → Int → Bool → Int → Int → Option (Int × Int)
 | 0, _, _, _, _ => none
 | k + 1, x0, x21, x150000, x150001 => if x21 = true then (some (0, 1)) else (if x150001 = 0 then (none) else (if (Int.tmod (wrap64 (x0 * x150000)) x150001) < 0 then (cohousingref02_Scale.j1 k (wrap64 (Int.tdiv (wrap64 (x0 * x150000)) x150001)) (Int.tmod (wrap64 (x0 * x150000)) x150001) (decide ((wrap64 ((-2) * (Int.tmod (wrap64 (x0 * x150000)) x150001))) ≥ x150001)) x150000 x150001) else (cohousingref02_Scale.j1 k (wrap64 (Int.tdiv (wrap64 (x0 * x150000)) x150001)) (Int.tmod (wrap64 (x0 * x150000)) x150001) false x150000 x150001)))
def cohousingref02_Scale.j1 : Nat → Int → Int → Bool → Int → Int → Option (Int × Int)
 | 0, _, _, _, _, _ => none
 | k + 1, x9, x10, x42, x150000, x150001 => if x42 = true then (cohousingref02_Scale.j2 k (wrap64 (x9 - 1)) x10 x150000 x150001) else (cohousingref02_Scale.j2 k x9 x10 x150000 x150001)
def cohousingref02_Scale.j2 : Nat → Int → Int → Int → Int → Option (Int × Int)
 | 0, _, _, _, _ => none
 | k + 1, x9, x10, x150000, x150001 => if x10 > 0 then (cohousingref02_Scale.j3 k x9 (decide ((wrap64 (2 * x10)) ≥ x150001))) else (cohousingref02_Scale.j3 k x9 false)
def cohousingref02_Scale.j3 : Nat → Int → Bool → Option (Int × Int)
 | 0, _, _ => none
 | k + 1, x9, x53 => if x53 = true then ((cohousingref02_Amount.f (wrap64 (x9 + 1))).bind fun t152 => (if t152 = true then (some (wrap64 (x9 + 1), 0)) else (some (0, 3)))) else ((cohousingref02_Amount.f x9).bind fun t153 => (if t153 = true then (some (x9, 0)) else (some (0, 3))))
end
def cohousingref02_Scale.f (k : Nat) (a0 : Int) (a1_0 : Int) (a1_1 : Int) : Option (Int × Int) := (cohousingref02_Amount.f a0).bind fun t150 => ((cohousingref01_Valid.f k a1_0 a1_1).bind fun t151 => (if t150 = true then (cohousingref02_Scale.j0 k a0 (!t151) a1_0 a1_1) else (cohousingref02_Scale.j0 k a0 true a1_0 a1_1)))
theorem cohousingref02_Scale.mono_l : ∀ k, (∀ y0 y1 y2 y3, LeO (cohousingref02_Scale.j0 k y0 y1 y2 y3) (cohousingref02_Scale.j0 (k + 1) y0 y1 y2 y3)) ∧ (∀ y0 y1 y2 y3 y4, LeO (cohousingref02_Scale.j1 k y0 y1 y2 y3 y4) (cohousingref02_Scale.j1 (k + 1) y0 y1 y2 y3 y4)) ∧ (∀ y0 y1 y2 y3, LeO (cohousingref02_Scale.j2 k y0 y1 y2 y3) (cohousingref02_Scale.j2 (k + 1) y0 y1 y2 y3)) ∧ (∀ y0 y1, LeO (cohousingref02_Scale.j3 k y0 y1) (cohousingref02_Scale.j3 (k + 1) y0 y1))
 | 0 => ⟨fun _ _ _ _ r h => by simp [cohousingref02_Scale.j0] at h, fun _ _ _ _ _ r h => by simp [cohousingref02_Scale.j1] at h, fun _ _ _ _ r h => by simp [cohousingref02_Scale.j2] at h, fun _ _ r h => by simp [cohousingref02_Scale.j3] at h⟩
 | k + 1 => by
  obtain ⟨ih0, ih1, ih2, ih3⟩ := cohousingref02_Scale.mono_l k
  refine ⟨?_, ?_, ?_, ?_⟩
  ·intro y0 y1 y2 y3
   unfold cohousingref02_Scale.j0
   repeat' first
   | (with_reducible exact ih0 _ _ _ _)
   | (with_reducible exact ih1 _ _ _ _ _)
   | (with_reducible exact ih2 _ _ _ _)
   | (with_reducible exact ih3 _ _)
   | (with_reducible exact cohousingref01_Valid.mono _ _ _)
   | (with_reducible exact LeO.refl _)
   | (with_reducible exact LeO.none _)
   | (with_reducible refine LeO.ite ?_ ?_)
   | (with_reducible refine LeO.bind ?_ (fun _ => ?_))
   | exact ih0 _ _ _ _
   | exact ih1 _ _ _ _ _
   | exact ih2 _ _ _ _
   | exact ih3 _ _
   | exact cohousingref01_Valid.mono _ _ _
   | exact LeO.none _
   | refine LeO.ite ?_ ?_
   | refine LeO.bind ?_ (fun _ => ?_)
  ·intro y0 y1 y2 y3 y4
   unfold cohousingref02_Scale.j1
   repeat' first
   | (with_reducible exact ih0 _ _ _ _)
   | (with_reducible exact ih1 _ _ _ _ _)
   | (with_reducible exact ih2 _ _ _ _)
   | (with_reducible exact ih3 _ _)
   | (with_reducible exact cohousingref01_Valid.mono _ _ _)
   | (with_reducible exact LeO.refl _)
   | (with_reducible exact LeO.none _)
   | (with_reducible refine LeO.ite ?_ ?_)
   | (with_reducible refine LeO.bind ?_ (fun _ => ?_))
   | exact ih0 _ _ _ _
   | exact ih1 _ _ _ _ _
   | exact ih2 _ _ _ _
   | exact ih3 _ _
   | exact cohousingref01_Valid.mono _ _ _
   | exact LeO.none _
   | refine LeO.ite ?_ ?_
   | refine LeO.bind ?_ (fun _ => ?_)
  ·intro y0 y1 y2 y3
   unfold cohousingref02_Scale.j2
   repeat' first
   | (with_reducible exact ih0 _ _ _ _)
   | (with_reducible exact ih1 _ _ _ _ _)
   | (with_reducible exact ih2 _ _ _ _)
   | (with_reducible exact ih3 _ _)
   | (with_reducible exact cohousingref01_Valid.mono _ _ _)
   | (with_reducible exact LeO.refl _)
   | (with_reducible exact LeO.none _)
   | (with_reducible refine LeO.ite ?_ ?_)
   | (with_reducible refine LeO.bind ?_ (fun _ => ?_))
   | exact ih0 _ _ _ _
   | exact ih1 _ _ _ _ _
   | exact ih2 _ _ _ _
   | exact ih3 _ _
   | exact cohousingref01_Valid.mono _ _ _
   | exact LeO.none _
   | refine LeO.ite ?_ ?_
   | refine LeO.bind ?_ (fun _ => ?_)
  ·intro y0 y1
   unfold cohousingref02_Scale.j3
   repeat' first
   | (with_reducible exact ih0 _ _ _ _)
   | (with_reducible exact ih1 _ _ _ _ _)
   | (with_reducible exact ih2 _ _ _ _)
   | (with_reducible exact ih3 _ _)
   | (with_reducible exact cohousingref01_Valid.mono _ _ _)
   | (with_reducible exact LeO.refl _)
   | (with_reducible exact LeO.none _)
   | (with_reducible refine LeO.ite ?_ ?_)
   | (with_reducible refine LeO.bind ?_ (fun _ => ?_))
   | exact ih0 _ _ _ _
   | exact ih1 _ _ _ _ _
   | exact ih2 _ _ _ _
   | exact ih3 _ _
   | exact cohousingref01_Valid.mono _ _ _
   | exact LeO.none _
   | refine LeO.ite ?_ ?_
   | refine LeO.bind ?_ (fun _ => ?_)
theorem cohousingref02_Scale.mono : ∀ a0 a1 a2 k, LeO (cohousingref02_Scale.f k a0 a1 a2) (cohousingref02_Scale.f (k + 1) a0 a1 a2) := by
 intro a0 a1 a2 k
 obtain ⟨ih0, ih1, ih2, ih3⟩ := cohousingref02_Scale.mono_l k
 unfold cohousingref02_Scale.f
 repeat' first
   | (with_reducible exact ih0 _ _ _ _)
   | (with_reducible exact ih1 _ _ _ _ _)
   | (with_reducible exact ih2 _ _ _ _)
   | (with_reducible exact ih3 _ _)
   | (with_reducible exact cohousingref01_Valid.mono _ _ _)
   | (with_reducible exact LeO.refl _)
   | (with_reducible exact LeO.none _)
   | (with_reducible refine LeO.ite ?_ ?_)
   | (with_reducible refine LeO.bind ?_ (fun _ => ?_))
   | exact ih0 _ _ _ _
   | exact ih1 _ _ _ _ _
   | exact ih2 _ _ _ _
   | exact ih3 _ _
   | exact cohousingref01_Valid.mono _ _ _
   | exact LeO.none _
   | refine LeO.ite ?_ ?_
   | refine LeO.bind ?_ (fun _ => ?_)
set_option maxHeartbeats 8000000 in
set_option maxRecDepth 100000 in
theorem cohousingref02_Scale.calls (k : Nat) (a0 : Int) (a1_0 : Int) (a1_1 : Int) (r1 : Int) (r2 : Int) (w : World) (h : cohousingref02_Scale.f k a0 a1_0 a1_1 = some (r1, r2)) :
  Calls Tryd.prog 41 #[.int .i64 a0, .agg #[.int .i64 a1_0, .int .i64 a1_1]] w fun e w' => e = .returned (.tuple #[.int .i64 r1, .int .i64 r2]) ∧ Below w.heap.size w w' := by
 have hu50 := Tryd.underlying50
 have HB := Aside0.mk (Below.refl w.heap.size w)
 have H : ((cohousingref02_Amount.f a0).bind fun t150 => ((cohousingref01_Valid.f k a1_0 a1_1).bind fun t151 => (if t150 = true then (cohousingref02_Scale.j0 k a0 (!t151) a1_0 a1_1) else (cohousingref02_Scale.j0 k a0 true a1_0 a1_1)))) = some (r1, r2) := h
 clear h
 replace H := Option.bind_eq_some_iff.mp H
 obtain ⟨t150, A30, H⟩ := H
 replace H : ((cohousingref01_Valid.f k a1_0 a1_1).bind fun t151 => (if t150 = true then (cohousingref02_Scale.j0 k a0 (!t151) a1_0 a1_1) else (cohousingref02_Scale.j0 k a0 true a1_0 a1_1))) = some (r1, r2) := H
 have A3 := Aside0.mk A30
 clear A30
 replace H := Option.bind_eq_some_iff.mp H
 obtain ⟨t151, A40, H⟩ := H
 replace H : (if t150 = true then (cohousingref02_Scale.j0 k a0 (!t151) a1_0 a1_1) else (cohousingref02_Scale.j0 k a0 true a1_0 a1_1)) = some (r1, r2) := H
 have A4 := Aside0.mk A40
 clear A40
 have HC5 := Aside0.mk H
 clear H
 go_enter Tryd.func41, Tryd.ntmps41
 go_upto_region 3 with (first | ((with_reducible refine gate_dst (N := 3) rfl ?_); refine box_event ?hg (N := 3) ?hd (cs := #[.int .i64 a1_0, .int .i64 a1_1]) (t := 50) ?hr ?_; (case hd => rfl); (case hg => rfl); (case hr => first | (go_simp; done) | (go_simp; rfl)); intro gb149 hg w6 hbox hb; have n0_ := Aside0.mk (below_step (by repeat (first | (with_reducible first | exact HB.out | apply below_alloc | apply pw_below_drewN | apply below_drew1) | exact HB.out)) hb); have n1_ := Aside0.mk (hbox); have n2_ := Aside0.mk ((by rw [hg]; exact (below_size (by repeat (first | (with_reducible first | exact HB.out | apply below_alloc | apply pw_below_drewN | apply below_drew1) | exact HB.out))) : w.heap.size ≤ gb149)); have n3_ := Aside0.mk ((by rw [hg]; exact (below_size (by repeat (first | (with_reducible first | exact HB.out | apply below_alloc | apply pw_below_drewN | apply below_drew1) | exact HB.out))) : w.heap.size ≤ gb149)); clear HB; have HB := n0_; have BK149 := n1_; have GW149 := n2_; have GE149 := n3_; clear n0_ n1_ n2_ n3_; clear hb hbox hg) | ((with_reducible refine gate_callee (f := 31) rfl ?_); refine goesL_ (some 13) rfl rfl Tryd.func31 (by kernel_rfl) rfl #[.int .i64 a0] rfl (by (try simp only [List.map_toArray, List.map_cons, List.map_nil]); first | done | rfl | (simp only [List.length_drop, List.length_take]; rfl)) ?_; (with_reducible refine (cohousingref02_Amount.calls a0 t150 _ A3.out).mono ?_); rintro e w' ⟨rfl, ⟨nd, rfl⟩⟩; refine ⟨_, rfl, ?_⟩; have hcz7_0 : w6.cell? ⟨gb149, 0, none⟩ = some (.int .i64 a1_0) := (blk_cell BK149.out 0).trans rfl; have hcz7_1 : w6.cell? ⟨gb149, 1, none⟩ = some (.int .i64 a1_1) := (blk_cell BK149.out 1).trans rfl; have hfz7_0 := blk_frozen BK149.out 0; have hfz7_1 := blk_frozen BK149.out 1) | ((with_reducible refine gate_callee (f := 44) rfl ?_); refine goesL_ (some 15) rfl rfl Tryd.func44 (by kernel_rfl) rfl #[.agg #[.int .i64 a1_0, .int .i64 a1_1]] rfl (by (try simp only [List.map_toArray, List.map_cons, List.map_nil]); first | done | rfl | (simp only [List.length_drop, List.length_take]; rfl)) ?_; (with_reducible refine (cohousingref01_Valid.calls k a1_0 a1_1 t151 _ A4.out).mono ?_); rintro e w8 ⟨rfl, hb⟩; refine ⟨_, rfl, ?_⟩; have n0_ := Aside0.mk (blk_below (g := gb149) (o := .cells #[.int .i64 a1_0, .int .i64 a1_1] 50 (0, 0)) (by (with_reducible repeat (first | refine blk_drewN ?_ _ | refine blk_drew ?_ | refine blk_alloc ?_ _)); exact BK149.out) hb); have n1_ := Aside0.mk (below_step (by repeat (first | (with_reducible first | exact HB.out | apply below_alloc | apply pw_below_drewN | apply below_drew1 | refine below_set ?_ GE149.out) | exact HB.out)) hb); clear BK149; clear HB; have BK149 := n0_; have HB := n1_; clear n0_ n1_; (try clear hb); (try clear hb2); (try clear hk); (try clear hi)))
 (try simp only [Act.put, List.setIfInBounds_toArray, List.set_cons_zero, List.set_cons_succ])
 go_cut [21] (fun v21 wc => ∃ (kq : Nat) (x21_4 : Bool), v21 = .bool x21_4 ∧ Aside0 (cohousingref02_Scale.j0 kq a0 x21_4 a1_0 a1_1 = some (r1, r2)) ∧ Aside0 (kq ≤ k) ∧ Aside0 (wc.heap[gb149]? = some (.cells #[.int .i64 a1_0, .int .i64 a1_1] 50 (0, 0))) ∧ Aside0 (Below w.heap.size w wc))
 case first =>
  have H := HC5.out
  clear HC5
  by_cases c9 : t150 = true
  ·subst c9
   have H1 : (cohousingref02_Scale.j0 k a0 (!t151) a1_0 a1_1) = some (r1, r2) := by rw [if_pos rfl] at H; exact H
   clear H
   have H := H1
   clear H1
   have H' := Aside0.mk H
   clear H
   go_wp2
   go_meet
   case rel => exact ⟨_, (!t151), (by first | rfl | (simp; done) | (simp [*]; done)), H', ⟨by first | omega | exact Nat.le_refl _⟩, ⟨by (with_reducible repeat (first | refine blk_drewN ?_ _ | refine blk_drew ?_ | refine blk_alloc ?_ _)); exact BK149.out⟩, ⟨by repeat (first | (with_reducible first | exact HB.out | apply below_alloc | apply pw_below_drewN | apply below_drew1 | refine below_set ?_ GE149.out) | exact HB.out)⟩⟩
  ·replace c9 := Bool.eq_false_iff.mpr c9
   subst c9
   have H1 : (cohousingref02_Scale.j0 k a0 true a1_0 a1_1) = some (r1, r2) := by rw [if_neg (show ¬ (false = true) by decide)] at H; exact H
   clear H
   have H := H1
   clear H1
   have H' := Aside0.mk H
   clear H
   go_wp2
   go_meet
   case rel => exact ⟨_, (true), (by first | rfl | (simp; done) | (simp [*]; done)), H', ⟨by first | omega | exact Nat.le_refl _⟩, ⟨by (with_reducible repeat (first | refine blk_drewN ?_ _ | refine blk_drew ?_ | refine blk_alloc ?_ _)); exact BK149.out⟩, ⟨by repeat (first | (with_reducible first | exact HB.out | apply below_alloc | apply pw_below_drewN | apply below_drew1 | refine below_set ?_ GE149.out) | exact HB.out)⟩⟩
 case rest =>
  clear HC5
  try clear p2
  try clear c3
  try clear c4
  try clear c9
  try clear hcz7_0
  try clear hcz7_1
  try clear hfz7_0
  try clear hfz7_1
  obtain ⟨kq, x21_4, rfl, HA, HJ4, BK149, HB⟩ := hcut
  cases kq with
  | zero => exact absurd HA.out (by simp [cohousingref02_Scale.j0])
  | succ kj4 =>
   have H := HA.out
   clear HA
   simp only [cohousingref02_Scale.j0] at H
   by_cases c10 : x21_4 = true
   ·subst c10
    have H1 : (some (0, 1)) = some (r1, r2) := by rw [if_pos rfl] at H; exact H
    clear H
    have H := H1
    clear H1
    simp only [Option.some.injEq, Prod.mk.injEq] at H
    obtain ⟨rfl, rfl⟩ := H
    go_wp2
    go_ret2
    exact ⟨by first | rfl | (simp [errW_none, errW_some] <;> rfl) | (simp [*, errW_none, errW_some] <;> rfl), by repeat (first | (with_reducible first | exact HB.out | apply below_alloc | apply pw_below_drewN | apply below_drew1 | refine below_set ?_ GE149.out) | exact HB.out)⟩
   ·replace c10 := Bool.eq_false_iff.mpr c10
    subst c10
    have H1 : (if a1_1 = 0 then (none) else (if (Int.tmod (wrap64 (a0 * a1_0)) a1_1) < 0 then (cohousingref02_Scale.j1 kj4 (wrap64 (Int.tdiv (wrap64 (a0 * a1_0)) a1_1)) (Int.tmod (wrap64 (a0 * a1_0)) a1_1) (decide ((wrap64 ((-2) * (Int.tmod (wrap64 (a0 * a1_0)) a1_1))) ≥ a1_1)) a1_0 a1_1) else (cohousingref02_Scale.j1 kj4 (wrap64 (Int.tdiv (wrap64 (a0 * a1_0)) a1_1)) (Int.tmod (wrap64 (a0 * a1_0)) a1_1) false a1_0 a1_1))) = some (r1, r2) := by rw [if_neg (show ¬ (false = true) by decide)] at H; exact H
    clear H
    have H := H1
    clear H1
    by_cases c11 : a1_1 = 0
    ·rw [if_pos c11] at H
     exact absurd H (by simp)
    ·rw [if_neg c11] at H
     have c11b0 : (a1_1 == 0) = false := beq_eq_false_iff_ne.mpr c11
     have c11b1 : (a1_1 != 0) = true := bne_iff_ne.mpr c11
     have HC12 := Aside0.mk H
     clear H
     have hcz13_0 : wc.cell? ⟨gb149, 0, none⟩ = some (.int .i64 a1_0) := (blk_cell BK149.out 0).trans rfl
     have hcz13_1 : wc.cell? ⟨gb149, 1, none⟩ = some (.int .i64 a1_1) := (blk_cell BK149.out 1).trans rfl
     have hfz13_0 := blk_frozen BK149.out 0
     have hfz13_1 := blk_frozen BK149.out 1
     go_upto_region 8 with (fail)
     go_cut [42] (fun v42 wc => ∃ (kq : Nat) (x42_11 : Bool), v42 = .bool x42_11 ∧ Aside0 (cohousingref02_Scale.j1 kq (wrap64 (Int.tdiv (wrap64 (a0 * a1_0)) a1_1)) (Int.tmod (wrap64 (a0 * a1_0)) a1_1) x42_11 a1_0 a1_1 = some (r1, r2)) ∧ Aside0 (kq ≤ kj4) ∧ Aside0 (wc.heap[gb149]? = some (.cells #[.int .i64 a1_0, .int .i64 a1_1] 50 (0, 0))) ∧ Aside0 (Below w.heap.size w wc))
     case first =>
      have H := HC12.out
      clear HC12
      by_cases c14 : (Int.tmod (wrap64 (a0 * a1_0)) a1_1) < 0
      ·rw [if_pos c14] at H
       have c14b0 : decide ((Int.tmod (wrap64 (a0 * a1_0)) a1_1) < 0) = true := decide_eq_true c14
       clear c14
       (first | rw [c14b0] | (simp only [i64_w, i32_w]; rw [c14b0]) | skip)
       have H' := Aside0.mk H
       clear H
       have hcz15_0 : wc.cell? ⟨gb149, 0, none⟩ = some (.int .i64 a1_0) := (blk_cell BK149.out 0).trans rfl
       have hcz15_1 : wc.cell? ⟨gb149, 1, none⟩ = some (.int .i64 a1_1) := (blk_cell BK149.out 1).trans rfl
       have hfz15_0 := blk_frozen BK149.out 0
       have hfz15_1 := blk_frozen BK149.out 1
       go_wp2
       go_meet
       case rel => exact ⟨_, (decide ((wrap64 ((-2) * (Int.tmod (wrap64 (a0 * a1_0)) a1_1))) ≥ a1_1)), (by first | rfl | (simp; done) | (simp [*]; done)), H', ⟨by have := HJ4.out; first | omega | exact Nat.le_refl _⟩, ⟨by (with_reducible repeat (first | refine blk_drewN ?_ _ | refine blk_drew ?_ | refine blk_alloc ?_ _)); exact BK149.out⟩, ⟨by repeat (first | (with_reducible first | exact HB.out | apply below_alloc | apply pw_below_drewN | apply below_drew1 | refine below_set ?_ GE149.out) | exact HB.out)⟩⟩
      ·rw [if_neg c14] at H
       have c14b0 : decide ((Int.tmod (wrap64 (a0 * a1_0)) a1_1) < 0) = false := decide_eq_false c14
       clear c14
       (first | rw [c14b0] | (simp only [i64_w, i32_w]; rw [c14b0]) | skip)
       have H' := Aside0.mk H
       clear H
       go_wp2
       go_meet
       case rel => exact ⟨_, (false), (by first | rfl | (simp; done) | (simp [*]; done)), H', ⟨by have := HJ4.out; first | omega | exact Nat.le_refl _⟩, ⟨by (with_reducible repeat (first | refine blk_drewN ?_ _ | refine blk_drew ?_ | refine blk_alloc ?_ _)); exact BK149.out⟩, ⟨by repeat (first | (with_reducible first | exact HB.out | apply below_alloc | apply pw_below_drewN | apply below_drew1 | refine below_set ?_ GE149.out) | exact HB.out)⟩⟩
     case rest =>
      clear HC12
      try clear c1
      try clear p2
      try clear c3
      try clear c4
      try clear p6
      try clear c9
      try clear c10
      try clear c11
      try clear c11b0
      try clear c11b1
      try clear c14
      try clear c14b0
      try clear hcz13_0
      try clear hcz13_1
      try clear hcz15_0
      try clear hcz15_1
      try clear hcz7_0
      try clear hcz7_1
      try clear hfz13_0
      try clear hfz13_1
      try clear hfz15_0
      try clear hfz15_1
      try clear hfz7_0
      try clear hfz7_1
      try clear p2
      obtain ⟨kq, x42_11, rfl, HA, HJ11, BK149, HB⟩ := hcut
      cases kq with
      | zero => exact absurd HA.out (by simp [cohousingref02_Scale.j1])
      | succ kj11 =>
       have H := HA.out
       clear HA
       simp only [cohousingref02_Scale.j1] at H
       have HC16 := Aside0.mk H
       clear H
       go_upto_if 42 with (fail)
       go_cut [9] (fun v9 wc => ∃ (kq : Nat) (x9_15 : Int), v9 = .int .i64 x9_15 ∧ Aside0 (cohousingref02_Scale.j2 kq x9_15 (Int.tmod (wrap64 (a0 * a1_0)) a1_1) a1_0 a1_1 = some (r1, r2)) ∧ Aside0 (kq ≤ kj11) ∧ Aside0 (wc.heap[gb149]? = some (.cells #[.int .i64 a1_0, .int .i64 a1_1] 50 (0, 0))) ∧ Aside0 (Below w.heap.size w wc))
       case first =>
        have H := HC16.out
        clear HC16
        by_cases c17 : x42_11 = true
        ·subst c17
         have H1 : (cohousingref02_Scale.j2 kj11 (wrap64 ((wrap64 (Int.tdiv (wrap64 (a0 * a1_0)) a1_1)) - 1)) (Int.tmod (wrap64 (a0 * a1_0)) a1_1) a1_0 a1_1) = some (r1, r2) := by rw [if_pos rfl] at H; exact H
         clear H
         have H := H1
         clear H1
         have H' := Aside0.mk H
         clear H
         go_wp2
         go_meet
         case rel => exact ⟨_, (wrap64 ((wrap64 (Int.tdiv (wrap64 (a0 * a1_0)) a1_1)) - 1)), (by first | rfl | (simp; done) | (simp [*]; done)), H', ⟨by have := HJ4.out; have := HJ11.out; first | omega | exact Nat.le_refl _⟩, ⟨by (with_reducible repeat (first | refine blk_drewN ?_ _ | refine blk_drew ?_ | refine blk_alloc ?_ _)); exact BK149.out⟩, ⟨by repeat (first | (with_reducible first | exact HB.out | apply below_alloc | apply pw_below_drewN | apply below_drew1 | refine below_set ?_ GE149.out) | exact HB.out)⟩⟩
        ·replace c17 := Bool.eq_false_iff.mpr c17
         subst c17
         have H1 : (cohousingref02_Scale.j2 kj11 (wrap64 (Int.tdiv (wrap64 (a0 * a1_0)) a1_1)) (Int.tmod (wrap64 (a0 * a1_0)) a1_1) a1_0 a1_1) = some (r1, r2) := by rw [if_neg (show ¬ (false = true) by decide)] at H; exact H
         clear H
         have H := H1
         clear H1
         have H' := Aside0.mk H
         clear H
         go_wp2
         go_meet
         case rel => exact ⟨_, ((wrap64 (Int.tdiv (wrap64 (a0 * a1_0)) a1_1))), (by first | rfl | (simp; done) | (simp [*]; done)), H', ⟨by have := HJ4.out; have := HJ11.out; first | omega | exact Nat.le_refl _⟩, ⟨by (with_reducible repeat (first | refine blk_drewN ?_ _ | refine blk_drew ?_ | refine blk_alloc ?_ _)); exact BK149.out⟩, ⟨by repeat (first | (with_reducible first | exact HB.out | apply below_alloc | apply pw_below_drewN | apply below_drew1 | refine below_set ?_ GE149.out) | exact HB.out)⟩⟩
       case rest =>
        clear HC16
        try clear c1
        try clear p2
        try clear c3
        try clear c4
        try clear p6
        try clear c9
        try clear c10
        try clear c11
        try clear c11b0
        try clear c11b1
        try clear c14
        try clear c14b0
        try clear c17
        try clear hcz13_0
        try clear hcz13_1
        try clear hcz15_0
        try clear hcz15_1
        try clear hcz7_0
        try clear hcz7_1
        try clear hfz13_0
        try clear hfz13_1
        try clear hfz15_0
        try clear hfz15_1
        try clear hfz7_0
        try clear hfz7_1
        try clear p2
        try clear p6
        obtain ⟨kq, x9_15, rfl, HA, HJ15, BK149, HB⟩ := hcut
        cases kq with
        | zero => exact absurd HA.out (by simp [cohousingref02_Scale.j2])
        | succ kj15 =>
         have H := HA.out
         clear HA
         simp only [cohousingref02_Scale.j2] at H
         have HC18 := Aside0.mk H
         clear H
         go_upto_region 10 with (fail)
         go_cut [53] (fun v53 wc => ∃ (kq : Nat) (x53_17 : Bool), v53 = .bool x53_17 ∧ Aside0 (cohousingref02_Scale.j3 kq x9_15 x53_17 = some (r1, r2)) ∧ Aside0 (kq ≤ kj15) ∧ Aside0 (wc.heap[gb149]? = some (.cells #[.int .i64 a1_0, .int .i64 a1_1] 50 (0, 0))) ∧ Aside0 (Below w.heap.size w wc))
         case first =>
          have H := HC18.out
          clear HC18
          by_cases c19 : (Int.tmod (wrap64 (a0 * a1_0)) a1_1) > 0
          ·rw [if_pos c19] at H
           have c19b0 : decide (0 < (Int.tmod (wrap64 (a0 * a1_0)) a1_1)) = true := decide_eq_true c19
           clear c19
           (first | rw [c19b0] | (simp only [i64_w, i32_w]; rw [c19b0]) | skip)
           have H' := Aside0.mk H
           clear H
           have hcz20_0 : wc.cell? ⟨gb149, 0, none⟩ = some (.int .i64 a1_0) := (blk_cell BK149.out 0).trans rfl
           have hcz20_1 : wc.cell? ⟨gb149, 1, none⟩ = some (.int .i64 a1_1) := (blk_cell BK149.out 1).trans rfl
           have hfz20_0 := blk_frozen BK149.out 0
           have hfz20_1 := blk_frozen BK149.out 1
           go_wp2
           go_meet
           case rel => exact ⟨_, (decide ((wrap64 (2 * (Int.tmod (wrap64 (a0 * a1_0)) a1_1))) ≥ a1_1)), (by first | rfl | (simp; done) | (simp [*]; done)), H', ⟨by have := HJ4.out; have := HJ11.out; have := HJ15.out; first | omega | exact Nat.le_refl _⟩, ⟨by (with_reducible repeat (first | refine blk_drewN ?_ _ | refine blk_drew ?_ | refine blk_alloc ?_ _)); exact BK149.out⟩, ⟨by repeat (first | (with_reducible first | exact HB.out | apply below_alloc | apply pw_below_drewN | apply below_drew1 | refine below_set ?_ GE149.out) | exact HB.out)⟩⟩
          ·rw [if_neg c19] at H
           have c19b0 : decide (0 < (Int.tmod (wrap64 (a0 * a1_0)) a1_1)) = false := decide_eq_false c19
           clear c19
           (first | rw [c19b0] | (simp only [i64_w, i32_w]; rw [c19b0]) | skip)
           have H' := Aside0.mk H
           clear H
           go_wp2
           go_meet
           case rel => exact ⟨_, (false), (by first | rfl | (simp; done) | (simp [*]; done)), H', ⟨by have := HJ4.out; have := HJ11.out; have := HJ15.out; first | omega | exact Nat.le_refl _⟩, ⟨by (with_reducible repeat (first | refine blk_drewN ?_ _ | refine blk_drew ?_ | refine blk_alloc ?_ _)); exact BK149.out⟩, ⟨by repeat (first | (with_reducible first | exact HB.out | apply below_alloc | apply pw_below_drewN | apply below_drew1 | refine below_set ?_ GE149.out) | exact HB.out)⟩⟩
         case rest =>
          clear HC18
          try clear c1
          try clear p2
          try clear c3
          try clear c4
          try clear p6
          try clear c9
          try clear c10
          try clear c11
          try clear c11b0
          try clear c11b1
          try clear c14
          try clear c14b0
          try clear c17
          try clear c19
          try clear c19b0
          try clear hcz13_0
          try clear hcz13_1
          try clear hcz15_0
          try clear hcz15_1
          try clear hcz20_0
          try clear hcz20_1
          try clear hcz7_0
          try clear hcz7_1
          try clear hfz13_0
          try clear hfz13_1
          try clear hfz15_0
          try clear hfz15_1
          try clear hfz20_0
          try clear hfz20_1
          try clear hfz7_0
          try clear hfz7_1
          try clear p2
          try clear p6
          obtain ⟨kq, x53_17, rfl, HA, HJ17, BK149, HB⟩ := hcut
          cases kq with
          | zero => exact absurd HA.out (by simp [cohousingref02_Scale.j3])
          | succ kj17 =>
           have H := HA.out
           clear HA
           simp only [cohousingref02_Scale.j3] at H
           by_cases c21 : x53_17 = true
           ·subst c21
            have H1 : ((cohousingref02_Amount.f (wrap64 (x9_15 + 1))).bind fun t152 => (if t152 = true then (some (wrap64 (x9_15 + 1), 0)) else (some (0, 3)))) = some (r1, r2) := by rw [if_pos rfl] at H; exact H
            clear H
            have H := H1
            clear H1
            replace H := Option.bind_eq_some_iff.mp H
            obtain ⟨t152, A220, H⟩ := H
            replace H : (if t152 = true then (some (wrap64 (x9_15 + 1), 0)) else (some (0, 3))) = some (r1, r2) := H
            have A22 := Aside0.mk A220
            clear A220
            by_cases c23 : t152 = true
            ·subst c23
             have H1 : (some (wrap64 (x9_15 + 1), 0)) = some (r1, r2) := by rw [if_pos rfl] at H; exact H
             clear H
             have H := H1
             clear H1
             simp only [Option.some.injEq, Prod.mk.injEq] at H
             obtain ⟨rfl, rfl⟩ := H
             go_wp2_with (first | ((with_reducible refine gate_callee (f := 31) rfl ?_); refine goesL_ (some 57) rfl rfl Tryd.func31 (by kernel_rfl) rfl #[.int .i64 (wrap64 (x9_15 + 1))] rfl (by (try simp only [List.map_toArray, List.map_cons, List.map_nil]); first | done | rfl | (simp only [List.length_drop, List.length_take]; rfl)) ?_; (with_reducible refine (cohousingref02_Amount.calls (wrap64 (x9_15 + 1)) true _ A22.out).mono ?_); rintro e w' ⟨rfl, ⟨nd, rfl⟩⟩; refine ⟨_, rfl, ?_⟩))
             go_ret2
             exact ⟨by first | rfl | (simp [errW_none, errW_some] <;> rfl) | (simp [*, errW_none, errW_some] <;> rfl), by repeat (first | (with_reducible first | exact HB.out | apply below_alloc | apply pw_below_drewN | apply below_drew1 | refine below_set ?_ GE149.out) | exact HB.out)⟩
            ·replace c23 := Bool.eq_false_iff.mpr c23
             subst c23
             have H1 : (some (0, 3)) = some (r1, r2) := by rw [if_neg (show ¬ (false = true) by decide)] at H; exact H
             clear H
             have H := H1
             clear H1
             simp only [Option.some.injEq, Prod.mk.injEq] at H
             obtain ⟨rfl, rfl⟩ := H
             go_wp2_with (first | ((with_reducible refine gate_callee (f := 31) rfl ?_); refine goesL_ (some 57) rfl rfl Tryd.func31 (by kernel_rfl) rfl #[.int .i64 (wrap64 (x9_15 + 1))] rfl (by (try simp only [List.map_toArray, List.map_cons, List.map_nil]); first | done | rfl | (simp only [List.length_drop, List.length_take]; rfl)) ?_; (with_reducible refine (cohousingref02_Amount.calls (wrap64 (x9_15 + 1)) false _ A22.out).mono ?_); rintro e w' ⟨rfl, ⟨nd, rfl⟩⟩; refine ⟨_, rfl, ?_⟩))
             go_ret2
             exact ⟨by first | rfl | (simp [errW_none, errW_some] <;> rfl) | (simp [*, errW_none, errW_some] <;> rfl), by repeat (first | (with_reducible first | exact HB.out | apply below_alloc | apply pw_below_drewN | apply below_drew1 | refine below_set ?_ GE149.out) | exact HB.out)⟩
           ·replace c21 := Bool.eq_false_iff.mpr c21
            subst c21
            have H1 : ((cohousingref02_Amount.f x9_15).bind fun t153 => (if t153 = true then (some (x9_15, 0)) else (some (0, 3)))) = some (r1, r2) := by rw [if_neg (show ¬ (false = true) by decide)] at H; exact H
            clear H
            have H := H1
            clear H1
            replace H := Option.bind_eq_some_iff.mp H
            obtain ⟨t153, A240, H⟩ := H
            replace H : (if t153 = true then (some (x9_15, 0)) else (some (0, 3))) = some (r1, r2) := H
            have A24 := Aside0.mk A240
            clear A240
            by_cases c25 : t153 = true
            ·subst c25
             have H1 : (some (x9_15, 0)) = some (r1, r2) := by rw [if_pos rfl] at H; exact H
             clear H
             have H := H1
             clear H1
             simp only [Option.some.injEq, Prod.mk.injEq] at H
             obtain ⟨rfl, rfl⟩ := H
             go_wp2_with (first | ((with_reducible refine gate_callee (f := 31) rfl ?_); refine goesL_ (some 57) rfl rfl Tryd.func31 (by kernel_rfl) rfl #[.int .i64 x9_15] rfl (by (try simp only [List.map_toArray, List.map_cons, List.map_nil]); first | done | rfl | (simp only [List.length_drop, List.length_take]; rfl)) ?_; (with_reducible refine (cohousingref02_Amount.calls x9_15 true _ A24.out).mono ?_); rintro e w' ⟨rfl, ⟨nd, rfl⟩⟩; refine ⟨_, rfl, ?_⟩))
             go_ret2
             exact ⟨by first | rfl | (simp [errW_none, errW_some] <;> rfl) | (simp [*, errW_none, errW_some] <;> rfl), by repeat (first | (with_reducible first | exact HB.out | apply below_alloc | apply pw_below_drewN | apply below_drew1 | refine below_set ?_ GE149.out) | exact HB.out)⟩
            ·replace c25 := Bool.eq_false_iff.mpr c25
             subst c25
             have H1 : (some (0, 3)) = some (r1, r2) := by rw [if_neg (show ¬ (false = true) by decide)] at H; exact H
             clear H
             have H := H1
             clear H1
             simp only [Option.some.injEq, Prod.mk.injEq] at H
             obtain ⟨rfl, rfl⟩ := H
             go_wp2_with (first | ((with_reducible refine gate_callee (f := 31) rfl ?_); refine goesL_ (some 57) rfl rfl Tryd.func31 (by kernel_rfl) rfl #[.int .i64 x9_15] rfl (by (try simp only [List.map_toArray, List.map_cons, List.map_nil]); first | done | rfl | (simp only [List.length_drop, List.length_take]; rfl)) ?_; (with_reducible refine (cohousingref02_Amount.calls x9_15 false _ A24.out).mono ?_); rintro e w' ⟨rfl, ⟨nd, rfl⟩⟩; refine ⟨_, rfl, ?_⟩))
             go_ret2
             exact ⟨by first | rfl | (simp [errW_none, errW_some] <;> rfl) | (simp [*, errW_none, errW_some] <;> rfl), by repeat (first | (with_reducible first | exact HB.out | apply below_alloc | apply pw_below_drewN | apply below_drew1 | refine below_set ?_ GE149.out) | exact HB.out)⟩

end Go.Proofs.YtdhnojfpgpjabaaDoor.P
