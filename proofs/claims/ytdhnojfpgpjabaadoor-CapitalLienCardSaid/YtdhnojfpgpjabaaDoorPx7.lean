-- Written by a program of this session out of the translation (wip/pp: the kit's print, turned). Not trusted: Lean checks it.
import Derived.Test.YtdhnojfpgpjabaaDoorPx0
import Derived.Test.YtdhnojfpgpjabaaDoorPx6
namespace Go.Proofs.YtdhnojfpgpjabaaDoor.P
open Go.RowKit Go.Proofs.YtdhnojfpgpjabaaDoorW.PrintWords Go.Proofs.YtdhnojfpgpjabaaDoorW.PrintLast Go.Proofs.YtdhnojfpgpjabaaDoorW.PrintMore
attribute [local go_sem] max2_int min2_int max_two min_two max_three min_three max_four min_four   -- for this text's walks alone
set_option linter.unusedVariables false
set_option linter.unusedSimpArgs false

/-! ### cohousingref32_step: function 30 -/
def cohousingref32_step.j0 : Nat → Int → Bool → Int → Int → Int → Option (Bool)
 | 0, _, _, _, _, _ => none
 | k + 1, x10, x11, x125000, x125001, x125002 => if x11 = true then (if x125002 ≥ 1 then (some (decide (x125002 ≤ 1000000000))) else (some false)) else (if x10 = 2 then (if x125002 ≥ 1 then (some (decide (x125002 ≤ 100000))) else (some false)) else (if x10 = 3 then (if x125002 ≥ 0 then (some (decide (x125002 ≤ 10000))) else (some false)) else (if x10 = 6 then (some (x125002 == 0)) else (some false))))
def cohousingref32_step.f (k : Nat) (a0_0 : Int) (a0_1 : Int) (a0_2 : Int) : Option (Bool) := (cohousingref32_day.f a0_1).bind fun t125 => (if t125 = true then (if a0_0 = 1 then (cohousingref32_step.j0 k a0_0 (a0_0 == 1) a0_0 a0_1 a0_2) else (if a0_0 = 4 then (cohousingref32_step.j0 k a0_0 (a0_0 == 4) a0_0 a0_1 a0_2) else (cohousingref32_step.j0 k a0_0 (a0_0 == 5) a0_0 a0_1 a0_2))) else (some false))
theorem cohousingref32_step.mono_l : ∀ k, (∀ y0 y1 y2 y3 y4, LeO (cohousingref32_step.j0 k y0 y1 y2 y3 y4) (cohousingref32_step.j0 (k + 1) y0 y1 y2 y3 y4))
 | 0 => fun _ _ _ _ _ r h => by simp [cohousingref32_step.j0] at h
 | k + 1 => by
  have ih0 := cohousingref32_step.mono_l k
  ·intro y0 y1 y2 y3 y4
   unfold cohousingref32_step.j0
   repeat' first
   | (with_reducible exact ih0 _ _ _ _ _)
   | (with_reducible exact LeO.refl _)
   | (with_reducible exact LeO.none _)
   | (with_reducible refine LeO.ite ?_ ?_)
   | (with_reducible refine LeO.bind ?_ (fun _ => ?_))
   | exact ih0 _ _ _ _ _
   | exact LeO.none _
   | refine LeO.ite ?_ ?_
   | refine LeO.bind ?_ (fun _ => ?_)
theorem cohousingref32_step.mono : ∀ a0 a1 a2 k, LeO (cohousingref32_step.f k a0 a1 a2) (cohousingref32_step.f (k + 1) a0 a1 a2) := by
 intro a0 a1 a2 k
 have ih0 := cohousingref32_step.mono_l k
 unfold cohousingref32_step.f
 repeat' first
   | (with_reducible exact ih0 _ _ _ _ _)
   | (with_reducible exact LeO.refl _)
   | (with_reducible exact LeO.none _)
   | (with_reducible refine LeO.ite ?_ ?_)
   | (with_reducible refine LeO.bind ?_ (fun _ => ?_))
   | exact ih0 _ _ _ _ _
   | exact LeO.none _
   | refine LeO.ite ?_ ?_
   | refine LeO.bind ?_ (fun _ => ?_)
set_option maxHeartbeats 8000000 in
set_option maxRecDepth 100000 in
theorem cohousingref32_step.calls (k : Nat) (a0_0 : Int) (a0_1 : Int) (a0_2 : Int) (r : Bool) (w : World) (h : cohousingref32_step.f k a0_0 a0_1 a0_2 = some r) :
  Calls Tryd.prog 30 #[.agg #[.int .i64 a0_0, .int .i64 a0_1, .int .i64 a0_2]] w fun e w' => e = .returned (.bool r) ∧ Below w.heap.size w w' := by
 have hu36 := Tryd.underlying36
 have HB := Aside0.mk (Below.refl w.heap.size w)
 have H : ((cohousingref32_day.f a0_1).bind fun t125 => (if t125 = true then (if a0_0 = 1 then (cohousingref32_step.j0 k a0_0 (a0_0 == 1) a0_0 a0_1 a0_2) else (if a0_0 = 4 then (cohousingref32_step.j0 k a0_0 (a0_0 == 4) a0_0 a0_1 a0_2) else (cohousingref32_step.j0 k a0_0 (a0_0 == 5) a0_0 a0_1 a0_2))) else (some false))) = some r := h
 clear h
 replace H := Option.bind_eq_some_iff.mp H
 obtain ⟨t125, A20, H⟩ := H
 replace H : (if t125 = true then (if a0_0 = 1 then (cohousingref32_step.j0 k a0_0 (a0_0 == 1) a0_0 a0_1 a0_2) else (if a0_0 = 4 then (cohousingref32_step.j0 k a0_0 (a0_0 == 4) a0_0 a0_1 a0_2) else (cohousingref32_step.j0 k a0_0 (a0_0 == 5) a0_0 a0_1 a0_2))) else (some false)) = some r := H
 have A2 := Aside0.mk A20
 clear A20
 by_cases c3 : t125 = true
 ·subst c3
  have H1 : (if a0_0 = 1 then (cohousingref32_step.j0 k a0_0 (a0_0 == 1) a0_0 a0_1 a0_2) else (if a0_0 = 4 then (cohousingref32_step.j0 k a0_0 (a0_0 == 4) a0_0 a0_1 a0_2) else (cohousingref32_step.j0 k a0_0 (a0_0 == 5) a0_0 a0_1 a0_2))) = some r := by rw [if_pos rfl] at H; exact H
  clear H
  have H := H1
  clear H1
  have HC4 := Aside0.mk H
  clear H
  go_enter Tryd.func30, Tryd.ntmps30
  go_upto_if 11 with (first | ((with_reducible refine gate_dst (N := 1) rfl ?_); refine box_event ?hg (N := 1) ?hd (cs := #[.int .i64 a0_0, .int .i64 a0_1, .int .i64 a0_2]) (t := 36) ?hr ?_; (case hd => rfl); (case hg => rfl); (case hr => first | (go_simp; done) | (go_simp; rfl)); intro gb124 hg w5 hbox hb; have n0_ := Aside0.mk (below_step (by repeat (first | (with_reducible first | exact HB.out | apply below_alloc | apply pw_below_drewN | apply below_drew1) | exact HB.out)) hb); have n1_ := Aside0.mk (hbox); have n2_ := Aside0.mk ((by rw [hg]; exact (below_size (by repeat (first | (with_reducible first | exact HB.out | apply below_alloc | apply pw_below_drewN | apply below_drew1) | exact HB.out))) : w.heap.size ≤ gb124)); have n3_ := Aside0.mk ((by rw [hg]; exact (below_size (by repeat (first | (with_reducible first | exact HB.out | apply below_alloc | apply pw_below_drewN | apply below_drew1) | exact HB.out))) : w.heap.size ≤ gb124)); clear HB; have HB := n0_; have BK124 := n1_; have GW124 := n2_; have GE124 := n3_; clear n0_ n1_ n2_ n3_; clear hb hbox hg; have hcz6_0 : w5.cell? ⟨gb124, 0, none⟩ = some (.int .i64 a0_0) := (blk_cell BK124.out 0).trans rfl; have hcz6_1 : w5.cell? ⟨gb124, 1, none⟩ = some (.int .i64 a0_1) := (blk_cell BK124.out 1).trans rfl; have hcz6_2 : w5.cell? ⟨gb124, 2, none⟩ = some (.int .i64 a0_2) := (blk_cell BK124.out 2).trans rfl; have hfz6_0 := blk_frozen BK124.out 0; have hfz6_1 := blk_frozen BK124.out 1; have hfz6_2 := blk_frozen BK124.out 2) | ((with_reducible refine gate_callee (f := 27) rfl ?_); refine goesL_ (some 6) rfl rfl Tryd.func27 (by kernel_rfl) rfl #[.int .i64 a0_1] rfl (by (try simp only [List.map_toArray, List.map_cons, List.map_nil]); first | done | rfl | (simp only [List.length_drop, List.length_take]; rfl)) ?_; (with_reducible refine (cohousingref32_day.calls a0_1 true _ A2.out).mono ?_); rintro e w' ⟨rfl, ⟨nd, rfl⟩⟩; refine ⟨_, rfl, ?_⟩))
  (try simp only [Act.put, List.setIfInBounds_toArray, List.set_cons_zero, List.set_cons_succ])
  go_cut [11] (fun v11 wc => ∃ (kq : Nat) (x11_3 : Bool), v11 = .bool x11_3 ∧ Aside0 (cohousingref32_step.j0 kq a0_0 x11_3 a0_0 a0_1 a0_2 = some r) ∧ Aside0 (kq ≤ k) ∧ Aside0 (wc.heap[gb124]? = some (.cells #[.int .i64 a0_0, .int .i64 a0_1, .int .i64 a0_2] 36 (0, 0))) ∧ Aside0 (Below w.heap.size w wc))
  case first =>
   have H := HC4.out
   clear HC4
   by_cases c7 : a0_0 = 1
   ·rw [if_pos c7] at H
    have c7b0 : (a0_0 == 1) = true := beq_iff_eq.mpr c7
    have c7b1 : (a0_0 != 1) = false := bne_eq_false_iff_eq.mpr c7
    clear c7
    (first | rw [c7b0] | (simp only [i64_w, i32_w]; rw [c7b0]) | skip)
    have H' := Aside0.mk H
    clear H
    go_wp2
    go_meet
    case rel => exact ⟨_, ((a0_0 == 1)), (by first | rfl | (simp; done) | (simp [*]; done)), H', ⟨by first | omega | exact Nat.le_refl _⟩, ⟨by (with_reducible repeat (first | refine blk_drewN ?_ _ | refine blk_drew ?_ | refine blk_alloc ?_ _)); exact BK124.out⟩, ⟨by repeat (first | (with_reducible first | exact HB.out | apply below_alloc | apply pw_below_drewN | apply below_drew1 | refine below_set ?_ GE124.out) | exact HB.out)⟩⟩
   ·rw [if_neg c7] at H
    have c7b0 : (a0_0 == 1) = false := beq_eq_false_iff_ne.mpr c7
    have c7b1 : (a0_0 != 1) = true := bne_iff_ne.mpr c7
    (first | rw [c7b0] | (simp only [i64_w, i32_w]; rw [c7b0]) | skip)
    by_cases c8 : a0_0 = 4
    ·rw [if_pos c8] at H
     have c8b0 : (a0_0 == 4) = true := beq_iff_eq.mpr c8
     have c8b1 : (a0_0 != 4) = false := bne_eq_false_iff_eq.mpr c8
     clear c8
     have H' := Aside0.mk H
     clear H
     go_wp2
     go_meet
     case rel => exact ⟨_, ((a0_0 == 4)), (by first | rfl | (simp; done) | (simp [*]; done)), H', ⟨by first | omega | exact Nat.le_refl _⟩, ⟨by (with_reducible repeat (first | refine blk_drewN ?_ _ | refine blk_drew ?_ | refine blk_alloc ?_ _)); exact BK124.out⟩, ⟨by repeat (first | (with_reducible first | exact HB.out | apply below_alloc | apply pw_below_drewN | apply below_drew1 | refine below_set ?_ GE124.out) | exact HB.out)⟩⟩
    ·rw [if_neg c8] at H
     have c8b0 : (a0_0 == 4) = false := beq_eq_false_iff_ne.mpr c8
     have c8b1 : (a0_0 != 4) = true := bne_iff_ne.mpr c8
     have H' := Aside0.mk H
     clear H
     go_wp2
     go_meet
     case rel => exact ⟨_, ((a0_0 == 5)), (by first | rfl | (simp; done) | (simp [*]; done)), H', ⟨by first | omega | exact Nat.le_refl _⟩, ⟨by (with_reducible repeat (first | refine blk_drewN ?_ _ | refine blk_drew ?_ | refine blk_alloc ?_ _)); exact BK124.out⟩, ⟨by repeat (first | (with_reducible first | exact HB.out | apply below_alloc | apply pw_below_drewN | apply below_drew1 | refine below_set ?_ GE124.out) | exact HB.out)⟩⟩
  case rest =>
   clear HC4
   try clear c2
   try clear p2
   try clear c3
   try clear c7
   try clear c7b0
   try clear c7b1
   try clear c8
   try clear c8b0
   try clear c8b1
   try clear hcz6_0
   try clear hcz6_1
   try clear hcz6_2
   try clear hfz6_0
   try clear hfz6_1
   try clear hfz6_2
   obtain ⟨kq, x11_3, rfl, HA, HJ3, BK124, HB⟩ := hcut
   cases kq with
   | zero => exact absurd HA.out (by simp [cohousingref32_step.j0])
   | succ kj3 =>
    have H := HA.out
    clear HA
    simp only [cohousingref32_step.j0] at H
    by_cases c9 : x11_3 = true
    ·subst c9
     have H1 : (if a0_2 ≥ 1 then (some (decide (a0_2 ≤ 1000000000))) else (some false)) = some r := by rw [if_pos rfl] at H; exact H
     clear H
     have H := H1
     clear H1
     by_cases c10 : a0_2 ≥ 1
     ·rw [if_pos c10] at H
      have c10b0 : decide (1 ≤ a0_2) = true := decide_eq_true c10
      clear c10
      obtain rfl := Option.some.inj H
      have hcz11_0 : wc.cell? ⟨gb124, 0, none⟩ = some (.int .i64 a0_0) := (blk_cell BK124.out 0).trans rfl
      have hcz11_1 : wc.cell? ⟨gb124, 1, none⟩ = some (.int .i64 a0_1) := (blk_cell BK124.out 1).trans rfl
      have hcz11_2 : wc.cell? ⟨gb124, 2, none⟩ = some (.int .i64 a0_2) := (blk_cell BK124.out 2).trans rfl
      have hfz11_0 := blk_frozen BK124.out 0
      have hfz11_1 := blk_frozen BK124.out 1
      have hfz11_2 := blk_frozen BK124.out 2
      go_wp2
      go_ret
      exact ⟨by first | rfl | (simp [errW_none, errW_some] <;> rfl) | (simp [*, errW_none, errW_some] <;> rfl), by repeat (first | (with_reducible first | exact HB.out | apply below_alloc | apply pw_below_drewN | apply below_drew1 | refine below_set ?_ GE124.out) | exact HB.out)⟩
     ·rw [if_neg c10] at H
      have c10b0 : decide (1 ≤ a0_2) = false := decide_eq_false c10
      clear c10
      obtain rfl := Option.some.inj H
      have hcz12_0 : wc.cell? ⟨gb124, 0, none⟩ = some (.int .i64 a0_0) := (blk_cell BK124.out 0).trans rfl
      have hcz12_1 : wc.cell? ⟨gb124, 1, none⟩ = some (.int .i64 a0_1) := (blk_cell BK124.out 1).trans rfl
      have hcz12_2 : wc.cell? ⟨gb124, 2, none⟩ = some (.int .i64 a0_2) := (blk_cell BK124.out 2).trans rfl
      have hfz12_0 := blk_frozen BK124.out 0
      have hfz12_1 := blk_frozen BK124.out 1
      have hfz12_2 := blk_frozen BK124.out 2
      go_wp2
      go_ret
      exact ⟨by first | rfl | (simp [errW_none, errW_some] <;> rfl) | (simp [*, errW_none, errW_some] <;> rfl), by repeat (first | (with_reducible first | exact HB.out | apply below_alloc | apply pw_below_drewN | apply below_drew1 | refine below_set ?_ GE124.out) | exact HB.out)⟩
    ·replace c9 := Bool.eq_false_iff.mpr c9
     subst c9
     have H1 : (if a0_0 = 2 then (if a0_2 ≥ 1 then (some (decide (a0_2 ≤ 100000))) else (some false)) else (if a0_0 = 3 then (if a0_2 ≥ 0 then (some (decide (a0_2 ≤ 10000))) else (some false)) else (if a0_0 = 6 then (some (a0_2 == 0)) else (some false)))) = some r := by rw [if_neg (show ¬ (false = true) by decide)] at H; exact H
     clear H
     have H := H1
     clear H1
     by_cases c13 : a0_0 = 2
     ·rw [if_pos c13] at H
      have c13b0 : (a0_0 == 2) = true := beq_iff_eq.mpr c13
      have c13b1 : (a0_0 != 2) = false := bne_eq_false_iff_eq.mpr c13
      clear c13
      by_cases c14 : a0_2 ≥ 1
      ·rw [if_pos c14] at H
       have c14b0 : decide (1 ≤ a0_2) = true := decide_eq_true c14
       clear c14
       obtain rfl := Option.some.inj H
       have hcz15_0 : wc.cell? ⟨gb124, 0, none⟩ = some (.int .i64 a0_0) := (blk_cell BK124.out 0).trans rfl
       have hcz15_1 : wc.cell? ⟨gb124, 1, none⟩ = some (.int .i64 a0_1) := (blk_cell BK124.out 1).trans rfl
       have hcz15_2 : wc.cell? ⟨gb124, 2, none⟩ = some (.int .i64 a0_2) := (blk_cell BK124.out 2).trans rfl
       have hfz15_0 := blk_frozen BK124.out 0
       have hfz15_1 := blk_frozen BK124.out 1
       have hfz15_2 := blk_frozen BK124.out 2
       go_wp2
       go_ret
       exact ⟨by first | rfl | (simp [errW_none, errW_some] <;> rfl) | (simp [*, errW_none, errW_some] <;> rfl), by repeat (first | (with_reducible first | exact HB.out | apply below_alloc | apply pw_below_drewN | apply below_drew1 | refine below_set ?_ GE124.out) | exact HB.out)⟩
      ·rw [if_neg c14] at H
       have c14b0 : decide (1 ≤ a0_2) = false := decide_eq_false c14
       clear c14
       obtain rfl := Option.some.inj H
       have hcz16_0 : wc.cell? ⟨gb124, 0, none⟩ = some (.int .i64 a0_0) := (blk_cell BK124.out 0).trans rfl
       have hcz16_1 : wc.cell? ⟨gb124, 1, none⟩ = some (.int .i64 a0_1) := (blk_cell BK124.out 1).trans rfl
       have hcz16_2 : wc.cell? ⟨gb124, 2, none⟩ = some (.int .i64 a0_2) := (blk_cell BK124.out 2).trans rfl
       have hfz16_0 := blk_frozen BK124.out 0
       have hfz16_1 := blk_frozen BK124.out 1
       have hfz16_2 := blk_frozen BK124.out 2
       go_wp2
       go_ret
       exact ⟨by first | rfl | (simp [errW_none, errW_some] <;> rfl) | (simp [*, errW_none, errW_some] <;> rfl), by repeat (first | (with_reducible first | exact HB.out | apply below_alloc | apply pw_below_drewN | apply below_drew1 | refine below_set ?_ GE124.out) | exact HB.out)⟩
     ·rw [if_neg c13] at H
      have c13b0 : (a0_0 == 2) = false := beq_eq_false_iff_ne.mpr c13
      have c13b1 : (a0_0 != 2) = true := bne_iff_ne.mpr c13
      by_cases c17 : a0_0 = 3
      ·rw [if_pos c17] at H
       have c17b0 : (a0_0 == 3) = true := beq_iff_eq.mpr c17
       have c17b1 : (a0_0 != 3) = false := bne_eq_false_iff_eq.mpr c17
       clear c17
       by_cases c18 : a0_2 ≥ 0
       ·rw [if_pos c18] at H
        have c18b0 : decide (0 ≤ a0_2) = true := decide_eq_true c18
        clear c18
        obtain rfl := Option.some.inj H
        have hcz19_0 : wc.cell? ⟨gb124, 0, none⟩ = some (.int .i64 a0_0) := (blk_cell BK124.out 0).trans rfl
        have hcz19_1 : wc.cell? ⟨gb124, 1, none⟩ = some (.int .i64 a0_1) := (blk_cell BK124.out 1).trans rfl
        have hcz19_2 : wc.cell? ⟨gb124, 2, none⟩ = some (.int .i64 a0_2) := (blk_cell BK124.out 2).trans rfl
        have hfz19_0 := blk_frozen BK124.out 0
        have hfz19_1 := blk_frozen BK124.out 1
        have hfz19_2 := blk_frozen BK124.out 2
        go_wp2
        go_ret
        exact ⟨by first | rfl | (simp [errW_none, errW_some] <;> rfl) | (simp [*, errW_none, errW_some] <;> rfl), by repeat (first | (with_reducible first | exact HB.out | apply below_alloc | apply pw_below_drewN | apply below_drew1 | refine below_set ?_ GE124.out) | exact HB.out)⟩
       ·rw [if_neg c18] at H
        have c18b0 : decide (0 ≤ a0_2) = false := decide_eq_false c18
        clear c18
        obtain rfl := Option.some.inj H
        have hcz20_0 : wc.cell? ⟨gb124, 0, none⟩ = some (.int .i64 a0_0) := (blk_cell BK124.out 0).trans rfl
        have hcz20_1 : wc.cell? ⟨gb124, 1, none⟩ = some (.int .i64 a0_1) := (blk_cell BK124.out 1).trans rfl
        have hcz20_2 : wc.cell? ⟨gb124, 2, none⟩ = some (.int .i64 a0_2) := (blk_cell BK124.out 2).trans rfl
        have hfz20_0 := blk_frozen BK124.out 0
        have hfz20_1 := blk_frozen BK124.out 1
        have hfz20_2 := blk_frozen BK124.out 2
        go_wp2
        go_ret
        exact ⟨by first | rfl | (simp [errW_none, errW_some] <;> rfl) | (simp [*, errW_none, errW_some] <;> rfl), by repeat (first | (with_reducible first | exact HB.out | apply below_alloc | apply pw_below_drewN | apply below_drew1 | refine below_set ?_ GE124.out) | exact HB.out)⟩
      ·rw [if_neg c17] at H
       have c17b0 : (a0_0 == 3) = false := beq_eq_false_iff_ne.mpr c17
       have c17b1 : (a0_0 != 3) = true := bne_iff_ne.mpr c17
       by_cases c21 : a0_0 = 6
       ·rw [if_pos c21] at H
        have c21b0 : (a0_0 == 6) = true := beq_iff_eq.mpr c21
        have c21b1 : (a0_0 != 6) = false := bne_eq_false_iff_eq.mpr c21
        clear c21
        obtain rfl := Option.some.inj H
        have hcz22_0 : wc.cell? ⟨gb124, 0, none⟩ = some (.int .i64 a0_0) := (blk_cell BK124.out 0).trans rfl
        have hcz22_1 : wc.cell? ⟨gb124, 1, none⟩ = some (.int .i64 a0_1) := (blk_cell BK124.out 1).trans rfl
        have hcz22_2 : wc.cell? ⟨gb124, 2, none⟩ = some (.int .i64 a0_2) := (blk_cell BK124.out 2).trans rfl
        have hfz22_0 := blk_frozen BK124.out 0
        have hfz22_1 := blk_frozen BK124.out 1
        have hfz22_2 := blk_frozen BK124.out 2
        go_wp2
        go_ret
        exact ⟨by first | rfl | (simp [errW_none, errW_some] <;> rfl) | (simp [*, errW_none, errW_some] <;> rfl), by repeat (first | (with_reducible first | exact HB.out | apply below_alloc | apply pw_below_drewN | apply below_drew1 | refine below_set ?_ GE124.out) | exact HB.out)⟩
       ·rw [if_neg c21] at H
        have c21b0 : (a0_0 == 6) = false := beq_eq_false_iff_ne.mpr c21
        have c21b1 : (a0_0 != 6) = true := bne_iff_ne.mpr c21
        obtain rfl := Option.some.inj H
        go_wp2
        go_ret
        exact ⟨by first | rfl | (simp [errW_none, errW_some] <;> rfl) | (simp [*, errW_none, errW_some] <;> rfl), by repeat (first | (with_reducible first | exact HB.out | apply below_alloc | apply pw_below_drewN | apply below_drew1 | refine below_set ?_ GE124.out) | exact HB.out)⟩
 ·replace c3 := Bool.eq_false_iff.mpr c3
  subst c3
  have H1 : (some false) = some r := by rw [if_neg (show ¬ (false = true) by decide)] at H; exact H
  clear H
  have H := H1
  clear H1
  obtain rfl := Option.some.inj H
  go_enter Tryd.func30, Tryd.ntmps30
  go_wp2_with (first | ((with_reducible refine gate_dst (N := 1) rfl ?_); refine box_event ?hg (N := 1) ?hd (cs := #[.int .i64 a0_0, .int .i64 a0_1, .int .i64 a0_2]) (t := 36) ?hr ?_; (case hd => rfl); (case hg => rfl); (case hr => first | (go_simp; done) | (go_simp; rfl)); intro gb124 hg w23 hbox hb; have n0_ := Aside0.mk (below_step (by repeat (first | (with_reducible first | exact HB.out | apply below_alloc | apply pw_below_drewN | apply below_drew1) | exact HB.out)) hb); have n1_ := Aside0.mk (hbox); have n2_ := Aside0.mk ((by rw [hg]; exact (below_size (by repeat (first | (with_reducible first | exact HB.out | apply below_alloc | apply pw_below_drewN | apply below_drew1) | exact HB.out))) : w.heap.size ≤ gb124)); have n3_ := Aside0.mk ((by rw [hg]; exact (below_size (by repeat (first | (with_reducible first | exact HB.out | apply below_alloc | apply pw_below_drewN | apply below_drew1) | exact HB.out))) : w.heap.size ≤ gb124)); clear HB; have HB := n0_; have BK124 := n1_; have GW124 := n2_; have GE124 := n3_; clear n0_ n1_ n2_ n3_; clear hb hbox hg; have hcz24_0 : w23.cell? ⟨gb124, 0, none⟩ = some (.int .i64 a0_0) := (blk_cell BK124.out 0).trans rfl; have hcz24_1 : w23.cell? ⟨gb124, 1, none⟩ = some (.int .i64 a0_1) := (blk_cell BK124.out 1).trans rfl; have hcz24_2 : w23.cell? ⟨gb124, 2, none⟩ = some (.int .i64 a0_2) := (blk_cell BK124.out 2).trans rfl; have hfz24_0 := blk_frozen BK124.out 0; have hfz24_1 := blk_frozen BK124.out 1; have hfz24_2 := blk_frozen BK124.out 2) | ((with_reducible refine gate_callee (f := 27) rfl ?_); refine goesL_ (some 6) rfl rfl Tryd.func27 (by kernel_rfl) rfl #[.int .i64 a0_1] rfl (by (try simp only [List.map_toArray, List.map_cons, List.map_nil]); first | done | rfl | (simp only [List.length_drop, List.length_take]; rfl)) ?_; (with_reducible refine (cohousingref32_day.calls a0_1 false _ A2.out).mono ?_); rintro e w' ⟨rfl, ⟨nd, rfl⟩⟩; refine ⟨_, rfl, ?_⟩))
  go_ret
  exact ⟨by first | rfl | (simp [errW_none, errW_some] <;> rfl) | (simp [*, errW_none, errW_some] <;> rfl), by repeat (first | (with_reducible first | exact HB.out | apply below_alloc | apply pw_below_drewN | apply below_drew1 | refine below_set ?_ GE124.out) | exact HB.out)⟩

/-! ### cohousingref02_Amount: function 31 -/
def cohousingref02_Amount.f (a0 : Int) : Option (Bool) := if a0 ≥ (-1000000000) then (some (decide (a0 ≤ 1000000000))) else (some false)
set_option maxHeartbeats 8000000 in
set_option maxRecDepth 100000 in
theorem cohousingref02_Amount.calls (a0 : Int) (r : Bool) (w : World) (h : cohousingref02_Amount.f a0 = some r) :
  Calls Tryd.prog 31 #[.int .i64 a0] w fun e w' => e = .returned (.bool r) ∧ Drawn0 w w' := by
 have H : (if a0 ≥ (-1000000000) then (some (decide (a0 ≤ 1000000000))) else (some false)) = some r := h
 clear h
 by_cases c2 : a0 ≥ (-1000000000)
 ·rw [if_pos c2] at H
  have c2b0 : decide ((-1000000000) ≤ a0) = true := decide_eq_true c2
  clear c2
  obtain rfl := Option.some.inj H
  go_enter Tryd.func31, Tryd.ntmps31
  go_wp2
  go_ret
  exact ⟨by first | rfl | (simp; done) | (simp [*]; done), by repeat (first | exact Drawn0.refl _ | apply Drawn0.step)⟩
 ·rw [if_neg c2] at H
  have c2b0 : decide ((-1000000000) ≤ a0) = false := decide_eq_false c2
  clear c2
  obtain rfl := Option.some.inj H
  go_enter Tryd.func31, Tryd.ntmps31
  go_wp2
  go_ret
  exact ⟨by first | rfl | (simp; done) | (simp [*]; done), by repeat (first | exact Drawn0.refl _ | apply Drawn0.step)⟩

end Go.Proofs.YtdhnojfpgpjabaaDoor.P
