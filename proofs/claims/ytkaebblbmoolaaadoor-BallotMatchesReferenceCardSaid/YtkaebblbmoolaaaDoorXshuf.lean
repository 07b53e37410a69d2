/- ballot.Shuffle. (Written by wip/mkshuf.py.) -/
import Derived.Test.YtkaebblbmoolaaaDoorPbB
import Derived.Test.YtkaebblbmoolaaaDoorXorder
import Derived.Test.YtkaebblbmoolaaaDoorOrdI
set_option linter.unusedSimpArgs false
set_option linter.unusedVariables false
namespace Go.Proofs.YtkaebblbmoolaaaDoor.P
open Go Go.RowKit Go.Proofs.YtkaebblbmoolaaaDoorW.PrintWords Go.Proofs.YtkaebblbmoolaaaDoorW.PrintLast Go.Proofs.YtkaebblbmoolaaaDoorW.PrintMore Go.Proofs.YtkaebblbmoolaaaDoor.Ord Go.Proofs.YtkaebblbmoolaaaDoor.OrdI
attribute [local go_sem ↓] Go.wp_at_zero Go.wp_at_succ

/-- What stands still from the answers on: all but the mix's own variable, and what is laid behind. -/
structure Fs (w w12 : World) (B1 : Nat) (W : World) : Prop where
  k : ∀ k, k < w12.heap.size → k ≠ B1 → W.heap[k]? = w12.heap[k]?
  b : Below w.heap.size w W
  s : w12.heap.size ≤ W.heap.size
theorem Fs.below {w w12 W W' : World} {B1 n : Nat} (h : Fs w w12 B1 W) (hb : Below n W W') (hn : W.heap.size ≤ n) : Fs w w12 B1 W' :=
  ⟨fun k hk hne => (hb.block k (Nat.lt_of_lt_of_le hk (Nat.le_trans h.s hn))).trans (h.k k hk hne), h.b.trans (Below.mono hb (Nat.le_trans h.b.size hn)), Nat.le_trans h.s hb.size⟩
theorem Fs.set {w w12 W : World} {B1 : Nat} (h : Fs w w12 B1 W) (B i : Nat) (v : Value) (hB : B = B1 ∨ w12.heap.size ≤ B) (hw : w.heap.size ≤ B) : Fs w w12 B1 (W.setCell ⟨B, i, none⟩ v) :=
  ⟨fun k hk hne => (Below.heap_setCell W ⟨B, i, none⟩ v k (by rcases hB with rfl | hB; exact hne; exact (by show k ≠ B; omega))).trans (h.k k hk hne), h.b.setCell hw _, by rw [World.size_setCell]; exact h.s⟩
theorem Fs.grown {w w12 W W' : World} {B1 : Nat} {r : Option Nat} (h : Fs w w12 B1 W) (hg : W.grownBy W' r) (hr : ∀ k, r = some k → w12.heap.size ≤ k) (h0 : w.heap.size ≤ w12.heap.size) : Fs w w12 B1 W' :=
  ⟨fun k hk hne => (hg.block k (Nat.lt_of_lt_of_le hk h.s) (fun e => by have := hr k e.symm; omega)).trans (h.k k hk hne), h.b.grown hg h.b.size (fun k hk => Nat.le_trans h0 (hr k hk)), Nat.le_trans h.s hg.size⟩
theorem Fs.R {α : Type} {d : Kd α} {e base : Nat} {w w12 W : World} {B1 : Nat} {v : Value} {xs : List α} (h : Fs w w12 B1 W) (hr : d.R e w12 base (fun k => k ≠ B1) v xs) : d.R e W base (fun _ => True) v xs :=
  Kd.R_mono (Kd.R_step hr (fun k hk hlt => h.k k hlt hk)) (fun _ _ => trivial)
theorem info_l : (Tryd.prog.info? 53).map (fun i => (i.zero, i.size, i.bytes)) = some (some (.agg #[(.int .i64 0), (.int .i64 0), (.int .i64 0)]), 3, 24) := by kernel_rfl
theorem R_none {α : Type} (d : Kd α) (e : Nat) (w : World) (base : Nat) : Kd.R d e w base (fun _ => True) (.slice none 0 0) [] := Kd.R_nil d e w base _
set_option maxRecDepth 100000 in
set_option maxHeartbeats 4000000 in
theorem shuf_calls (a0 : Int) (A1 : Option Addr) (c1 : Nat) (l1 : List (S23)) (A2 : Option Addr) (c2 : Nat) (l2 : List Int) (A3 : Option Addr) (c3 : Nat) (l3 : List Int) (A4 : Option Addr) (c4 : Nat) (l4 : List Int) (A5 : Option Addr) (c5 : Nat) (l5 : List Int) (w : World)
    (hr1 : Kd.C k23 w A1 l1.length l1) (hc1 : l1.length ≤ c1) (hr2 : Kd.C (Kd.int .i64) w A2 l2.length l2) (hc2 : l2.length ≤ c2) (hr3 : Kd.C (Kd.int .i64) w A3 l3.length l3) (hc3 : l3.length ≤ c3) (hr4 : Kd.C (Kd.int .i64) w A4 l4.length l4) (hc4 : l4.length ≤ c4) (hr5 : Kd.C (Kd.int .i64) w A5 l5.length l5) (hc5 : l5.length ≤ c5) (hT : TabOk w)
    (r : List S23 × List S23 × List S53 × Int) (h : shufV a0 l1 l2 l3 l4 l5 = r) :
    Calls Tryd.prog 16 #[.int .i64 a0, .slice A1 l1.length c1, .slice A2 l2.length c2, .slice A3 l3.length c3, .slice A4 l4.length c4, .slice A5 l5.length c5] w fun e w' => ∃ v0 v1 v2 : Value, e = .returned (.tuple #[.agg #[v0, v1, v2], .int .i64 r.2.2.2]) ∧ Kd.R k23 23 w' w.heap.size (fun _ => True) v0 r.1 ∧ Kd.R k23 23 w' w.heap.size (fun _ => True) v1 r.2.1 ∧ Kd.R k53 53 w' w.heap.size (fun _ => True) v2 r.2.2.1 ∧ Below w.heap.size w w' := by
  have HRES := Lib.hid h
  have HT := Lib.hid hT
  have HR := Lib.hid (And.intro hr1 (And.intro hr2 (And.intro hr3 (And.intro hr4 hr5))))
  have HC := Lib.hid (And.intro hc1 (And.intro hc2 (And.intro hc3 (And.intro hc4 hc5))))
  clear h hT hr1 hr2 hr3 hr4 hr5 hc1 hc2 hc3 hc4 hc5
  go_enter Tryd.func16, Tryd.ntmps16
  go_wp2_with fail
  obtain ⟨hx1, hs1, hb1⟩ := Blk.box w 28 [Value.slice none 0 0, Value.slice none 0 0, Value.slice none 0 0]
  rw [show (List.toArray [Value.slice none 0 0, Value.slice none 0 0, Value.slice none 0 0]) = #[Value.slice none 0 0, Value.slice none 0 0, Value.slice none 0 0] from rfl] at hx1 hs1 hb1
  generalize w.alloc (Obj.cells #[Value.slice none 0 0, Value.slice none 0 0, Value.slice none 0 0] 28) = w1 at hx1 hs1 hb1 ⊢
  refine (ballot_key_right.calls a0 (keyB a0) w1 (right_f a0)).mono ?_
  rintro e w2 ⟨rfl, hbn⟩
  have HX2 := Lib.hid (hx1.below hbn hx1.lt)
  have HB2 := Lib.hid (show Below w.heap.size w w2 from hb1.trans (Below.mono hbn (by omega)))
  clear hx1 hs1 hb1 hbn
  cases k0 : keyB a0 with
  | false =>
    have hres := HRES.out
    rw [show shufV a0 l1 l2 l3 l4 l5 = ([], [], [], 1) from by unfold shufV shufOk; rw [k0]; simp] at hres
    subst hres
    have c0 := fun v i u h => (HX2.out.set 0 v).cell i u h
    have c1 := fun v v' i u h => ((HX2.out.set 0 v).set 1 v').cell i u h
    have f0 := HX2.out.frozen 0
    have f1 := HX2.out.frozen 1
    have f2 := HX2.out.frozen 2
    have e0 := HX2.out.cell 0 _ rfl
    have e1 := HX2.out.cell 1 _ rfl
    have e2 := HX2.out.cell 2 _ rfl
    clear c0 c1 k0
    go_wp2_with fail
    refine bodyPost_ret (results_ct rfl _ _ w.heap.size 28 #[.slice none 0 0, .slice none 0 0, .slice none 0 0] (0, 0) _ rfl ?blk Tryd.underlying28 rfl (by kernel_rfl)) rfl ?_
    case blk => exact ((HX2.out.set 0 (.slice none 0 0)).set 1 (.slice none 0 0)).set 2 (.slice none 0 0)
    exact ⟨_, _, _, rfl, R_none _ _ _ _, R_none _ _ _ _, R_none _ _ _ _, ((HB2.out.setCell (Nat.le_refl _) _).setCell (Nat.le_refl _) _).setCell (Nat.le_refl _) _⟩
  | true =>
    go_wp2_with fail
    refine (ballot_ciphers.calls A1 c1 l1 (ciphsB l1) w2 (Kd.C_below HR.out.1 HB2.out) HC.out.1 rfl).mono ?_
    rintro e w3 ⟨rfl, hbn⟩
    have HX3 := Lib.hid (HX2.out.below hbn HX2.out.lt)
    have HB3 := Lib.hid (HB2.out.trans (Below.mono hbn HB2.out.size))
    clear hbn HX2 HB2
    cases k1 : ciphsB l1 with
    | false =>
      have hres := HRES.out
      rw [show shufV a0 l1 l2 l3 l4 l5 = ([], [], [], 1) from by unfold shufV shufOk; rw [k1]; simp] at hres
      subst hres
      have c0 := fun v i u h => (HX3.out.set 0 v).cell i u h
      have c1 := fun v v' i u h => ((HX3.out.set 0 v).set 1 v').cell i u h
      have f0 := HX3.out.frozen 0
      have f1 := HX3.out.frozen 1
      have f2 := HX3.out.frozen 2
      have e0 := HX3.out.cell 0 _ rfl
      have e1 := HX3.out.cell 1 _ rfl
      have e2 := HX3.out.cell 2 _ rfl
      clear c0 c1 k0 k1
      go_wp2_with fail
      refine bodyPost_ret (results_ct rfl _ _ w.heap.size 28 #[.slice none 0 0, .slice none 0 0, .slice none 0 0] (0, 0) _ rfl ?blk Tryd.underlying28 rfl (by kernel_rfl)) rfl ?_
      case blk => exact ((HX3.out.set 0 (.slice none 0 0)).set 1 (.slice none 0 0)).set 2 (.slice none 0 0)
      exact ⟨_, _, _, rfl, R_none _ _ _ _, R_none _ _ _ _, R_none _ _ _ _, ((HB3.out.setCell (Nat.le_refl _) _).setCell (Nat.le_refl _) _).setCell (Nat.le_refl _) _⟩
    | true =>
      go_wp2_with fail
      refine (ballot_order.calls A2 c2 l2 (l1.length : Int) (orderB l2 l1.length) w3 (Kd.C_below HR.out.2.1 HB3.out) HC.out.2.1 rfl).mono ?_
      rintro e w4 ⟨rfl, hbn⟩
      have HX4 := Lib.hid (HX3.out.below hbn HX3.out.lt)
      have HB4 := Lib.hid (HB3.out.trans (Below.mono hbn HB3.out.size))
      clear hbn HX3 HB3
      cases k2 : orderB l2 l1.length with
      | false =>
        have hres := HRES.out
        rw [show shufV a0 l1 l2 l3 l4 l5 = ([], [], [], 1) from by unfold shufV shufOk; rw [k2]; simp] at hres
        subst hres
        have c0 := fun v i u h => (HX4.out.set 0 v).cell i u h
        have c1 := fun v v' i u h => ((HX4.out.set 0 v).set 1 v').cell i u h
        have f0 := HX4.out.frozen 0
        have f1 := HX4.out.frozen 1
        have f2 := HX4.out.frozen 2
        have e0 := HX4.out.cell 0 _ rfl
        have e1 := HX4.out.cell 1 _ rfl
        have e2 := HX4.out.cell 2 _ rfl
        clear c0 c1 k0 k1 k2
        go_wp2_with fail
        refine bodyPost_ret (results_ct rfl _ _ w.heap.size 28 #[.slice none 0 0, .slice none 0 0, .slice none 0 0] (0, 0) _ rfl ?blk Tryd.underlying28 rfl (by kernel_rfl)) rfl ?_
        case blk => exact ((HX4.out.set 0 (.slice none 0 0)).set 1 (.slice none 0 0)).set 2 (.slice none 0 0)
        exact ⟨_, _, _, rfl, R_none _ _ _ _, R_none _ _ _ _, R_none _ _ _ _, ((HB4.out.setCell (Nat.le_refl _) _).setCell (Nat.le_refl _) _).setCell (Nat.le_refl _) _⟩
      | true =>
        go_wp2_with fail
        refine (ballot_order.calls A3 c3 l3 (l1.length : Int) (orderB l3 l1.length) w4 (Kd.C_below HR.out.2.2.1 HB4.out) HC.out.2.2.1 rfl).mono ?_
        rintro e w5 ⟨rfl, hbn⟩
        have HX5 := Lib.hid (HX4.out.below hbn HX4.out.lt)
        have HB5 := Lib.hid (HB4.out.trans (Below.mono hbn HB4.out.size))
        clear hbn HX4 HB4
        cases k3 : orderB l3 l1.length with
        | false =>
          have hres := HRES.out
          rw [show shufV a0 l1 l2 l3 l4 l5 = ([], [], [], 1) from by unfold shufV shufOk; rw [k3]; simp] at hres
          subst hres
          have c0 := fun v i u h => (HX5.out.set 0 v).cell i u h
          have c1 := fun v v' i u h => ((HX5.out.set 0 v).set 1 v').cell i u h
          have f0 := HX5.out.frozen 0
          have f1 := HX5.out.frozen 1
          have f2 := HX5.out.frozen 2
          have e0 := HX5.out.cell 0 _ rfl
          have e1 := HX5.out.cell 1 _ rfl
          have e2 := HX5.out.cell 2 _ rfl
          clear c0 c1 k0 k1 k2 k3
          go_wp2_with fail
          refine bodyPost_ret (results_ct rfl _ _ w.heap.size 28 #[.slice none 0 0, .slice none 0 0, .slice none 0 0] (0, 0) _ rfl ?blk Tryd.underlying28 rfl (by kernel_rfl)) rfl ?_
          case blk => exact ((HX5.out.set 0 (.slice none 0 0)).set 1 (.slice none 0 0)).set 2 (.slice none 0 0)
          exact ⟨_, _, _, rfl, R_none _ _ _ _, R_none _ _ _ _, R_none _ _ _ _, ((HB5.out.setCell (Nat.le_refl _) _).setCell (Nat.le_refl _) _).setCell (Nat.le_refl _) _⟩
        | true =>
          go_wp2_with fail
          refine (ballot_exponents.calls A4 c4 l4 (l1.length : Int) (exlB l4 l1.length) w5 (Kd.C_below HR.out.2.2.2.1 HB5.out) HC.out.2.2.2.1 rfl).mono ?_
          rintro e w6 ⟨rfl, hbn⟩
          have HX6 := Lib.hid (HX5.out.below hbn HX5.out.lt)
          have HB6 := Lib.hid (HB5.out.trans (Below.mono hbn HB5.out.size))
          clear hbn HX5 HB5
          cases k4 : exlB l4 l1.length with
          | false =>
            have hres := HRES.out
            rw [show shufV a0 l1 l2 l3 l4 l5 = ([], [], [], 1) from by unfold shufV shufOk; rw [k4]; simp] at hres
            subst hres
            have c0 := fun v i u h => (HX6.out.set 0 v).cell i u h
            have c1 := fun v v' i u h => ((HX6.out.set 0 v).set 1 v').cell i u h
            have f0 := HX6.out.frozen 0
            have f1 := HX6.out.frozen 1
            have f2 := HX6.out.frozen 2
            have e0 := HX6.out.cell 0 _ rfl
            have e1 := HX6.out.cell 1 _ rfl
            have e2 := HX6.out.cell 2 _ rfl
            clear c0 c1 k0 k1 k2 k3 k4
            go_wp2_with fail
            refine bodyPost_ret (results_ct rfl _ _ w.heap.size 28 #[.slice none 0 0, .slice none 0 0, .slice none 0 0] (0, 0) _ rfl ?blk Tryd.underlying28 rfl (by kernel_rfl)) rfl ?_
            case blk => exact ((HX6.out.set 0 (.slice none 0 0)).set 1 (.slice none 0 0)).set 2 (.slice none 0 0)
            exact ⟨_, _, _, rfl, R_none _ _ _ _, R_none _ _ _ _, R_none _ _ _ _, ((HB6.out.setCell (Nat.le_refl _) _).setCell (Nat.le_refl _) _).setCell (Nat.le_refl _) _⟩
          | true =>
            go_wp2_with fail
            refine (ballot_exponents.calls A5 c5 l5 (l1.length : Int) (exlB l5 l1.length) w6 (Kd.C_below HR.out.2.2.2.2 HB6.out) HC.out.2.2.2.2 rfl).mono ?_
            rintro e w7 ⟨rfl, hbn⟩
            have HX7 := Lib.hid (HX6.out.below hbn HX6.out.lt)
            have HB7 := Lib.hid (HB6.out.trans (Below.mono hbn HB6.out.size))
            clear hbn HX6 HB6
            cases k5 : exlB l5 l1.length with
            | false =>
              have hres := HRES.out
              rw [show shufV a0 l1 l2 l3 l4 l5 = ([], [], [], 1) from by unfold shufV shufOk; rw [k5]; simp] at hres
              subst hres
              have c0 := fun v i u h => (HX7.out.set 0 v).cell i u h
              have c1 := fun v v' i u h => ((HX7.out.set 0 v).set 1 v').cell i u h
              have f0 := HX7.out.frozen 0
              have f1 := HX7.out.frozen 1
              have f2 := HX7.out.frozen 2
              have e0 := HX7.out.cell 0 _ rfl
              have e1 := HX7.out.cell 1 _ rfl
              have e2 := HX7.out.cell 2 _ rfl
              clear c0 c1 k0 k1 k2 k3 k4 k5
              go_wp2_with fail
              refine bodyPost_ret (results_ct rfl _ _ w.heap.size 28 #[.slice none 0 0, .slice none 0 0, .slice none 0 0] (0, 0) _ rfl ?blk Tryd.underlying28 rfl (by kernel_rfl)) rfl ?_
              case blk => exact ((HX7.out.set 0 (.slice none 0 0)).set 1 (.slice none 0 0)).set 2 (.slice none 0 0)
              exact ⟨_, _, _, rfl, R_none _ _ _ _, R_none _ _ _ _, R_none _ _ _ _, ((HB7.out.setCell (Nat.le_refl _) _).setCell (Nat.le_refl _) _).setCell (Nat.le_refl _) _⟩
            | true =>
              have hok : shufOk a0 l1 l2 l3 l4 l5 = true := by unfold shufOk; rw [k0, k1, k2, k3, k4, k5]; rfl
              have hres := HRES.out
              rw [show shufV a0 l1 l2 l3 l4 l5 = (shufMid a0 l1 l2 l4, shufOut a0 l1 l2 l3 l4 l5, shufLinks a0 l1 l2 l3 l4 l5, 0) from by unfold shufV; rw [if_pos hok]] at hres
              subst hres
              have HOK := Lib.hid (And.intro hok (And.intro k0 (And.intro k1 (And.intro k2 (And.intro k3 (And.intro k4 k5))))))
              clear hok k0 k1 k2 k3 k4 k5 HRES
              go_wp2_with fail
              obtain ⟨h0, h1, h2, h3, h4, h5⟩ := shuf_parts HOK.out.1
              have hn1 : 1 ≤ l1.length ∧ l1.length ≤ 64 := by simp only [ciphsB, Bool.and_eq_true, decide_eq_true_eq] at h1; omega
              refine (ballot_key_mixed.calls 100 a0 A1 c1 l1 A2 c2 l2 A4 c4 l4 (shufMid a0 l1 l2 l4) w7 (Kd.C_below HR.out.1 HB7.out) HC.out.1 (Kd.C_below HR.out.2.1 HB7.out) HC.out.2.1 (Kd.C_below HR.out.2.2.2.1 HB7.out) HC.out.2.2.2.1 (mixed_f a0 l1 l2 l4 h0 h1 h2 h4 100 (by omega))).mono ?_
              rintro e w8 ⟨vm, rfl, ho8, hb8⟩
              have HX8 := Lib.hid (HX7.out.below hb8 HX7.out.lt)
              have HB8 := Lib.hid (HB7.out.trans (Below.mono hb8 HB7.out.size))
              obtain ⟨Am, cm, rfl, hm1, hm2⟩ := Kd.R_reads ho8
              have HM8 := Lib.hid (And.intro ho8 (And.intro hm1 hm2))
              have HS8 := Lib.hid (And.intro hb8.size (And.intro HX7.out.lt HB7.out.size))
              have HN := Lib.hid hn1
              clear ho8 hm1 hm2 hb8 HB7 HX7 h0 h1 h2 h3 h4 h5 hn1
              go_wp2_with fail
              obtain ⟨hy9, hs9, hb9⟩ := Blk.box w8 28 [Value.slice Am (shufMid a0 l1 l2 l4).length cm, Value.slice none 0 0, Value.slice none 0 0]
              rw [show (List.toArray [Value.slice Am (shufMid a0 l1 l2 l4).length cm, Value.slice none 0 0, Value.slice none 0 0]) = #[Value.slice Am (shufMid a0 l1 l2 l4).length cm, Value.slice none 0 0, Value.slice none 0 0] from rfl] at hy9 hs9 hb9
              have hB : ∀ W, Below w8.heap.size w8 W → Below w.heap.size w W := fun W h => HB8.out.trans (Below.mono h HB8.out.size)
              have HBW := Lib.hid hB
              clear hB
              generalize w8.alloc (Obj.cells #[Value.slice Am (shufMid a0 l1 l2 l4).length cm, Value.slice none 0 0, Value.slice none 0 0] 28) = w9 at hy9 hs9 hb9 ⊢
              have hml : (shufMid a0 l1 l2 l4).length = l1.length := mixL_len _ _ _ _
              have HML := Lib.hid hml
              have hmix : ballot_key_mixed.f 100 a0 (shufMid a0 l1 l2 l4) l3 l5 = some (shufOut a0 l1 l2 l3 l4 l5) := by
                obtain ⟨h0, h1, h2, h3, h4, h5⟩ := shuf_parts HOK.out.1
                exact mixed_f a0 (shufMid a0 l1 l2 l4) l3 l5 h0 (mixL_ciphs a0 l1 l2 l4 h0 h1 h2 h4) (by rw [hml]; exact h3) (by rw [hml]; exact h5) 100 (by omega)
              refine (ballot_key_mixed.calls 100 a0 Am cm (shufMid a0 l1 l2 l4) A3 c3 l3 A5 c5 l5 (shufOut a0 l1 l2 l3 l4 l5) w9 (Kd.C_below HM8.out.2.2 hb9) HM8.out.2.1 (Kd.C_below HR.out.2.2.1 (HBW.out w9 hb9)) HC.out.2.2.1 (Kd.C_below HR.out.2.2.2.2 (HBW.out w9 hb9)) HC.out.2.2.2.2 hmix).mono ?_
              rintro e w10 ⟨vo, rfl, ho10, hb10⟩
              have hb89 := hb9.trans (Below.mono hb10 (by omega))
              obtain ⟨Ao, co, rfl, hm1, hm2⟩ := Kd.R_reads ho10
              have hy10 := hy9.below hb10 hy9.lt
              have g0 := hy10.frozen 1
              have g1 := hy10.cell 1 _ rfl
              have q0 := fun v => (hy10.set 1 v).cell 0 _ rfl
              have q1 := fun v => (hy10.set 1 v).cell 1 v rfl
              have H10 := Lib.hid (And.intro (Kd.R_below HM8.out.1 hb89) (And.intro ho10 (And.intro hm1 (And.intro hm2 (And.intro hy10 hb89)))))
              have HS10 := Lib.hid (And.intro hs9 hb10.size)
              have HX10 := Lib.hid (HX8.out.below hb89 HX8.out.lt)
              clear hmix hml hy9 hs9 hb9 ho10 hm1 hm2 hy10 hb10 hb89 HX8
              go_wp2_with fail
              have hy11 := H10.out.2.2.2.2.1.set 1 (.slice Ao (shufOut a0 l1 l2 l3 l4 l5).length co)
              have hb11 : Below w8.heap.size w8 (w10.setCell ⟨w8.heap.size, 1, none⟩ (.slice Ao (shufOut a0 l1 l2 l3 l4 l5).length co)) := H10.out.2.2.2.2.2.setCell (Nat.le_refl _) _
              have hm11 := Kd.R_below HM8.out.1 hb11
              have hq11 : Kd.R k23 23 (w10.setCell ⟨w8.heap.size, 1, none⟩ (.slice Ao (shufOut a0 l1 l2 l3 l4 l5).length co)) w.heap.size (fun _ => True) (.slice Ao (shufOut a0 l1 l2 l3 l4 l5).length co) (shufOut a0 l1 l2 l3 l4 l5) := Kd.R_mono (Kd.R_far (p := ⟨w8.heap.size, 1, none⟩) (Kd.R_mono (Kd.R_lower (Kd.R_bound H10.out.2.1) (by have := HS10.out; have := HS8.out; omega)) (fun k hk => (⟨hk, by have := hk.2.1; have := HS10.out; omega⟩ : _ ∧ k ≠ w8.heap.size))) (fun _ hk => hk.2) _) (fun _ _ => trivial)
              generalize hw11 : w10.setCell ⟨w8.heap.size, 1, none⟩ (.slice Ao (shufOut a0 l1 l2 l3 l4 l5).length co) = w11 at hy11 hb11 hm11 hq11 ⊢
              obtain ⟨hask, hbl⟩ := shuf_ask HOK.out.1
              refine (ballot_Asked.calls A1 c1 l1 Am cm (shufMid a0 l1 l2 l4) Ao co (shufOut a0 l1 l2 l3 l4 l5) (shufBits a0 l1 l2 l3 l4 l5) 0 w11 (Kd.C_below HR.out.1 (HBW.out _ hb11)) HC.out.1 (Kd.C_below HM8.out.2.2 hb11) HM8.out.2.1 (Kd.R_reads' hq11).2.2 H10.out.2.2.1 (TabOk.below HT.out (HBW.out _ hb11)) (by unfold ballot_Asked.f; rw [hask])).mono ?_
              rintro e w12 ⟨vb, rfl, ho12, hb12⟩
              obtain ⟨g, cap, rfl, hg1, hg2, cells, hg3⟩ := Kd.R_form ho12 (by rw [hbl]; have := HN.out; omega)
              have hz12 : w8.heap.size < w12.heap.size := by have := HS10.out; have := hb11.size; have := hb12.size; have := hy11.lt; omega
              have hf12 : Fs w w12 w8.heap.size w12 := ⟨fun _ _ _ => rfl, (HBW.out _ hb11).trans (Below.mono hb12 (HBW.out _ hb11).size), Nat.le_refl _⟩
              have hm12 : Kd.R k23 23 w12 w.heap.size (fun k => k ≠ w8.heap.size) (.slice Am (shufMid a0 l1 l2 l4).length cm) (shufMid a0 l1 l2 l4) := Kd.R_mono (Kd.R_lower (Kd.R_below (Kd.R_below (Kd.R_mono (Kd.R_bound HM8.out.1) (fun k hk => (by have := hk.2.2.1; omega : k ≠ w8.heap.size))) hb11) hb12) (by have := HS8.out; omega)) (fun _ hk => hk)
              have ho12' : Kd.R k23 23 w12 w.heap.size (fun k => k ≠ w8.heap.size) (.slice Ao (shufOut a0 l1 l2 l3 l4 l5).length co) (shufOut a0 l1 l2 l3 l4 l5) := by
                have h1 := Kd.R_mono (Kd.R_far (p := ⟨w8.heap.size, 1, none⟩) (Kd.R_mono (Kd.R_lower (base' := w.heap.size) (Kd.R_bound H10.out.2.1) (by have := HS10.out; have := HS8.out; omega)) (fun k hk => (by have := hk.2.1; have := HS10.out; omega : k ≠ w8.heap.size))) (fun _ hk => hk) (.slice Ao (shufOut a0 l1 l2 l3 l4 l5).length co)) (fun _ hk => hk)
                rw [hw11] at h1
                exact Kd.R_below h1 hb12
              have hy12 := hy11.below hb12 hy11.lt
              have hcell : ∀ j : Nat, j < l1.length → ∀ W, Fs w w12 w8.heap.size W → W.cell? ⟨g, j, none⟩ = some (.bool (rdOf false (shufBits a0 l1 l2 l3 l4 l5) (j : Int))) := fun j hj W hW => by
                have h0 := (Kd.R_celln false ho12 (j : Int) (by omega) (by rw [hbl]; omega)).1
                rw [Int.toNat_natCast] at h0
                have h1 := hW.k g hg2 (by have := hy11.lt; omega)
                have e : W.cell? ⟨g, j, none⟩ = w12.cell? ⟨g, j, none⟩ := by simp [World.cell?, h1]
                exact e.trans h0
              have HCELL := Lib.hid hcell
              have H12 := Lib.hid (And.intro hf12 (And.intro hm12 (And.intro ho12' (And.intro hy12 hz12))))
              have hx11 : Blk w11 w.heap.size 28 [Value.slice none 0 0, Value.slice none 0 0, Value.slice none 0 0] := by
                rw [← hw11]
                exact HX10.out.other (by have := HS8.out; omega) 1 _
              have HX12 := Lib.hid (hx11.below hb12 hx11.lt)
              clear hx11
              have hlk : ∀ j, j < l1.length → (shufLinks a0 l1 l2 l3 l4 l5).take (j + 1) = (shufLinks a0 l1 l2 l3 l4 l5).take j ++ [linkAt l2 l3 l4 l5 (shufBits a0 l1 l2 l3 l4 l5) j] := fun j hj => by
                rw [List.take_add_one]
                simp [shufLinks, hj]
              have HLK := Lib.hid hlk
              have hll : (shufLinks a0 l1 l2 l3 l4 l5).length = l1.length := by simp [shufLinks]
              have HLL := Lib.hid hll
              rw [hbl]
              obtain ⟨_, _, p2, p3, p4, p5⟩ := shuf_parts HOK.out.1
              have HP := Lib.hid (And.intro p2 (And.intro p3 (And.intro p4 p5)))
              have HLE := Lib.hid (And.intro (order_spec p2).1 (And.intro (order_spec p3).1 (And.intro (exps_len p4) (exps_len p5))))
              clear hm12 hf12 ho12' ho12 hg1 hg2 cells hg3 hb12 hy12 hy11 hb11 hm11 hq11 hask hcell hz12 hlk hll hbl p2 p3 p4 p5 hw11
              obtain ⟨af, rfl, -⟩ := Kd.at_int HR.out.2.1 0 (by omega) (by have := HLE.out; have := HN.out; omega)
              obtain ⟨ar, rfl, -⟩ := Kd.at_int HR.out.2.2.2.1 0 (by omega) (by have := HLE.out; have := HN.out; omega)
              obtain ⟨as_, rfl, -⟩ := Kd.at_int HR.out.2.2.2.2 0 (by omega) (by have := HLE.out; have := HN.out; omega)
              have hrc : ∀ (A : Addr) (l : List Int) (i : Int), Kd.C (Kd.int .i64) w (some A) l.length l → 0 ≤ i → i < l.length → ∀ W, Below w.heap.size w W → W.cell? (A.add i.toNat) = some (.int .i64 (rd l i)) := fun A l i hC h0 h1 W hW => by
                obtain ⟨ad, e, h2⟩ := Kd.at_int (Kd.C_below hC hW) i h0 h1
                cases e
                exact h2
              have HRC := Lib.hid hrc
              clear hrc
              go_wp2_with fail
              go_loopw [83] (fun i wr => ∃ (j : Nat) (u : Value), j ≤ l1.length ∧ i = .int .i64 j ∧ Hid (Fs w w12 w8.heap.size wr) ∧ Hid (Blk wr w8.heap.size 28 [Value.slice Am (shufMid a0 l1 l2 l4).length cm, Value.slice Ao (shufOut a0 l1 l2 l3 l4 l5).length co, u]) ∧ Hid (Kd.R k53 53 wr w12.heap.size (fun _ => True) u ((shufLinks a0 l1 l2 l3 l4 l5).take j))) (fun i _ => l1.length - (intOf i).toNat)
              case atStart => exact ⟨0, _, Nat.zero_le _, rfl, H12.out.1, H12.out.2.2.2.1, Kd.R_nil _ _ _ _ _⟩
              case round =>
                obtain ⟨j, u, hj, rfl, hfs, hbk, hlr⟩ := hrel
                by_cases hlt : j < l1.length
                · have hca := HCELL.out j hlt wr hfs.out
                  have j0 : (0 : Int) ≤ (j : Int) := by omega
                  have j1 : (j : Int) < (l1.length : Int) := by omega
                  have j2 : (j : Int) < (l2.length : Int) := by have := HLE.out; omega
                  have j4 : (j : Int) < (l4.length : Int) := by have := HLE.out; omega
                  have q2 := fun W (hW : Held (Below w.heap.size w) W) => HRC.out af l2 (j : Int) HR.out.2.1 j0 j2 W hW
                  have q4 := fun W (hW : Held (Below w.heap.size w) W) => HRC.out ar l4 (j : Int) HR.out.2.2.2.1 j0 j4 W hW
                  simp only [Int.toNat_natCast] at q2 q4
                  have hF : ∀ f, Fence.wide.fn f := fun _ => trivial
                  go_wp2_with fail
                  refine (wpIn_wide (n := 3)).1 ?_
                  refine wpIn_region_auto (Below w.heap.size w) ((0, none, none) :: (0, none, none) :: (0, none, none) :: (0, none, none) :: (0, none, none) :: (0, none, none) :: (0, none, none) :: (0, none, none) :: (0, none, none) :: (0, none, none) :: (0, none, some true) :: (0, none, some false) :: []) hF (by kernel_rfl) (by kernel_rfl) (fun _ _ d _ _ h => by cases d <;> exact h) (hfs.out.b.drew) ?_
                  repeat' (first
                    | (with_reducible apply relI_pass
                       focus (intro W hW; first | (go_simp; exact rfl) | go_simp)
                       simp only [Act.put, List.setIfInBounds_toArray, List.set_cons_zero, List.set_cons_succ])
                    | (with_reducible apply relI_yes
                       focus (exact rfl))
                    | (with_reducible apply relI_no
                       focus (exact rfl)
                       simp only [Act.put, List.setIfInBounds_toArray, List.set_cons_zero, List.set_cons_succ])
                    | (with_reducible apply relI_askF
                       focus (exact rfl)
                       all_goals (intro hb; simp only [hb, Act.put, List.setIfInBounds_toArray, List.set_cons_zero, List.set_cons_succ]))
                    | (with_reducible apply relI_askT
                       focus (exact rfl)
                       all_goals (intro hb; simp only [hb, Act.put, List.setIfInBounds_toArray, List.set_cons_zero, List.set_cons_succ]))
                    | (with_reducible apply relI_front1)
                    | (with_reducible apply relI_front2)
                    | (with_reducible apply relI_front3)
                    | (with_reducible apply relI_front4)
                    | (with_reducible apply relI_front5)
                    | (with_reducible apply relI_front6))
                  apply relI_act hF rfl
                  intro K hK
                  go_simp
                  refine hK _ _ ⟨fun _ => (hfs.out.b.alloc hfs.out.b.size _).drew, ?_⟩
                  clear hK K
                  try simp only [Act.put, List.setIfInBounds_toArray, List.set_cons_zero, List.set_cons_succ]
                  repeat' (first
                    | (with_reducible apply relI_pass
                       focus (intro W hW; first | (go_simp; exact rfl) | go_simp)
                       simp only [Act.put, List.setIfInBounds_toArray, List.set_cons_zero, List.set_cons_succ])
                    | (with_reducible apply relI_yes
                       focus (exact rfl))
                    | (with_reducible apply relI_no
                       focus (exact rfl)
                       simp only [Act.put, List.setIfInBounds_toArray, List.set_cons_zero, List.set_cons_succ])
                    | (with_reducible apply relI_askF
                       focus (exact rfl)
                       all_goals (intro hb; simp only [hb, Act.put, List.setIfInBounds_toArray, List.set_cons_zero, List.set_cons_succ]))
                    | (with_reducible apply relI_askT
                       focus (exact rfl)
                       all_goals (intro hb; simp only [hb, Act.put, List.setIfInBounds_toArray, List.set_cons_zero, List.set_cons_succ]))
                    | (with_reducible apply relI_front1)
                    | (with_reducible apply relI_front2)
                    | (with_reducible apply relI_front3)
                    | (with_reducible apply relI_front4)
                    | (with_reducible apply relI_front5)
                    | (with_reducible apply relI_front6))
                  apply relI_act hF rfl
                  intro K hK
                  go_simp
                  refine hK _ _ ⟨fun h => (by cases h), ?_⟩
                  clear hK K
                  try simp only [Act.put, List.setIfInBounds_toArray, List.set_cons_zero, List.set_cons_succ]
                  apply relI_nil
                  simp only [Exit.then, Exit.inBlock]
                  have hxa := (Blk.new wr 53 [Value.int IntKind.i64 (rd l2 (j : Int)), Value.int IntKind.i64 (j : Int), Value.int IntKind.i64 (rd l4 (j : Int))]).drew
                  rw [show (List.toArray [Value.int IntKind.i64 (rd l2 (j : Int)), Value.int IntKind.i64 (j : Int), Value.int IntKind.i64 (rd l4 (j : Int))]) = #[Value.int IntKind.i64 (rd l2 (j : Int)), Value.int IntKind.i64 (j : Int), Value.int IntKind.i64 (rd l4 (j : Int))] from rfl] at hxa
                  have hba : Below wr.heap.size wr ((wr.alloc (Obj.cells #[Value.int IntKind.i64 (rd l2 (j : Int)), Value.int IntKind.i64 (j : Int), Value.int IntKind.i64 (rd l4 (j : Int))] 53)).drew) := ((Below.refl _ wr).alloc (Nat.le_refl _) _).drew
                  have hsa : ((wr.alloc (Obj.cells #[Value.int IntKind.i64 (rd l2 (j : Int)), Value.int IntKind.i64 (j : Int), Value.int IntKind.i64 (rd l4 (j : Int))] 53)).drew).heap.size = wr.heap.size + 1 := World.size_alloc _ _
                  generalize (wr.alloc (Obj.cells #[Value.int IntKind.i64 (rd l2 (j : Int)), Value.int IntKind.i64 (j : Int), Value.int IntKind.i64 (rd l4 (j : Int))] 53)).drew = wa at hxa hba hsa ⊢
                  have HA := Lib.hid (And.intro (hfs.out.below hba (Nat.le_refl _)) (And.intro (hbk.out.below hba hbk.out.lt) (And.intro hxa hsa)))
                  have HWR := Lib.hid (And.intro hfs.out.s hbk.out.lt)
                  have HRU := Lib.hid (Kd.R_below (Kd.R_mono (ok' := fun k => k ≠ wr.heap.size) (Kd.R_bound hlr.out) (fun k hk => Nat.ne_of_lt hk.2.2.1)) hba)
                  have HUB := Lib.hid (fun k (hk : u.ownBlock = some k) => (⟨Kd.R_base hlr.out k hk, Kd.R_lt hlr.out k hk⟩ : w12.heap.size ≤ k ∧ k < wr.heap.size))
                  clear hxa hba hsa q2 q4 hca hfs hbk hlr
                  obtain ⟨bit, hbit⟩ : ∃ b, rdOf false (shufBits a0 l1 l2 l3 l4 l5) (j : Int) = b := ⟨_, rfl⟩
                  rw [hbit]
                  have HBIT := Lib.hid hbit
                  clear hbit
                  cases bit with
                  | false =>
                    have e0 := HA.out.2.2.1.cell 0 _ rfl
                    have e1 := HA.out.2.2.1.cell 1 _ rfl
                    have e2 := HA.out.2.2.1.cell 2 _ rfl
                    have m2 := HA.out.2.1.cell 2 _ rfl
                    have m3 := HA.out.2.1.frozen 2
                    go_wp2_with ((with_reducible refine gate_builtin (b := .append) (xs := #[.tmp 110, .tmp 112]) rfl ?_); at_builtin; refine Stop.out ?_)
                    refine ⟨?_⟩
                    refine Kd.R_append_rows k53 (w0 := wa.alloc (Obj.cells #[Value.int IntKind.i64 (rd l2 (j : Int)), Value.int IntKind.i64 ((j : Int)), Value.int IntKind.i64 (rd l4 (j : Int))] 53)) w12.heap.size rfl (.tmp 110) (.tmp 112) 26 53 (.agg #[(.int .i64 0), (.int .i64 0), (.int .i64 0)]) 24 rfl Tryd.underlying26 info_l rfl (by decide) (by omega) u ((shufLinks a0 l1 l2 l3 l4 l5).take j) [(⟨rd l2 (j : Int), (j : Int), rd l4 (j : Int)⟩ : S53)] _ _ _ (fun _ => True) (fun _ => False) rfl rfl ?aO ?aR (fun _ _ h => h) (fun _ h => h.elim) (fun _ _ => trivial) ?aB ?aS ?aL ?_
                    case aO => exact Kd.R_alloc (Kd.R_mono (ok' := fun _ => True) HRU.out (fun _ _ => trivial)) _
                    case aR =>
                      have hp := C_parts (d := k53) wa [(⟨rd l2 (j : Int), (j : Int), rd l4 (j : Int)⟩ : S53)] [[.int .i64 (rd l2 (j : Int)), .int .i64 ((j : Int)), .int .i64 (rd l4 (j : Int))]] 53 (by simp) ⟨k53_mk _ _, trivial⟩
                      exact hp
                    case aB => exact Below.refl _ _
                    case aS => rw [World.size_alloc]; have := HA.out.1.s; omega
                    case aL => have := HN.out; rw [List.length_take]; omega
                    intro v6 w6 ho6 hb6 hg6 hat6
                    rw [show (⟨rd l2 (j : Int), (j : Int), rd l4 (j : Int)⟩ : S53) = linkAt l2 l3 l4 l5 (shufBits a0 l1 l2 l3 l4 l5) j from by unfold linkAt; rw [HBIT.out]; first | rfl | (rw [HQQ.out]; rfl), ← HLK.out j hlt] at ho6
                    obtain ⟨Lj, hLj⟩ : ∃ L, L = (shufLinks a0 l1 l2 l3 l4 l5).take (j + 1) := ⟨_, rfl⟩
                    rw [← hLj] at ho6
                    have HLJ := Lib.hid hLj
                    clear hLj
                    obtain ⟨Av, cv, hv6, -, -⟩ := Kd.R_reads ho6
                    have hf6 : Fs w w12 w8.heap.size w6 := (HA.out.1.below ((Below.refl wa.heap.size wa).alloc (Nat.le_refl _) _) (Nat.le_refl _)).grown hg6 (fun k hk => (HUB.out k hk).1) (by have := H12.out.2.2.2.2; have := HS8.out; omega)
                    have hy6 := (HA.out.2.1.alloc (Obj.cells #[Value.int IntKind.i64 (rd l2 (j : Int)), Value.int IntKind.i64 ((j : Int)), Value.int IntKind.i64 (rd l4 (j : Int))] 53)).grown hg6 (fun e => by have := HUB.out w8.heap.size e.symm; have := H12.out.2.2.2.2; omega)
                    have n2 := hy6.frozen 2
                    have n3 := hy6.cell 2 _ rfl
                    subst hv6
                    have HO6 := Lib.hid (And.intro ho6 (And.intro hf6 hy6))
                    clear ho6 hb6 hg6 hat6 hf6 hy6 e0 e1 e2 m2 m3
                    go_wp2_with fail
                    have HWJ := Lib.hid (show wrap64 ((j : Int) + 1) = ((j + 1 : Nat) : Int) by have := HN.out; unfold wrap64; omega)
                    refine ⟨⟨j + 1, _, by omega, by first | rw [HWJ.out] | rfl, HO6.out.2.1.set _ _ _ (Or.inl rfl) (by have := HS8.out; omega), HO6.out.2.2.set 2 _, ?_⟩, ?_⟩
                    · rw [← HLJ.out]
                      exact Kd.R_mono (Kd.R_far (p := ⟨w8.heap.size, 2, none⟩) (Kd.R_mono (Kd.R_bound HO6.out.1) (fun k hk => (by have := hk.2.1; have := H12.out.2.2.2.2; omega : k ≠ w8.heap.size))) (fun _ hk => hk) _) (fun _ _ => trivial)
                    try rw [HWJ.out]
                    simp only [intOf, Int.toNat_natCast]
                    omega
                  | true =>
                    obtain ⟨d0, d1, _⟩ := order_idx HP.out.2.1 hlt
                    have C := slices_Index_int_int.calls 100 A3 c3 l3 (j : Int) (idxI (j : Int) l3 0) wa (Kd.C_below HR.out.2.2.1 HA.out.1.b) HC.out.2.2.1 (index_f l3 (j : Int) (by have := HLE.out; have := HN.out; omega) 100 (by have := HLE.out; have := HN.out; omega))
                    have hq5 := fun W (hW : Below w.heap.size w W) => HRC.out as_ l5 (idxI (j : Int) l3 0) HR.out.2.2.2.2 d0 (by have := HLE.out; omega) W hW
                    have d2 : idxI (j : Int) l3 0 < (l5.length : Int) := by have := HLE.out; omega
                    obtain ⟨q, hq⟩ : ∃ q, q = idxI (j : Int) l3 0 := ⟨_, rfl⟩
                    rw [← hq] at C hq5 d0 d1 d2
                    have HQQ := Lib.hid hq
                    clear hq
                    go_wp2_with fail
                    refine C.mono ?_
                    clear C
                    rintro e wb ⟨rfl, hdb⟩
                    have hbb := hdb.below
                    have hyb := HA.out.2.1.below hbb HA.out.2.1.lt
                    have hxb := HA.out.2.2.1.below hbb HA.out.2.2.1.lt
                    have hfb := HA.out.1.below hbb (Nat.le_refl _)
                    have hru := Kd.R_below HRU.out hbb
                    have hq6 := hq5 wb hfb.b
                    have hfz := fun i => hxb.frozen i
                    have z0 := hfz 0
                    have z1 := hfz 1
                    have z2 := hfz 2
                    have y0 := hxb.cell 0 _ rfl
                    have y1 := hxb.cell 1 _ rfl
                    have y2 := hxb.cell 2 _ rfl
                    have HBB := Lib.hid (And.intro hfb (And.intro hyb (And.intro hxb hru)))
                    clear hfz hq5 hbb hyb hxb hfb hru hdb
                    go_wp2_with ((with_reducible refine gate_dst (N := 110) rfl ?_); refine Stop.out ?_)
                    have hxc := ((HBB.out.2.2.1.set 0 (.int .i64 (j : Int))).set 1 (.int .i64 q)).set 2 (.int .i64 (rd l5 q))
                    have hne : w8.heap.size ≠ wr.heap.size := by have := HWR.out; omega
                    have hyc := ((HBB.out.2.1.other hne 0 (.int .i64 (j : Int))).other hne 1 (.int .i64 q)).other hne 2 (.int .i64 (rd l5 q))
                    have hbs : w12.heap.size ≤ wr.heap.size ∧ w.heap.size ≤ wr.heap.size := by have := HWR.out; have := HS8.out; omega
                    have hfc := ((HBB.out.1.set wr.heap.size 0 (.int .i64 (j : Int)) (Or.inr hbs.1) hbs.2).set wr.heap.size 1 (.int .i64 q) (Or.inr hbs.1) hbs.2).set wr.heap.size 2 (.int .i64 (rd l5 q)) (Or.inr hbs.1) hbs.2
                    have hrc := Kd.R_far (p := ⟨wr.heap.size, 2, none⟩) (Kd.R_far (p := ⟨wr.heap.size, 1, none⟩) (Kd.R_far (p := ⟨wr.heap.size, 0, none⟩) HBB.out.2.2.2 (fun _ hk => hk) (.int .i64 (j : Int))) (fun _ hk => hk) (.int .i64 q)) (fun _ hk => hk) (.int .i64 (rd l5 q))
                    generalize ((wb.setCell ⟨wr.heap.size, 0, none⟩ (.int .i64 (j : Int))).setCell ⟨wr.heap.size, 1, none⟩ (.int .i64 q)).setCell ⟨wr.heap.size, 2, none⟩ (.int .i64 (rd l5 q)) = wc at hxc hyc hfc hrc ⊢
                    have e0 := hxc.cell 0 _ rfl
                    have e1 := hxc.cell 1 _ rfl
                    have e2 := hxc.cell 2 _ rfl
                    have m2 := hyc.cell 2 _ rfl
                    have m3 := hyc.frozen 2
                    have HCC := Lib.hid (And.intro hfc (And.intro hyc (Kd.R_mono (ok' := fun _ => True) hrc (fun _ _ => trivial))))
                    clear hxc hyc hfc hrc hne hbs z0 z1 z2 y0 y1 y2 hq6
                    refine ⟨?_⟩
                    go_wp2_with ((with_reducible refine gate_builtin (b := .append) (xs := #[.tmp 110, .tmp 112]) rfl ?_); at_builtin; refine Stop.out ?_)
                    refine ⟨?_⟩
                    refine Kd.R_append_rows k53 (w0 := wc.alloc (Obj.cells #[Value.int IntKind.i64 ((j : Int)), Value.int IntKind.i64 (q), Value.int IntKind.i64 (rd l5 q)] 53)) w12.heap.size rfl (.tmp 110) (.tmp 112) 26 53 (.agg #[(.int .i64 0), (.int .i64 0), (.int .i64 0)]) 24 rfl Tryd.underlying26 info_l rfl (by decide) (by omega) u ((shufLinks a0 l1 l2 l3 l4 l5).take j) [(⟨(j : Int), q, rd l5 q⟩ : S53)] _ _ _ (fun _ => True) (fun _ => False) rfl rfl ?aO ?aR (fun _ _ h => h) (fun _ h => h.elim) (fun _ _ => trivial) ?aB ?aS ?aL ?_
                    case aO => exact Kd.R_alloc HCC.out.2.2 _
                    case aR =>
                      have hp := C_parts (d := k53) wc [(⟨(j : Int), q, rd l5 q⟩ : S53)] [[.int .i64 ((j : Int)), .int .i64 (q), .int .i64 (rd l5 q)]] 53 (by simp) ⟨k53_mk _ _, trivial⟩
                      exact hp
                    case aB => exact Below.refl _ _
                    case aS => rw [World.size_alloc]; have := HCC.out.1.s; omega
                    case aL => have := HN.out; rw [List.length_take]; omega
                    intro v6 w6 ho6 hb6 hg6 hat6
                    rw [show (⟨(j : Int), q, rd l5 q⟩ : S53) = linkAt l2 l3 l4 l5 (shufBits a0 l1 l2 l3 l4 l5) j from by unfold linkAt; rw [HBIT.out]; first | rfl | (rw [HQQ.out]; rfl), ← HLK.out j hlt] at ho6
                    obtain ⟨Lj, hLj⟩ : ∃ L, L = (shufLinks a0 l1 l2 l3 l4 l5).take (j + 1) := ⟨_, rfl⟩
                    rw [← hLj] at ho6
                    have HLJ := Lib.hid hLj
                    clear hLj
                    obtain ⟨Av, cv, hv6, -, -⟩ := Kd.R_reads ho6
                    have hf6 : Fs w w12 w8.heap.size w6 := (HCC.out.1.below ((Below.refl wc.heap.size wc).alloc (Nat.le_refl _) _) (Nat.le_refl _)).grown hg6 (fun k hk => (HUB.out k hk).1) (by have := H12.out.2.2.2.2; have := HS8.out; omega)
                    have hy6 := (HCC.out.2.1.alloc (Obj.cells #[Value.int IntKind.i64 ((j : Int)), Value.int IntKind.i64 (q), Value.int IntKind.i64 (rd l5 q)] 53)).grown hg6 (fun e => by have := HUB.out w8.heap.size e.symm; have := H12.out.2.2.2.2; omega)
                    have n2 := hy6.frozen 2
                    have n3 := hy6.cell 2 _ rfl
                    subst hv6
                    have HO6 := Lib.hid (And.intro ho6 (And.intro hf6 hy6))
                    clear ho6 hb6 hg6 hat6 hf6 hy6 e0 e1 e2 m2 m3
                    go_wp2_with fail
                    have HWJ := Lib.hid (show wrap64 ((j : Int) + 1) = ((j + 1 : Nat) : Int) by have := HN.out; unfold wrap64; omega)
                    refine ⟨⟨j + 1, _, by omega, by first | rw [HWJ.out] | rfl, HO6.out.2.1.set _ _ _ (Or.inl rfl) (by have := HS8.out; omega), HO6.out.2.2.set 2 _, ?_⟩, ?_⟩
                    · rw [← HLJ.out]
                      exact Kd.R_mono (Kd.R_far (p := ⟨w8.heap.size, 2, none⟩) (Kd.R_mono (Kd.R_bound HO6.out.1) (fun k hk => (by have := hk.2.1; have := H12.out.2.2.2.2; omega : k ≠ w8.heap.size))) (fun _ hk => hk) _) (fun _ _ => trivial)
                    try rw [HWJ.out]
                    simp only [intOf, Int.toNat_natCast]
                    omega
                · obtain rfl : j = l1.length := by omega
                  have hlr2 := hlr.out
                  rw [List.take_of_length_le (by have := HLL.out; omega)] at hlr2
                  obtain ⟨Av, cv, rfl, -, -⟩ := Kd.R_reads hlr2
                  have hx0 := HX12.out
                  have hxr : Blk wr w.heap.size 28 [Value.slice none 0 0, Value.slice none 0 0, Value.slice none 0 0] := (hfs.out.k w.heap.size (Nat.lt_of_lt_of_le HX12.out.lt (Nat.le_refl _)) (by have := HS8.out; omega)).trans hx0
                  have y0 := hbk.out.cell 0 _ rfl
                  have y1 := hbk.out.cell 1 _ rfl
                  have y2 := hbk.out.cell 2 _ rfl
                  have f0 := hxr.frozen 0
                  have f1 := hxr.frozen 1
                  have f2 := hxr.frozen 2
                  have e0 := hxr.cell 0 _ rfl
                  have e1 := hxr.cell 1 _ rfl
                  have e2 := hxr.cell 2 _ rfl
                  have HZ := Lib.hid (And.intro hfs.out (And.intro hxr (And.intro (hfs.out.R H12.out.2.1) (And.intro (hfs.out.R H12.out.2.2.1) hlr2))))
                  clear hx0 hxr hlr2 hfs hbk hlr
                  go_wp2_with fail
                  refine bodyPost_ret (results_ct rfl _ _ w.heap.size 28 #[.slice Am (shufMid a0 l1 l2 l4).length cm, .slice Ao (shufOut a0 l1 l2 l3 l4 l5).length co, .slice Av (shufLinks a0 l1 l2 l3 l4 l5).length cv] (0, 0) _ rfl ?blk Tryd.underlying28 rfl (by kernel_rfl)) rfl ?_
                  case blk => exact ((HZ.out.2.1.set 0 _).set 1 _).set 2 _
                  have h1 := Kd.R_mono (ok' := fun k => k ≠ w.heap.size) (Kd.R_types HZ.out.2.2.1 HZ.out.2.1 (by decide)) (fun _ hk => hk.2)
                  have h2 := Kd.R_mono (ok' := fun k => k ≠ w.heap.size) (Kd.R_types HZ.out.2.2.2.1 HZ.out.2.1 (by decide)) (fun _ hk => hk.2)
                  have h3 := Kd.R_mono (ok' := fun k => k ≠ w.heap.size) (Kd.R_types HZ.out.2.2.2.2 HZ.out.2.1 (by decide)) (fun _ hk => hk.2)
                  have far : ∀ {α : Type} {d : Kd α} {e base : Nat} {W : World} {v : Value} {xs : List α} (x y z : Value), d.R e W base (fun k => k ≠ w.heap.size) v xs → d.R e (((W.setCell ⟨w.heap.size, 0, none⟩ x).setCell ⟨w.heap.size, 1, none⟩ y).setCell ⟨w.heap.size, 2, none⟩ z) base (fun _ => True) v xs := fun x y z h =>
                    Kd.R_mono (Kd.R_far (p := ⟨w.heap.size, 2, none⟩) (Kd.R_far (p := ⟨w.heap.size, 1, none⟩) (Kd.R_far (p := ⟨w.heap.size, 0, none⟩) h (fun _ hk => hk) x) (fun _ hk => hk) y) (fun _ hk => hk) z) (fun _ _ => trivial)
                  exact ⟨_, _, _, rfl, far _ _ _ h1, far _ _ _ h2, Kd.R_lower (far _ _ _ h3) (by have := HS8.out; have := H12.out.2.2.2.2; omega), ((HZ.out.1.b.setCell (Nat.le_refl _) _).setCell (Nat.le_refl _) _).setCell (Nat.le_refl _) _⟩
end Go.Proofs.YtkaebblbmoolaaaDoor.P
