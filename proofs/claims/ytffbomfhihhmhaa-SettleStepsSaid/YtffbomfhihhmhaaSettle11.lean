/- The walk of package settle's Settle. -/
import Derived.Test.YtffbomfhihhmhaaSettle10
set_option linter.unusedSimpArgs false
set_option linter.unusedVariables false
namespace Go.Proofs.Ytffbomfhihhmhaa.Settle
open Go Go.RowKit Go.Shelf Go.Proofs.Ytffbomfhihhmhaa.Ord Go.Proofs.Ytffbomfhihhmhaa.OrdI Go.Proofs.Ytffbomfhihhmhaa.Base

set_option maxHeartbeats 1000000 in
theorem set_err {w W : World} {r : SetR} {e : Int} {a : Act} (ha : a.defers = []) (h8 : a.tmps[8]?.getD undef = .pointer (some ⟨w.heap.size, 0, none⟩)) (h9 : a.tmps[9]?.getD undef = .pointer (some ⟨w.heap.size + 1, 0, none⟩)) (h10 : a.tmps[10]?.getD undef = .pointer (some ⟨w.heap.size + 1 + 1, 0, none⟩))
    (k8 : Boxed W w.heap.size 22 (.slice none 0 0)) (k9 : Boxed W (w.heap.size + 1) 3 (.int .i64 0)) (k10 : Boxed W (w.heap.size + 1 + 1) 24 (.int .i64 0)) (hx : Ext w W) (hr : r = ⟨[], 0, e⟩) :
    bodyPost Try.prog Try.f9 (SetPost w r) .ret a (((W.setCell ⟨w.heap.size, 0, none⟩ (.slice none 0 0)).setCell ⟨w.heap.size + 1, 0, none⟩ (.int .i64 0)).setCell ⟨w.heap.size + 1 + 1, 0, none⟩ (.int .i64 e)) := by
  have m8 := ((k8.set (.slice none 0 0)).other (B' := w.heap.size + 1) (by omega) (.int .i64 0)).other (B' := w.heap.size + 1 + 1) (by omega) (.int .i64 e)
  have m9 := ((k9.other (B' := w.heap.size) (by omega) (.slice none 0 0)).set (.int .i64 0)).other (B' := w.heap.size + 1 + 1) (by omega) (.int .i64 e)
  have m10 := ((k10.other (B' := w.heap.size) (by omega) (.slice none 0 0)).other (B' := w.heap.size + 1) (by omega) (.int .i64 0)).set (.int .i64 e)
  have u8 := m8.cell
  have u9 := m9.cell
  have u10 := m10.cell
  refine bodyPost_ret (v := .tuple #[.slice none 0 0, .int .i64 0, .int .i64 e]) ?_ ha ?_
  · simp [results, Try.f9, go_sem, u8, u9, u10, h8, h9, h10]
  · exact setPost_err hr (((hx.set (p := ⟨w.heap.size, 0, none⟩) (Nat.le_refl _) _).set (p := ⟨w.heap.size + 1, 0, none⟩) (by simp) _).set (p := ⟨w.heap.size + 1 + 1, 0, none⟩) (by simp; omega) _)

set_option maxRecDepth 100000 in
set_option maxHeartbeats 4000000 in
theorem Settle_calls (a b : List Ch) (ho hn : Int) (A B : Option Addr) (c d : Nat) (w : World) (ha : a.length ≤ 9223372036854775807) (hb : b.length ≤ 9223372036854775807)
    (hA : RowsOf w 5 Ch.cells A a) (hB : RowsOf w 5 Ch.cells B b) :
    Calls Try.prog 9 #[.slice A a.length c, .slice B b.length d, .int .i64 ho, .int .i64 hn] w (SetPost w (settleS a b ho hn)) := by
  obtain ⟨W0, e0, x0, s0, b8, b9, b10⟩ := three_boxes w
  have HS0 := Lib.hid s0
  clear s0
  cases h1 : (!charges a || !charges b || !all2 hq a b) with
  | true =>
    have HV : Hid (settleS a b ho hn = ⟨[], 0, 1⟩) := by unfold Hid settleS; rw [h1]; rfl
    have c1 := pairs_no a b A B c d W0 ha hb (hA.ext x0) (hB.ext x0) h1
    clear h1
    go_enter Try.func9, Try.ntmps9
    go_wp2_with fail
    refine c1.mono ?_
    rintro e w1 ⟨rfl, hx1⟩
    have z8 := boxed_ext b8 hx1
    have z9 := boxed_ext b9 hx1
    have z10 := boxed_ext b10 hx1
    have r8 := z8.cell
    have g8 := z8.frozen
    have r9 := z9.cell
    have g9 := z9.frozen
    have r10 := z10.cell
    have g10 := z10.frozen
    go_wp2_with fail
    exact set_err rfl rfl rfl rfl z8 z9 z10 (x0.trans hx1) HV.out
  | false =>
    have hg : charges a = true ∧ charges b = true ∧ all2 hq a b = true := by simpa [and_assoc] using h1
    have c1 := pairs_yes a b A B c d W0 ha hb (hA.ext x0) (hB.ext x0) hg.1 hg.2.1 hg.2.2
    have i1 := fun W => f20 [ho, hn] (some ⟨W.heap.size, 0, none⟩) 2 (W.alloc (.cells #[.int .i64 ho, .int .i64 hn] 3)) (by simp) (elems_new W _ _)
    cases h2 : (!amt ho || !amt hn) with
    | true =>
      have HV : Hid (settleS a b ho hn = ⟨[], 0, 1⟩) := by
        unfold Hid settleS
        rw [if_pos (by simp only [h1, Bool.false_or]; exact h2)]
      have hall : [ho, hn].all amt = false := by
        rw [← Bool.not_and, Bool.not_eq_true'] at h2
        simpa using h2
      rw [hall] at i1
      clear h1 h2 hall hg
      go_enter Try.func9, Try.ntmps9
      go_wp2_with fail
      refine c1.mono ?_
      rintro e w1 ⟨rfl, hx1, hs1, q0, q1⟩
      go_wp2_with fail
      refine (i1 w1).mono ?_
      rintro e w2 ⟨rfl, hx2⟩
      have hx3 : Ext W0 w2 := hx1.trans ((Ext.alloc _ _).trans hx2)
      have z8 := boxed_ext b8 hx3
      have z9 := boxed_ext b9 hx3
      have z10 := boxed_ext b10 hx3
      have r8 := z8.cell
      have g8 := z8.frozen
      have r9 := z9.cell
      have g9 := z9.frozen
      have r10 := z10.cell
      have g10 := z10.frozen
      go_wp2_with fail
      exact set_err rfl rfl rfl rfl z8 z9 z10 (x0.trans hx3) HV.out
    | false =>
      have h3 : amt ho = true ∧ amt hn = true := by simpa using h2
      obtain ⟨e1, e2⟩ := h3
      have hcond : (!charges a || !charges b || !all2 hq a b || !amt ho || !amt hn) = false := by simp [h1, e1, e2]
      have hlen := all2_eq_len hg.2.2
      obtain ⟨la, ra⟩ := charges_right hg.1
      obtain ⟨lb, rb⟩ := charges_right hg.2.1
      have bo : -1000000000 ≤ ho ∧ ho ≤ 1000000000 := by unfold amt at e1; simpa using e1
      have bn : -1000000000 ≤ hn ∧ hn ≤ 1000000000 := by unfold amt at e2; simpa using e2
      have c2 := fun w1 (h : Ext W0 w1) h1 h2 h3 h4 => within_calls a b A B c d W0.heap.size (W0.heap.size + 1) w w1 hlen la hA hB (x0.trans h) h1 h2 h3 h4
      have s1 := fun W (h : Ext w W) => sum_calls a ho A c W la bo (fun x hx => by have := ra x hx; unfold chRight at this; omega) (hA.ext h)
      have s2 := fun W (h : Ext w W) => sum_calls b hn B d W lb bn (fun x hx => by have := rb x hx; unfold chRight at this; omega) (hB.ext h)
      have i2 := fun W => f20 [hn - ho] (some ⟨W.heap.size, 0, none⟩) 1 (W.alloc (.cells #[.int .i64 (hn - ho)] 3)) (by simp) (elems_new W _ _)
      simp only [List.all_cons, List.all_nil, Bool.and_true, e1, e2] at i1 i2
      cases h4 : all2 wq a b with
      | false =>
        have HV : Hid (settleS a b ho hn = ⟨[], 0, 3⟩) := by
          unfold Hid settleS
          rw [hcond, h4]
          rfl
        rw [h4] at c2
        clear h1 h2 e1 e2 hcond h4 hg hlen ra rb
        go_enter Try.func9, Try.ntmps9
        go_wp2_with fail
        refine c1.mono ?_
        rintro e w1 ⟨rfl, hx1, hs1, q0, q1⟩
        go_wp2_with fail
        refine (i1 w1).mono ?_
        rintro e w2 ⟨rfl, hx2⟩
        have hx2' : Ext w1 w2 := (Ext.alloc _ _).trans hx2
        have c2' := c2 w2 (hx1.trans hx2') (by have := hx2'.size; omega) (by have := hx2'.size; omega) ((hx2'.cell (p := ⟨W0.heap.size, 0, none⟩) (by simp; omega)).trans q0) ((hx2'.cell (p := ⟨W0.heap.size + 1, 0, none⟩) (by simp; omega)).trans q1)
        go_wp2_with fail
        refine c2'.mono ?_
        rintro e w3 ⟨rfl, hx3⟩
        have hy : Ext W0 w3 := (hx1.trans hx2').trans hx3
        have z8 := boxed_ext b8 hy
        have z9 := boxed_ext b9 hy
        have z10 := boxed_ext b10 hy
        have r8 := z8.cell
        have g8 := z8.frozen
        have r9 := z9.cell
        have g9 := z9.frozen
        have r10 := z10.cell
        have g10 := z10.frozen
        go_wp2_with fail
        exact set_err rfl rfl rfl rfl z8 z9 z10 (x0.trans hy) HV.out
      | true =>
        by_cases h5 : cs a + ho = cs b + hn
        · cases h6 : amt (hn - ho) with
          | true =>
            have HV : Hid (settleS a b ho hn = if !(all2 difOk a b) then ⟨[], 0, 3⟩ else ⟨difs a b, hn - ho, 0⟩) := by
              unfold Hid settleS
              rw [hcond, h4]
              simp [h5, h6]
            exact Settle_go a b ho hn A B c d w ha hb hA hB (Lib.hid hg) e1 e2 h6 h4 h5 HV
          | false =>
            have HV : Hid (settleS a b ho hn = ⟨[], 0, 3⟩) := by
              unfold Hid settleS
              rw [hcond, h4]
              simp [h5, h6]
            rw [h4] at c2
            rw [Int.add_comm ho, h5, Int.add_comm] at s1
            rw [h6] at i2
            obtain ⟨bo1, bo2⟩ := bo
            obtain ⟨bn1, bn2⟩ := bn
            clear h1 h2 e1 e2 hcond h4 hg hlen ra rb h5 h6
            go_enter Try.func9, Try.ntmps9
            go_wp2_with fail
            refine c1.mono ?_
            rintro e w1 ⟨rfl, hx1, hs1, q0, q1⟩
            go_wp2_with fail
            refine (i1 w1).mono ?_
            rintro e w2 ⟨rfl, hx2⟩
            have hx2' : Ext w1 w2 := (Ext.alloc _ _).trans hx2
            have c2' := c2 w2 (hx1.trans hx2') (by have := hx2'.size; omega) (by have := hx2'.size; omega) ((hx2'.cell (p := ⟨W0.heap.size, 0, none⟩) (by simp; omega)).trans q0) ((hx2'.cell (p := ⟨W0.heap.size + 1, 0, none⟩) (by simp; omega)).trans q1)
            go_wp2_with fail
            refine c2'.mono ?_
            rintro e w3 ⟨rfl, hx3⟩
            have hy3 : Ext W0 w3 := (hx1.trans hx2').trans hx3
            clear c2'
            go_wp2_with fail
            refine (s1 w3 (x0.trans hy3)).mono ?_
            rintro e w4 ⟨rfl, hx4⟩
            go_wp2_with fail
            refine (s2 w4 (x0.trans (hy3.trans hx4))).mono ?_
            rintro e w5 ⟨rfl, hx5⟩
            go_wp2_with fail
            refine (i2 w5).mono ?_
            rintro e w6 ⟨rfl, hx6⟩
            have hy : Ext W0 w6 := ((hy3.trans hx4).trans hx5).trans ((Ext.alloc _ _).trans hx6)
            have z8 := boxed_ext b8 hy
            have z9 := boxed_ext b9 hy
            have z10 := boxed_ext b10 hy
            have r8 := z8.cell
            have g8 := z8.frozen
            have r9 := z9.cell
            have g9 := z9.frozen
            have r10 := z10.cell
            have g10 := z10.frozen
            go_wp2_with fail
            exact set_err rfl rfl rfl rfl z8 z9 z10 (x0.trans hy) HV.out
        · have HV : Hid (settleS a b ho hn = ⟨[], 0, 32⟩) := by
            unfold Hid settleS
            rw [hcond, h4]
            simp [h5]
          have h5' : (ho + cs a != hn + cs b) = true := by simp; omega
          rw [h4] at c2
          clear h1 h2 e1 e2 hcond h4 hg hlen ra rb h5
          go_enter Try.func9, Try.ntmps9
          go_wp2_with fail
          refine c1.mono ?_
          rintro e w1 ⟨rfl, hx1, hs1, q0, q1⟩
          go_wp2_with fail
          refine (i1 w1).mono ?_
          rintro e w2 ⟨rfl, hx2⟩
          have hx2' : Ext w1 w2 := (Ext.alloc _ _).trans hx2
          have c2' := c2 w2 (hx1.trans hx2') (by have := hx2'.size; omega) (by have := hx2'.size; omega) ((hx2'.cell (p := ⟨W0.heap.size, 0, none⟩) (by simp; omega)).trans q0) ((hx2'.cell (p := ⟨W0.heap.size + 1, 0, none⟩) (by simp; omega)).trans q1)
          go_wp2_with fail
          refine c2'.mono ?_
          rintro e w3 ⟨rfl, hx3⟩
          have hy3 : Ext W0 w3 := (hx1.trans hx2').trans hx3
          clear c2'
          go_wp2_with fail
          refine (s1 w3 (x0.trans hy3)).mono ?_
          rintro e w4 ⟨rfl, hx4⟩
          go_wp2_with fail
          refine (s2 w4 (x0.trans (hy3.trans hx4))).mono ?_
          rintro e w5 ⟨rfl, hx5⟩
          have hy : Ext W0 w5 := (hy3.trans hx4).trans hx5
          have z8 := boxed_ext b8 hy
          have z9 := boxed_ext b9 hy
          have z10 := boxed_ext b10 hy
          have r8 := z8.cell
          have g8 := z8.frozen
          have r9 := z9.cell
          have g9 := z9.frozen
          have r10 := z10.cell
          have g10 := z10.frozen
          go_wp2_with fail
          exact set_err rfl rfl rfl rfl z8 z9 z10 (x0.trans hy) HV.out
end Go.Proofs.Ytffbomfhihhmhaa.Settle
