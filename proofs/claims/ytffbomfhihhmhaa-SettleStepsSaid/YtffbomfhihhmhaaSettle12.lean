/- The law functions' own helpers: charge, head, within. -/
import Derived.Test.YtffbomfhihhmhaaSettle11
import Derived.Test.YtffbomfhihhmhaaSettle7
import Derived.Test.YtffbomfhihhmhaaBaseR
set_option linter.unusedSimpArgs false
set_option linter.unusedVariables false
namespace Go.Proofs.Ytffbomfhihhmhaa.Settle
open Go Go.RowKit Go.Shelf Go.Proofs.Ytffbomfhihhmhaa.Ord Go.Proofs.Ytffbomfhihhmhaa.OrdI Go.Proofs.Ytffbomfhihhmhaa.Base

theorem cells_len (x : Ch) : x.cells.length = 5 := rfl
set_option maxHeartbeats 1000000 in
theorem charge_calls (h c l u : Int) (w : World) : Calls Try.prog 18 #[.int .i64 h, .int .i64 c, .int .i64 l, .int .i64 u] w fun e w' => e = .returned (.agg #[.int .i64 h, .int .i64 c, .int .i64 l, .int .i64 u, .bool (l == u)]) ∧ Ext w w' := by
  go_enter Try.func18, Try.ntmps18
  go_wp2
  refine bodyPost_ret (results_cell_row (P := Try.prog) (p := 8) (ty := 36) rfl _ _ w.heap.size 36 _ (0, 0) _ rfl (heap_alloc_new w _) Try.underlying36 rfl (by kernel_rfl)) rfl ?_
  exact ⟨rfl, Ext.alloc _ _⟩

set_option maxHeartbeats 1000000 in
theorem withinL_calls (a b : List Ch) (A B : Option Addr) (c d : Nat) (w : World) (ha : a.length ≤ 9223372036854775807) (hb : b.length ≤ 9223372036854775807)
    (hA : RowsOf w 5 Ch.cells A a) (hB : RowsOf w 5 Ch.cells B b) :
    Calls Try.prog 16 #[.slice A a.length c, .slice B b.length d] w fun e w' => e = .returned (.bool (charges a && charges b && all2 hq a b && all2 wq a b)) ∧ Ext w w' := by
  have c1 := Within_calls a b A B c d w ha hb hA hB
  cases h1 : (!charges a || !charges b || !all2 hq a b) with
  | true =>
    rw [withinV_no h1] at c1
    have HV : Hid ((charges a && charges b && all2 hq a b && all2 wq a b) = false) := by
      unfold Hid
      cases h2 : charges a <;> cases h3 : charges b <;> cases h4 : all2 hq a b <;> simp_all
    clear h1
    go_enter Try.func16, Try.ntmps16
    go_wp2_with fail
    refine c1.mono ?_
    rintro e w1 ⟨rfl, hx1⟩
    go_wp2_with fail
    go_ret
    exact ⟨by rw [HV.out]; rfl, hx1⟩
  | false =>
    rw [withinV_yes h1] at c1
    have HV : Hid ((charges a && charges b && all2 hq a b && all2 wq a b) = all2 wq a b) := by
      unfold Hid
      cases h2 : charges a <;> cases h3 : charges b <;> cases h4 : all2 hq a b <;> simp_all
    clear h1
    go_enter Try.func16, Try.ntmps16
    go_wp2_with fail
    refine c1.mono ?_
    rintro e w1 ⟨rfl, hx1⟩
    cases hw : all2 wq a b
    all_goals
      go_wp2_with fail
      go_ret
      exact ⟨by rw [HV.out, hw]; rfl, hx1⟩

def k1 : Ch := ⟨3, 500, 400, 600, false⟩
def k2 : Ch := ⟨1, 300, 300, 300, true⟩
def k3 : Ch := ⟨3, 450, 440, 460, false⟩
def k4 : Ch := ⟨1, 5, 6, 7, false⟩
def k5 : Ch := ⟨3, -50, -60, -40, false⟩
def k6 : Ch := ⟨1, 0, 0, 0, true⟩
theorem hs1 : settleS [k1, k2] [k3, k2] 200 250 = ⟨[k5, k6], 50, 0⟩ := by kernel_rfl
theorem hs2 : settleS [k3, k2] [k1, k2] 250 200 = ⟨[], 0, 3⟩ := by kernel_rfl
theorem hs3 : settleS [k1, k2] [k3, k2] 200 249 = ⟨[], 0, 32⟩ := by kernel_rfl
theorem ht1 : totalV [k1, k2] = .tuple #[.int .i64 800, .int .i64 0] := by kernel_rfl
theorem ht2 : totalV [k4] = .tuple #[.int .i64 0, .int .i64 1] := by kernel_rfl
theorem hw1 : withinV [k3, k2] [k1, k2] = .tuple #[.bool false, .int .i64 0] := by kernel_rfl
theorem hm1 : all2 chEq [k5, k6] [k5, k6] = true := by kernel_rfl

set_option maxRecDepth 100000 in
set_option maxHeartbeats 4000000 in
theorem head_calls (w : World) : Calls Try.prog 8 #[] w fun e w' => e = .returned (.bool true) ∧ Ext w w' := by
  have r1 := fun W => rows_new cells_len W [k1, k2] [.int .i64 3, .int .i64 500, .int .i64 400, .int .i64 600, .bool false, .int .i64 1, .int .i64 300, .int .i64 300, .int .i64 300, .bool true] 36 rfl
  have r2 := fun W => rows_new cells_len W [k3, k2] [.int .i64 3, .int .i64 450, .int .i64 440, .int .i64 460, .bool false, .int .i64 1, .int .i64 300, .int .i64 300, .int .i64 300, .bool true] 36 rfl
  have r3 := fun W => rows_new cells_len W [k4] [.int .i64 1, .int .i64 5, .int .i64 6, .int .i64 7, .bool false] 36 rfl
  have r4 := fun W => rows_new cells_len W [k5, k6] [.int .i64 3, .int .i64 (-50), .int .i64 (-60), .int .i64 (-40), .bool false, .int .i64 1, .int .i64 0, .int .i64 0, .int .i64 0, .bool true] 36 rfl
  go_enter Try.func8, Try.ntmps8
  go_wp2_with fail
  refine (charge_calls 3 500 400 600 w).mono ?_
  rintro e w1 ⟨rfl, hx1⟩
  go_wp2_with fail
  refine (charge_calls 1 300 300 300 w1).mono ?_
  rintro e w2 ⟨rfl, hx2⟩
  go_wp2_with fail
  have R1 := r1 w2
  obtain ⟨W2, hW2⟩ : ∃ W2, w2.alloc (.cells #[.int .i64 3, .int .i64 500, .int .i64 400, .int .i64 600, .bool false, .int .i64 1, .int .i64 300, .int .i64 300, .int .i64 300, .bool true] 36) = W2 := ⟨_, rfl⟩
  have x2 : Ext w2 W2 := hW2 ▸ Ext.alloc _ _
  rw [hW2] at R1 ⊢
  clear hW2 r1
  refine (charge_calls 3 450 440 460 W2).mono ?_
  rintro e w3 ⟨rfl, hx3⟩
  go_wp2_with fail
  refine (charge_calls 1 300 300 300 w3).mono ?_
  rintro e w4 ⟨rfl, hx4⟩
  go_wp2_with fail
  have R2 := r2 w4
  obtain ⟨W4, hW4⟩ : ∃ W4, w4.alloc (.cells #[.int .i64 3, .int .i64 450, .int .i64 440, .int .i64 460, .bool false, .int .i64 1, .int .i64 300, .int .i64 300, .int .i64 300, .bool true] 36) = W4 := ⟨_, rfl⟩
  have x4 : Ext w4 W4 := hW4 ▸ Ext.alloc _ _
  rw [hW4] at R2 ⊢
  clear hW4 r2
  have R1 := R1.ext ((hx3.trans hx4).trans x4)
  refine (Settle_calls [k1, k2] [k3, k2] 200 250 _ _ 2 2 W4 (by simp) (by simp) R1 R2).mono ?_
  rw [hs1]
  rintro e w5 ⟨v1, rfl, hown, hx5⟩
  obtain ⟨A1, c1, rfl, R3⟩ := own_rows cells_len hown rfl
  go_wp2_with fail
  have X1 := hx5
  refine (total_calls [k1, k2] _ 2 w5 (by simp) (R1.ext X1)).mono ?_
  rw [ht1]
  rintro e w6 ⟨rfl, hx6⟩
  go_wp2_with fail
  have X2 := X1.trans hx6
  refine (Within_calls [k3, k2] [k1, k2] _ _ 2 2 w6 (by simp) (by simp) (R2.ext X2) (R1.ext X2)).mono ?_
  rw [hw1]
  rintro e w7 ⟨rfl, hx7⟩
  go_wp2_with fail
  have X3 := X2.trans hx7
  refine (Settle_calls [k3, k2] [k1, k2] 250 200 _ _ 2 2 w7 (by simp) (by simp) (R2.ext X3) (R1.ext X3)).mono ?_
  rw [hs2]
  rintro e w8 ⟨v2, rfl, _, hx8⟩
  go_wp2_with fail
  have X4 := X3.trans hx8
  refine (Settle_calls [k1, k2] [k3, k2] 200 249 _ _ 2 2 w8 (by simp) (by simp) (R1.ext X4) (R2.ext X4)).mono ?_
  rw [hs3]
  rintro e w9 ⟨v3, rfl, _, hx9⟩
  go_wp2_with fail
  refine (charge_calls 1 5 6 7 w9).mono ?_
  rintro e w10 ⟨rfl, hx10⟩
  go_wp2_with fail
  have R4 := r3 w10
  refine (total_calls [k4] _ 1 _ (by simp) R4).mono ?_
  rw [ht2]
  rintro e w11 ⟨rfl, hx11⟩
  go_wp2_with fail
  refine (charge_calls 3 (-50) (-60) (-40) w11).mono ?_
  rintro e w12 ⟨rfl, hx12⟩
  go_wp2_with fail
  refine (charge_calls 1 0 0 0 w12).mono ?_
  rintro e w13 ⟨rfl, hx13⟩
  go_wp2_with fail
  have R5 := r4 w13
  have Y : Ext w5 w13 := ((((hx6.trans hx7).trans hx8).trans hx9).trans (hx10.trans ((Ext.alloc _ _).trans hx11))).trans (hx12.trans hx13)
  refine (SameR_calls [k5, k6] [k5, k6] _ _ c1 2 _ (by simp) (by simp) (R3.ext (Y.trans (Ext.alloc _ _))) R5).mono ?_
  rw [hm1]
  rintro e w14 ⟨rfl, hx14⟩
  go_wp2_with fail
  go_ret
  exact ⟨rfl, (((hx1.trans hx2).trans x2).trans ((hx3.trans hx4).trans x4)).trans (hx5.trans (Y.trans ((Ext.alloc _ _).trans hx14)))⟩
end Go.Proofs.Ytffbomfhihhmhaa.Settle
