/- The law SettleMatchesReference, walked. -/
import Derived.Test.YtffbomfhihhmhaaSettle12
set_option linter.unusedSimpArgs false
set_option linter.unusedVariables false
namespace Go.Proofs.Ytffbomfhihhmhaa.Settle
open Go Go.RowKit Go.Shelf Go.Proofs.Ytffbomfhihhmhaa.Ord Go.Proofs.Ytffbomfhihhmhaa.OrdI Go.Proofs.Ytffbomfhihhmhaa.Base

theorem chEq_refl (x : Ch) : chEq x x = true := by simp [chEq]
theorem all2_refl : ∀ (l : List Ch), all2 chEq l l = true
  | [] => rfl
  | x :: l => by simp [all2, chEq_refl, all2_refl l]
theorem difs_le : ∀ (a b : List Ch), (difs a b).length ≤ a.length
  | [], _ => by simp [difs]
  | _ :: _, [] => by simp [difs]
  | x :: a, y :: b => by simpa [difs] using difs_le a b
theorem settle_le (a b : List Ch) (ho hn : Int) : (settleS a b ho hn).l.length ≤ a.length := by
  unfold settleS
  repeat' split
  all_goals first | exact Nat.zero_le _ | exact difs_le a b
theorem totalV_two (l : List Ch) : ∃ p q, totalV l = .tuple #[.int .i64 p, .int .i64 q] := by
  unfold totalV addV
  split
  · split <;> exact ⟨_, _, rfl⟩
  · exact ⟨_, _, rfl⟩
theorem withinV_two (a b : List Ch) : ∃ p q, withinV a b = .tuple #[.bool p, .int .i64 q] := by
  unfold withinV
  split <;> exact ⟨_, _, rfl⟩

set_option maxRecDepth 100000 in
set_option maxHeartbeats 4000000 in
theorem law_calls (a b : List Ch) (ho hn : Int) (A B : Option Addr) (c d : Nat) (w : World) (ha : a.length ≤ 9223372036854775807) (hb : b.length ≤ 9223372036854775807)
    (hA : RowsOf w 5 Ch.cells A a) (hB : RowsOf w 5 Ch.cells B b) :
    Calls Try.prog 3 #[.slice A a.length c, .slice B b.length d, .int .i64 ho, .int .i64 hn] w fun e w' => e = .returned (.bool true) ∧ Ext w w' := by
  have s1 := fun W (h : Ext w W) => Settle_calls a b ho hn A B c d W ha hb (hA.ext h) (hB.ext h)
  have s2 := fun W (h : Ext w W) => SettleR_calls a b ho hn A B c d W ha hb (hA.ext h) (hB.ext h)
  have t1 := fun W (h : Ext w W) => total_calls a A c W ha (hA.ext h)
  have t2 := fun W (h : Ext w W) => TotalR_calls a A c W ha (hA.ext h)
  have w1 := fun W (h : Ext w W) => Within_calls a b A B c d W ha hb (hA.ext h) (hB.ext h)
  have w2 := fun W (h : Ext w W) => WithinR_calls a b A B c d W ha hb (hA.ext h) (hB.ext h)
  obtain ⟨p, q, hpq⟩ := totalV_two a
  obtain ⟨p', q', hpq'⟩ := withinV_two a b
  rw [hpq] at t1 t2
  rw [hpq'] at w1 w2
  clear hpq hpq'
  have hl := Nat.le_trans (settle_le a b ho hn) ha
  generalize settleS a b ho hn = r at *
  go_enter Try.func3, Try.ntmps3
  go_wp2_with fail
  refine (head_calls w).mono ?_
  rintro e W1 ⟨rfl, X1⟩
  go_wp2_with fail
  · go_ret
    exact ⟨rfl, X1⟩
  · refine (s1 W1 X1).mono ?_
    rintro e W2 ⟨v1, rfl, hown1, hx2⟩
    obtain ⟨A1, c1, rfl, R1⟩ := own_rows cells_len hown1 rfl
    have X2 := X1.trans hx2
    go_wp2_with fail
    refine (s2 W2 X2).mono ?_
    rintro e W3 ⟨v2, rfl, hown2, hx3⟩
    obtain ⟨A2, c2, rfl, R2⟩ := own_rows cells_len hown2 rfl
    have X3 := X2.trans hx3
    have m1 := SameR_calls r.l r.l A1 A2 c1 c2 W3 hl hl (R1.ext hx3) R2
    rw [all2_refl] at m1
    clear hown1 hown2 R1 R2
    go_wp2_with fail
    refine m1.mono ?_
    rintro e W4 ⟨rfl, hx4⟩
    have X4 := X3.trans hx4
    go_wp2_with fail
    refine (t1 W4 X4).mono ?_
    rintro e W5 ⟨rfl, hx5⟩
    have X5 := X4.trans hx5
    go_wp2_with fail
    refine (t2 W5 X5).mono ?_
    rintro e W6 ⟨rfl, hx6⟩
    have X6 := X5.trans hx6
    go_wp2_with fail
    refine (w1 W6 X6).mono ?_
    rintro e W7 ⟨rfl, hx7⟩
    have X7 := X6.trans hx7
    go_wp2_with fail
    refine (w2 W7 X7).mono ?_
    rintro e W8 ⟨rfl, hx8⟩
    have X8 := X7.trans hx8
    go_wp2_with fail
    all_goals (go_ret; exact ⟨by simp_all, X8⟩)
  · go_ret
    exact ⟨rfl, X1⟩
end Go.Proofs.Ytffbomfhihhmhaa.Settle
