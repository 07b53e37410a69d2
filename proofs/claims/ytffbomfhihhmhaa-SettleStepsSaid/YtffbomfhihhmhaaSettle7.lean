/- The walk of the reference's Settle. -/
import Derived.Test.YtffbomfhihhmhaaSettle7a
set_option linter.unusedSimpArgs false
set_option linter.unusedVariables false
namespace Go.Proofs.Ytffbomfhihhmhaa.Settle
open Go Go.RowKit Go.Shelf Go.Proofs.Ytffbomfhihhmhaa.Ord Go.Proofs.Ytffbomfhihhmhaa.Base

set_option maxHeartbeats 4000000 in
theorem SettleR_calls (a b : List Ch) (ho hn : Int) (A B : Option Addr) (c d : Nat) (w : World) (ha : a.length ≤ 9223372036854775807) (hb : b.length ≤ 9223372036854775807)
    (hA : RowsOf w 5 Ch.cells A a) (hB : RowsOf w 5 Ch.cells B b) :
    Calls Try.prog 10 #[.slice A a.length c, .slice B b.length d, .int .i64 ho, .int .i64 hn] w (SetPost w (settleS a b ho hn)) := by
  have c1 := WithinR_calls a b A B c d w ha hb hA hB
  cases h1 : (!charges a || !charges b || !all2 hq a b) with
  | true =>
    have HV : Hid (settleS a b ho hn = ⟨[], 0, 1⟩) := by unfold Hid settleS; rw [h1]; rfl
    rw [withinV_no h1] at c1
    clear h1
    go_enter Try.func10, Try.ntmps10
    go_wp2_with (go_at_call 15; refine c1.mono ?_; rintro e w1 ⟨rfl, hx1⟩)
    go_ret3
    exact setPost_err HV.out hx1
  | false =>
    rw [withinV_yes h1] at c1
    have hg : charges a = true ∧ charges b = true ∧ all2 hq a b = true := by simpa [and_assoc] using h1
    have HG := Lib.hid hg
    clear hg
    cases h2 : (!amt ho || !amt hn) with
    | true =>
      have HV : Hid (settleS a b ho hn = ⟨[], 0, 1⟩) := by
        unfold Hid settleS
        rw [if_pos (by simp only [h1, Bool.false_or]; exact h2)]
      have H2 := Lib.hid h2
      clear h1 h2
      go_enter Try.func10, Try.ntmps10
      go_wp2_with fail
      refine c1.mono ?_
      rintro e w1 ⟨rfl, hx1⟩
      cases e1 : amt ho <;> cases e2 : amt hn
      all_goals
        have m1 := amountR_calls ho w1
        have m2 := amountR_calls hn w1
        rw [e1] at m1
        rw [e2] at m2
      all_goals (go_wp2_with (first | (go_at_call 23; refine m1.mono ?_; rintro e w2 ⟨rfl, rfl⟩) | (go_at_call 23; refine m2.mono ?_; rintro e w2 ⟨rfl, rfl⟩)))
      all_goals first
        | (go_ret3; exact setPost_err HV.out hx1)
        | (exfalso; have := H2.out; simp_all)
    | false =>
      have h3 : amt ho = true ∧ amt hn = true := by simpa using h2
      obtain ⟨e1, e2⟩ := h3
      have hcond : (!charges a || !charges b || !all2 hq a b || !amt ho || !amt hn) = false := by simp [h1, e1, e2]
      have m1 := fun W => amountR_calls ho W
      have m2 := fun W => amountR_calls hn W
      rw [e1] at m1
      rw [e2] at m2
      cases h4 : all2 wq a b with
      | false =>
        have HV : Hid (settleS a b ho hn = ⟨[], 0, 3⟩) := by
          unfold Hid settleS
          rw [hcond, h4]
          rfl
        rw [h4] at c1
        clear h1 h2 h4 e1 e2 hcond
        go_enter Try.func10, Try.ntmps10
        go_wp2_with fail
        refine c1.mono ?_
        rintro e w1 ⟨rfl, hx1⟩
        go_wp2_with fail
        refine (m1 w1).mono ?_
        rintro e w2 ⟨rfl, rfl⟩
        go_wp2_with fail
        refine (m2 w1).mono ?_
        rintro e w2 ⟨rfl, rfl⟩
        go_wp2_with fail
        go_ret3
        exact setPost_err HV.out hx1
      | true =>
        rw [h4] at c1
        by_cases h5 : cs a + ho = cs b + hn
        · have h5' : (cs a + ho != cs b + hn) = false := by simp [h5]
          have HV : Hid (settleS a b ho hn = if !(all2 difOk a b && amt (hn - ho)) then ⟨[], 0, 3⟩ else ⟨difs a b, hn - ho, 0⟩) := by
            unfold Hid settleS
            rw [hcond, h4, h5']
            rfl
          exact SettleR_go a b ho hn A B c d w ha hb hA hB HG e1 e2 h4 h5 HV
        · have h5' : (cs a + ho != cs b + hn) = true := by simp [h5]
          have HV : Hid (settleS a b ho hn = ⟨[], 0, 32⟩) := by
            unfold Hid settleS
            rw [hcond, h4, h5']
            rfl
          clear h1 h2 h4 hcond h5
          obtain ⟨la, ra⟩ := charges_right HG.out.1
          obtain ⟨lb, rb⟩ := charges_right HG.out.2.1
          have s1 := fun W (h : Ext w W) => sumR_calls a A c W la (fun x hx => by have := ra x hx; unfold chRight at this; omega) (hA.ext h)
          have s2 := fun W (h : Ext w W) => sumR_calls b B d W lb (fun x hx => by have := rb x hx; unfold chRight at this; omega) (hB.ext h)
          have ba := cs_bound (l := a) (fun x hx => by have := ra x hx; unfold chRight at this; omega)
          have bb := cs_bound (l := b) (fun x hx => by have := rb x hx; unfold chRight at this; omega)
          have bo : -1000000000 ≤ ho ∧ ho ≤ 1000000000 := by unfold amt at e1; simpa using e1
          have bn : -1000000000 ≤ hn ∧ hn ≤ 1000000000 := by unfold amt at e2; simpa using e2
          obtain ⟨bo1, bo2⟩ := bo
          obtain ⟨bn1, bn2⟩ := bn
          have ba1 : -64000000000 ≤ cs a := by omega
          have ba2 : cs a ≤ 64000000000 := by omega
          have bb1 : -64000000000 ≤ cs b := by omega
          have bb2 : cs b ≤ 64000000000 := by omega
          clear ba bb
          have HRA := Lib.hid ra
          have HRB := Lib.hid rb
          clear ra rb e1 e2
          go_enter Try.func10, Try.ntmps10
          go_wp2_with fail
          refine c1.mono ?_
          rintro e w1 ⟨rfl, hx1⟩
          go_wp2_with fail
          refine (m1 w1).mono ?_
          rintro e w2 ⟨rfl, rfl⟩
          go_wp2_with fail
          refine (m2 w1).mono ?_
          rintro e w2 ⟨rfl, rfl⟩
          go_wp2_with fail
          refine (s1 w1 hx1).mono ?_
          rintro e w2 ⟨rfl, hx2⟩
          go_wp2_with fail
          refine (s2 w2 (hx1.trans hx2)).mono ?_
          rintro e w3 ⟨rfl, hx3⟩
          go_wp2_with fail
          go_ret3
          exact setPost_err HV.out ((hx1.trans hx2).trans hx3)
end Go.Proofs.Ytffbomfhihhmhaa.Settle
