/- The walks of the reference of settle: charges. -/
import Derived.Test.YtffbomfhihhmhaaSettle3
set_option linter.unusedSimpArgs false
set_option linter.unusedVariables false
namespace Go.Proofs.Ytffbomfhihhmhaa.Settle
open Go Go.RowKit Go.Shelf Go.Proofs.Ytffbomfhihhmhaa.Ord Go.Proofs.Ytffbomfhihhmhaa.Base

theorem amountR_calls (x : Int) (w : World) : Calls Try.prog 23 #[.int .i64 x] w fun e w' => e = .returned (.bool (amt x)) ∧ w = w' := by
  unfold amt
  go_enter Try.func23, Try.ntmps23
  go_wp2
  all_goals (go_ret; simp_all)
  all_goals omega

def rightB (x : Ch) : Bool := !(decide (x.home < 1) || decide (x.home > 64) || !amt x.lo || !amt x.hi) && (decide (x.lo ≤ x.cents) && decide (x.cents ≤ x.hi) && (x.sure == (x.lo == x.hi)))

set_option maxHeartbeats 1000000 in
theorem rightR_calls (x : Ch) (w : World) : Calls Try.prog 29 #[x.val] w fun e w' => e = .returned (.bool (rightB x)) ∧ Ext w w' := by
  have HR : Hid (rightB x = (!(decide (x.home < 1) || decide (x.home > 64) || !amt x.lo || !amt x.hi) && (decide (x.lo ≤ x.cents) && decide (x.cents ≤ x.hi) && (x.sure == (x.lo == x.hi))))) := rfl
  obtain ⟨home, cents, lo, hi, sure⟩ := x
  unfold Ch.val
  simp only at HR ⊢
  go_enter Try.func29, Try.ntmps29
  go_wp2_with (go_at_call 23; refine (amountR_calls _ _).mono ?_; rintro e w' ⟨rfl, rfl⟩)
  all_goals
    go_ret
    refine ⟨?_, Ext.alloc _ _⟩
    rw [HR.out]
    refine ret_bool ?_
    clear HR
    first
      | (simp_all; done)
      | (simp_all; omega)
      | (simp_all; intros; omega)
      | (rename_i hq; rcases hq with (hq | hq) | hq <;> first | omega | (simp at hq; simp [hq]) | (simp [hq]; omega))

theorem rightB_bad (ks : List Int) (x : Ch) : (!chBad ks x) = (rightB x && !ks.contains x.home) := by
  unfold rightB chBad
  simp only [List.all_cons, List.all_nil, Bool.and_true]
  have e1 : decide (x.cents < x.lo) = !decide (x.lo ≤ x.cents) := by rw [Bool.eq_iff_iff]; simp
  have e2 : decide (x.cents > x.hi) = !decide (x.cents ≤ x.hi) := by rw [Bool.eq_iff_iff]; simp
  have e3 : (!x.sure == (x.hi == x.lo)) = !(x.sure == (x.lo == x.hi)) := by
    have e : (x.hi == x.lo) = (x.lo == x.hi) := by rw [Bool.eq_iff_iff]; simp only [beq_iff_eq]; exact eq_comm
    rw [e]
  rw [e1, e2, e3]
  generalize decide (x.home < 1) = a
  generalize decide (x.home > 64) = b
  generalize ks.contains x.home = c
  generalize amt x.lo = d
  generalize amt x.hi = e
  generalize decide (x.lo ≤ x.cents) = f
  generalize decide (x.cents ≤ x.hi) = g
  generalize (x.sure == (x.lo == x.hi)) = h
  revert a b c d e f g h
  decide

theorem contains_homes {l : List Ch} {j i : Nat} {x : Ch} (hj : j < i) (hx : l[j]? = some x) : ((l.take i).map Ch.home).contains x.home = true := by
  rw [List.contains_iff_mem]
  exact List.mem_map.2 ⟨x, List.mem_of_getElem? (i := j) (by rw [List.getElem?_take_of_lt hj]; exact hx), rfl⟩
theorem not_contains_homes {l : List Ch} {i : Nat} {h : Int} (hn : ∀ (j : Nat) y, j < i → l[j]? = some y → y.home ≠ h) : ((l.take i).map Ch.home).contains h = false := by
  rw [← Bool.not_eq_true, List.contains_iff_mem]
  intro hm
  obtain ⟨y, hy, rfl⟩ := List.mem_map.1 hm
  obtain ⟨j, hj, hj'⟩ := List.mem_iff_getElem.1 hy
  have hji : j < i := by simp at hj; omega
  refine hn j y hji ?_ rfl
  rw [List.getElem?_eq_some_iff]
  simp at hj hj'
  exact ⟨by omega, hj'⟩

set_option maxHeartbeats 2000000 in
theorem chargesR_calls (l : List Ch) (A : Option Addr) (c : Nat) (w : World) (hl : l.length ≤ 9223372036854775807) (hE : RowsOf w 5 Ch.cells A l) :
    Calls Try.prog 17 #[.slice A l.length c] w fun e w' => e = .returned (.bool (charges l)) ∧ Ext w w' := by
  by_cases h64 : l.length ≤ 64
  · have hc0 : decide ((l.length : Int) > 64) = false := by simp; omega
    have HC : Hid (charges l = chGo [] l) := by unfold Hid charges; simp [h64]
    go_enter Try.func17, Try.ntmps17
    go_wp2_with fail
    go_loopw [3] (fun i wr => ∃ k : Nat, k ≤ l.length ∧ i = .int .i64 k ∧ Ext w wr ∧ Hid (charges l = chGo ((l.take k).map Ch.home) (l.drop k))) (fun i _ => l.length - (intOf i).toNat)
    case atStart => exact ⟨0, Nat.zero_le _, rfl, Ext.refl w, HC.out⟩
    case round =>
      obtain ⟨i, hi, rfl, hx, hgo⟩ := hrel
      by_cases hlt : i < l.length
      · have hxk : l[i]? = some l[i] := List.getElem?_eq_getElem hlt
        have hstep : Hid (charges l = (rightB l[i] && !((l.take i).map Ch.home).contains l[i].home && chGo ((l.take (i + 1)).map Ch.home) (l.drop (i + 1)))) := by
          unfold Hid
          have e : l.take (i + 1) = l.take i ++ [l[i]] := by rw [List.take_add_one, hxk]; rfl
          rw [hgo.out, List.drop_eq_getElem_cons hlt, chGo, rightB_bad, e, List.map_append]
          rfl
        generalize l[i] = x at *
        obtain ⟨ad, rfl, hld⟩ := rows_five hE hxk
        obtain ⟨h0, h1, h2, h3, h4⟩ := hld wr hx
        have hr := rightR_calls x wr
        unfold Ch.val at hr
        clear hgo
        cases hrb : rightB x with
        | false =>
          have HF : Hid (charges l = false) := by unfold Hid; rw [hstep.out, hrb]; rfl
          rw [hrb] at hr
          clear hrb hstep
          go_wp2_with (go_at_call 29; refine hr.mono ?_; rintro e w' ⟨rfl, hx'⟩)
          go_ret
          exact ⟨by rw [HF.out]; rfl, hx.trans hx'⟩
        | true =>
          rw [hrb] at hr hstep
          clear hrb
          go_wp2_with (go_at_call 29; refine hr.mono ?_; rintro e w1 ⟨rfl, hx'⟩)
          clear h0 h1 h2 h3 h4 hr
          have hx1 := hx.trans hx'
          go_loopw [5] (fun j wr => ∃ k : Nat, k ≤ i ∧ j = .int .i64 k ∧ Ext w wr ∧ ∀ (j : Nat) y, j < k → l[j]? = some y → y.home ≠ x.home) (fun j _ => i - (intOf j).toNat)
          case atStart => exact ⟨0, Nat.zero_le _, rfl, hx1, fun j y hj => absurd hj (Nat.not_lt_zero _)⟩
          case round =>
            obtain ⟨k, hk, rfl, hx2, hno⟩ := hrel
            by_cases hlk : k < i
            · have hyk : l[k]? = some l[k] := List.getElem?_eq_getElem (by omega)
              generalize l[k] = y at *
              obtain ⟨ad', hA', hly⟩ := rows_five hE hyk
              cases hA'
              have kl : (k : Int) < (l.length : Int) := by omega
              have il : (i : Int) < (l.length : Int) := by omega
              have ck : ∀ W, Held (Ext wr) W → W.cell? (ad.add (k * 5)) = some (.int .i64 y.home) := fun W hW => (hly W (hx2.trans hW)).1
              have ci : ∀ W, Held (Ext wr) W → W.cell? (ad.add (i * 5)) = some (.int .i64 x.home) := fun W hW => (hld W (hx2.trans hW)).1
              by_cases hyx : y.home = x.home
              · have HF : Hid (charges l = false) := by
                  have := contains_homes hlk hyk
                  rw [hyx] at this
                  unfold Hid
                  rw [hstep.out, this]
                  rfl
                have hb : (y.home == x.home) = true := by simp [hyx]
                have Hno := Lib.hid hno
                clear hno hyx hyk hstep hld hly hxk
                go_wp2_with fail
                refine wp_region_auto (Ext wr) ((0, none, none) :: (0, none, none) :: (0, none, none) :: (0, none, none) :: (0, none, none) :: (0, none, none) :: (0, none, none) :: (0, none, none) :: (0, none, none) :: (0, none, none) :: (0, none, none) :: []) (by kernel_rfl) (by kernel_rfl) (fun _ _ d _ _ h => by cases d <;> exact h) (Ext.drew _) ?_
                repeat' (first
                  | (with_reducible apply rel_pass
                     focus (intro W hW; first | (go_simp; exact rfl) | go_simp)
                     simp only [Act.put, List.setIfInBounds_toArray, List.set_cons_zero, List.set_cons_succ])
                  | (with_reducible apply rel_yes
                     focus (exact rfl))
                  | (with_reducible apply rel_no
                     focus (exact rfl)
                     simp only [Act.put, List.setIfInBounds_toArray, List.set_cons_zero, List.set_cons_succ])
                  | (with_reducible apply rel_askF
                     focus (exact rfl)
                     all_goals (intro hb; simp only [hb, Act.put, List.setIfInBounds_toArray, List.set_cons_zero, List.set_cons_succ]))
                  | (with_reducible apply rel_askT
                     focus (exact rfl)
                     all_goals (intro hb; simp only [hb, Act.put, List.setIfInBounds_toArray, List.set_cons_zero, List.set_cons_succ]))
                  | (with_reducible apply rel_front1)
                  | (with_reducible apply rel_front2)
                  | (with_reducible apply rel_front3)
                  | (with_reducible apply rel_front4)
                  | (with_reducible apply rel_front5)
                  | (with_reducible apply rel_front6))
                apply rel_nil
                simp only [Exit.then, Exit.inBlock]
                go_wp2
                go_ret
                exact ⟨by rw [HF.out]; rfl, hx2.trans (Ext.drew _)⟩
              · have hb : (y.home == x.home) = false := by simp [hyx]
                have Hno : Hid (∀ (j : Nat) y, j < k + 1 → l[j]? = some y → y.home ≠ x.home) := fun j z hj hz => by
                  by_cases hjk : j = k
                  · subst hjk
                    rw [hyk] at hz
                    cases hz
                    exact hyx
                  · exact hno j z (by omega) hz
                clear hno hyx hyk hld hly hxk
                go_wp2_with fail
                refine wp_region_auto (Ext wr) ((0, none, none) :: (0, none, none) :: (0, none, none) :: (0, none, none) :: (0, none, none) :: (0, none, none) :: (0, none, none) :: (0, none, none) :: (0, none, none) :: (0, none, none) :: (0, none, none) :: []) (by kernel_rfl) (by kernel_rfl) (fun _ _ d _ _ h => by cases d <;> exact h) (Ext.drew _) ?_
                repeat' (first
                  | (with_reducible apply rel_pass
                     focus (intro W hW; first | (go_simp; exact rfl) | go_simp)
                     simp only [Act.put, List.setIfInBounds_toArray, List.set_cons_zero, List.set_cons_succ])
                  | (with_reducible apply rel_yes
                     focus (exact rfl))
                  | (with_reducible apply rel_no
                     focus (exact rfl)
                     simp only [Act.put, List.setIfInBounds_toArray, List.set_cons_zero, List.set_cons_succ])
                  | (with_reducible apply rel_askF
                     focus (exact rfl)
                     all_goals (intro hb; simp only [hb, Act.put, List.setIfInBounds_toArray, List.set_cons_zero, List.set_cons_succ]))
                  | (with_reducible apply rel_askT
                     focus (exact rfl)
                     all_goals (intro hb; simp only [hb, Act.put, List.setIfInBounds_toArray, List.set_cons_zero, List.set_cons_succ]))
                  | (with_reducible apply rel_front1)
                  | (with_reducible apply rel_front2)
                  | (with_reducible apply rel_front3)
                  | (with_reducible apply rel_front4)
                  | (with_reducible apply rel_front5)
                  | (with_reducible apply rel_front6))
                apply rel_nil
                simp only [Exit.then, Exit.inBlock]
                go_wp2
                go_roundw
                case rel => exact ⟨k + 1, by omega, by go_num, hx2.trans (Ext.drew _), Hno.out⟩
                case measure => simp [intOf]; omega
            · have hki : k = i := by omega
              have HG : Hid (charges l = chGo ((l.take (i + 1)).map Ch.home) (l.drop (i + 1))) := by
                unfold Hid
                rw [hstep.out, not_contains_homes (fun j y hj => hno j y (by omega))]
                rfl
              clear hno hstep hld hxk
              go_wp2
              go_roundw
              case rel => exact ⟨i + 1, by omega, by go_num, hx2, HG⟩
              case measure => simp [intOf]; omega
      · have hst : Hid (charges l = true) := by
          unfold Hid
          rw [hgo.out, List.drop_eq_nil_of_le (by omega)]
          rfl
        clear hgo HC
        go_wp2
        go_ret
        exact ⟨by rw [hst.out]; rfl, hx⟩
  · have hc0 : decide ((l.length : Int) > 64) = true := by simp; omega
    have HC : Hid (charges l = false) := by unfold Hid charges; simp [h64]
    clear h64
    go_enter Try.func17, Try.ntmps17
    go_wp2
    go_ret
    exact ⟨by rw [HC.out]; rfl, Ext.refl w⟩
end Go.Proofs.Ytffbomfhihhmhaa.Settle
