/- Chapter 43: lines with one of them changed. -/
import Derived.Test.YtkdckjafhaadiaaDoorSB
import Derived.Test.YtkdckjafhaadiaaDoorPx91
set_option linter.unusedSimpArgs false
set_option linter.unusedVariables false
namespace Go.Proofs.YtkdckjafhaadiaaDoor.P
open Go Go.RowKit Go.Proofs.YtkdckjafhaadiaaDoorW.PrintWords Go.Proofs.YtkdckjafhaadiaaDoorW.PrintLast Go.Proofs.YtkdckjafhaadiaaDoorW.PrintMore

theorem lines_parts {l : List S50} (h : linesB l = true) : l.length ≤ 64 ∧ l.all lineB = true ∧ riseB S50.f0 l = true := by
  simp only [linesB, Bool.and_eq_true, decide_eq_true_eq] at h
  exact h
theorem tmod_Q (n : Int) : -1073741789 < Int.tmod n 1073741789 ∧ Int.tmod n 1073741789 < 1073741789 := ⟨Int.lt_tmod_of_pos _ (by omega), Int.tmod_lt_of_pos _ (by omega)⟩
theorem rest_any (n : Int) : cohousingref08_Rest.f n = some (n % 1073741789) := by
  unfold cohousingref08_Rest.f
  have hb := tmod_Q n
  rw [wrap_id (by omega) (by omega), tmod_nat _ _ (by omega) (by omega)]
  congr 1
  have e : Int.tmod n 1073741789 = n - 1073741789 * Int.tdiv n 1073741789 := by
    have := Int.mul_tdiv_add_tmod n 1073741789
    omega
  rw [e]
  omega
def chgL (x : S50) (cents blind : Int) : S50 := if cents = 0 then ⟨x.f0, x.f1, wrap64 (x.f2 + Int.tmod blind 1073741789) % 1073741789⟩ else ⟨x.f0, wrap64 (x.f1 + cents), x.f2⟩
theorem changed_f (l : List S50) (hn : l.length ≤ 5864062014800) {i : Nat} (hi : i < l.length) (cents blind : Int) : cohousinglaw43_changed.f l (i : Int) cents blind = some (l.set i (chgL l[i] cents blind)) := by
  unfold cohousinglaw43_changed.f chgL
  simp only [obs, List.length_nil, List.nil_append]
  rw [if_pos (by omega)]
  rw [rd_getL hi, Int.toNat_natCast]
  by_cases hc : cents = 0
  · rw [if_pos hc, if_pos (by omega), if_pos (by omega), rest_any, if_pos hc]
    rfl
  · rw [if_neg hc, if_pos (by omega), if_pos (by omega), if_neg hc]
theorem chg_ne {h : Int} (hk : keyB h = true) {x : S50} {cents blind : Int} (hx : lineB x = true) (hy : lineB (chgL x cents blind) = true) (h0 : -1000000000 ≤ cents) (h1 : cents ≤ 1000000000) (hnz : ¬ (cents = 0 ∧ Int.tmod blind 1073741789 = 0)) :
    cmI h x ≠ cmI h (chgL x cents blind) := by
  obtain ⟨n, rfl, n1, n2, n3⟩ := key_nat hk
  have px := line_parts hx
  have py := line_parts hy
  rw [cmI_nat n1 n2 n3 hx, cmI_nat n1 n2 n3 hy]
  intro e
  have e' := Int.ofNat_inj.1 e
  have hb := tmod_Q blind
  unfold chgL at e' py
  by_cases hc : cents = 0
  · rw [if_pos hc] at e' py
    simp only at py
    have e2 := cm_blind (n := n) (c := cN x) n1 n2 n3 (bN_lt hx) (by unfold bN Nt.Q; simp only; omega) e'
    unfold bN at e2
    simp only at e2
    rw [wrap_id (by omega) (by omega)] at e2
    omega
  · rw [if_neg hc] at e' py
    simp only at py
    have hw : wrap64 (x.f1 + cents) = x.f1 + cents := wrap_id (by omega) (by omega)
    rw [hw] at e' py
    have e2 := cm_cents (n := n) (b := bN x) n2 (cN_lt x) (cN_lt _) e'
    unfold cN at e2
    simp only at e2
    omega
theorem all1 {h home : Int} {l : List S50} (hk : keyB h = true) (hh : homeB home = true) (hl : linesB l = true) : allB [(⟨home, h, cmL h l⟩ : S45)] = true := by
  have hm := cmL_mem hk hl
  have hlen := (lines_parts hl).1
  have h1 : okS h ⟨home, h, cmL h l⟩ = true := by
    simp only [okS, hh, hk, hm, cmL_len, decide_eq_true hlen, beq_self_eq_true, Bool.and_self]
  unfold allB
  rw [show (rd_T45 [(⟨home, h, cmL h l⟩ : S45)] 0).f1 = h from rfl]
  simp only [List.all_cons, List.all_nil, h1, Bool.and_true]
  rfl
/-- Make, for the commitments of one household. -/
theorem make_one {h home : Int} {l l' : List S50} (hk : keyB h = true) (hh : homeB home = true) (hl : linesB l = true) (hl' : linesB l' = true) :
    makeV 0 [(⟨home, h, cmL h l⟩ : S45)] home l' = (if cmL h l = cmL h l' then (home, 0, 0, h, l', [], 0) else (0, 0, 0, 0, [], [], 31)) := by
  have hp : placeV home [(⟨home, h, cmL h l⟩ : S45)] = 0 := by
    unfold placeV fstL
    rw [if_pos (by simp)]
    rfl
  unfold makeV
  rw [all1 hk hh hl, hh, hl', hp, show rd_T45 [(⟨home, h, cmL h l⟩ : S45)] 0 = ⟨home, h, cmL h l⟩ from rfl]
  rw [if_pos (by rfl), if_neg (by decide)]
  by_cases e : cmL h l = cmL h l'
  · rw [if_pos (by simp only [beq_iff_eq]; exact e), if_pos e]
    refine congrArg (fun p => (home, (0 : Int), (0 : Int), h, l', p, (0 : Int))) ?_
    have hf : firstV (lfL 0 [(⟨home, h, cmL h l⟩ : S45)]) = [leafV (lfI 0 ⟨home, h, cmL h l⟩)] := by simp only [firstV, lfL, List.map_cons, List.map_nil]
    rw [hf]
    unfold pathV
    rw [if_neg (by simp)]
  · rw [if_neg (by simp only [beq_iff_eq]; exact e), if_neg e]
theorem take_lines {l : List S50} (hl : linesB l = true) (n : Nat) : linesB (l.take n) = true := by
  obtain ⟨h1, h2, h3⟩ := lines_parts hl
  have hr : ∀ (l : List S50) (n : Nat), riseB S50.f0 l = true → riseB S50.f0 (l.take n) = true := by
    intro l
    induction l with
    | nil => intro n _; simp [riseB]
    | cons x l ih =>
      intro n h
      cases n with
      | zero => rfl
      | succ n =>
        cases l with
        | nil => simp [riseB]
        | cons y l =>
          simp only [riseB, Bool.and_eq_true] at h
          have i2 := ih n h.2
          cases n with
          | zero => rfl
          | succ n =>
            simp only [List.take_succ_cons, riseB, Bool.and_eq_true] at i2 ⊢
            exact ⟨h.1, i2⟩
  unfold linesB
  rw [decide_eq_true (by rw [List.length_take]; omega), hr l n h3, Bool.true_and, Bool.and_true]
  exact List.all_eq_true.2 fun x hx => List.all_eq_true.1 h2 x (List.mem_of_mem_take hx)
end Go.Proofs.YtkdckjafhaadiaaDoor.P
