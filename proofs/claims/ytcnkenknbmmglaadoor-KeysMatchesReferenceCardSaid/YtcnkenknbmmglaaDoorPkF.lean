/- Chapter 20's reference: formed told plainly. -/
import Derived.Test.YtcnkenknbmmglaaDoorPkR
import Derived.Test.YtcnkenknbmmglaaDoorPx15
set_option linter.unusedSimpArgs false
set_option linter.unusedVariables false
namespace Go.Proofs.YtcnkenknbmmglaaDoor.P
open Go Go.RowKit Go.Proofs.YtcnkenknbmmglaaDoorW.PrintWords Go.Proofs.YtcnkenknbmmglaaDoorW.PrintLast Go.Proofs.YtcnkenknbmmglaaDoorW.PrintMore

theorem rf_l1 (v : List S28) (hv : 0 < v.length) (hv2 : v.length ≤ 16) : ∀ (d i k : Nat), v.length - i = d → i ≤ v.length → d + 1 ≤ k → cohousingref20_formed.l1 k v (i : Int) = some (!(v.drop i).any (othV (rd_T28 v 0)))
  | 0, i, k, h1, h2, h3 => by
    obtain ⟨k, rfl⟩ : ∃ m, k = m + 1 := ⟨k - 1, by omega⟩
    obtain rfl : i = v.length := by omega
    rw [cohousingref20_formed.l1, if_neg (by omega), List.drop_length]
    rfl
  | d + 1, i, k, h1, h2, h3 => by
    obtain ⟨k, rfl⟩ : ∃ m, k = m + 1 := ⟨k - 1, by omega⟩
    have hi : i < v.length := by omega
    have ih := rf_l1 v hv hv2 d (i + 1) k (by omega) (by omega) (by omega)
    have hw : wrap64 ((i : Int) + 1) = ((i + 1 : Nat) : Int) := by unfold wrap64; omega
    obtain ⟨y, hy⟩ : ∃ y, rd_T28 v (i : Int) = y := ⟨_, rfl⟩
    obtain ⟨x, hx⟩ : ∃ x, rd_T28 v 0 = x := ⟨_, rfl⟩
    have hd : v.drop i = y :: v.drop (i + 1) := by rw [List.drop_eq_getElem_cons hi, ← hy, rd_getV hi]
    rw [cohousingref20_formed.l1, if_pos (by omega), if_pos (by omega), if_pos (by omega), hw, ih, hd, List.any_cons, hy, hx]
    unfold othV
    by_cases g0 : y.f0 = x.f0
    · rw [if_pos g0, beq_iff_eq.2 g0]
      by_cases g1 : y.f1 = x.f1
      · rw [if_pos g1, beq_iff_eq.2 g1]
        by_cases g2 : y.f2 = x.f2
        · rw [if_pos g2, beq_iff_eq.2 g2]
          rfl
        · rw [if_neg g2, beq_eq_false_iff_ne.2 g2]
          rfl
      · rw [if_neg g1, beq_eq_false_iff_ne.2 g1]
        rfl
    · rw [if_neg g0, beq_eq_false_iff_ne.2 g0]
      rfl
theorem rf_j2 (v : List S28) (hv : 0 < v.length) (hv2 : v.length ≤ 16) (b : Bool) (k : Nat) (hk : 18 ≤ k) : cohousingref20_formed.j2 k v b = some (!b && !v.any (othV (rd_T28 v 0))) := by
  obtain ⟨k, rfl⟩ : ∃ m, k = m + 1 := ⟨k - 1, by omega⟩
  rw [cohousingref20_formed.j2]
  cases b with
  | true => rw [if_pos rfl]; rfl
  | false =>
    have h := rf_l1 v hv hv2 (v.length - 1) 1 k rfl (by omega) (by omega)
    rw [if_neg (by decide), show (1 : Int) = ((1 : Nat) : Int) from rfl, h]
    obtain ⟨x, hx⟩ : ∃ x, rd_T28 v 0 = x := ⟨_, rfl⟩
    have hd : v = x :: v.drop 1 := by
      have hg := rd_getV (l := v) (k := 0) hv
      have hx' : rd_T28 v ((0 : Nat) : Int) = x := hx
      rw [hx'] at hg
      have h2 := List.drop_eq_getElem_cons hv
      rw [← hg, List.drop_zero] at h2
      exact h2
    rw [hx]
    have ha : v.any (othV x) = (v.drop 1).any (othV x) := by
      have he := congrArg (fun l => List.any l (othV x)) hd
      simp only [List.any_cons] at he
      rw [he]
      unfold othV
      simp
    rw [ha]
    rfl
theorem rf_l0 (ns : List Int) (v : List S28) (hn : ns.length ≤ 8) (hv : 0 < v.length) (hv2 : v.length ≤ 16) : ∀ (d i k : Nat), ns.length - i = d → i ≤ ns.length → d + 100 ≤ k → cohousingref20_formed.l0 k ns v (i : Int) = some (ascB (ns.drop i) (prevI ns i) && saysB ns v (rd_T28 v 0))
  | 0, i, k, h1, h2, h3 => by
    obtain ⟨k, rfl⟩ : ∃ m, k = m + 1 := ⟨k - 1, by omega⟩
    obtain rfl : i = ns.length := by omega
    obtain ⟨x, hx⟩ : ∃ x, rd_T28 v 0 = x := ⟨_, rfl⟩
    have hj := fun b => rf_j2 v hv hv2 b k (by omega)
    rw [hx] at hj
    rw [cohousingref20_formed.l0, if_neg (by omega), if_pos (by omega), List.drop_length, hx, rHome_f, obs, rPublic_f _ _ (by omega), obs, rDay_f, obs, rIn_f _ _ (by omega) _ (by omega), obs]
    show _ = some (true && saysB ns v x)
    unfold saysB
    cases h0 : homeV x.f0 with
    | false => rw [if_neg (by decide), hj]; rfl
    | true =>
    rw [if_pos rfl]
    cases h3 : keyV x.f1 with
    | false => rw [if_neg (by decide), hj]; rfl
    | true =>
    rw [if_pos rfl]
    cases h4 : dayV x.f2 with
    | false => rw [if_neg (by decide), hj]; rfl
    | true =>
    rw [if_pos rfl, hj]
    rfl
  | d + 1, i, k, h1, h2, h3 => by
    obtain ⟨k, rfl⟩ : ∃ m, k = m + 1 := ⟨k - 1, by omega⟩
    have hi : i < ns.length := by omega
    have ih := rf_l0 ns v hn hv hv2 d (i + 1) k (by omega) (by omega) (by omega)
    have hw : wrap64 ((i : Int) + 1) = ((i + 1 : Nat) : Int) := by unfold wrap64; omega
    obtain ⟨n, hn2⟩ : ∃ n, rd ns (i : Int) = n := ⟨_, rfl⟩
    have hd : ns.drop i = n :: ns.drop (i + 1) := by rw [List.drop_eq_getElem_cons hi, ← hn2, rd_getI hi]
    rw [cohousingref20_formed.l0, if_pos (by omega), if_pos (by omega), hn2, rHome_f, obs, hd, ascB, hw, ih]
    have hp : prevI ns (i + 1) = n := hn2
    rw [hp]
    cases h0 : homeV n with
    | false => rw [if_neg (by decide), Bool.false_and, Bool.false_and]
    | true =>
    rw [if_pos rfl, Bool.true_and]
    cases i with
    | zero =>
      have hn0 := (homeV_iff.1 h0).1
      have hd1 : decide (prevI ns 0 < n) = true := decide_eq_true (show (0 : Int) < n by omega)
      rw [if_neg (by omega), hd1, Bool.true_and]
    | succ j =>
      have hw2 : wrap64 (((j + 1 : Nat) : Int) - 1) = ((j : Nat) : Int) := by unfold wrap64; omega
      rw [if_pos (by omega), hw2, if_pos (by omega), if_pos (by omega)]
      show (if n ≤ rd ns (j : Int) then _ else _) = some ((decide (rd ns (j : Int) < n) && _) && _)
      by_cases hc : n ≤ rd ns (j : Int)
      · rw [if_pos hc, decide_eq_false (by omega), Bool.false_and, Bool.false_and]
      · rw [if_neg hc, decide_eq_true (by omega), Bool.true_and]
theorem rf_j0 (ns : List Int) (v : List S28) (k : Nat) (hk : 1 ≤ k) : cohousingref20_formed.j0 k ns v true = some false := by
  obtain ⟨k, rfl⟩ : ∃ m, k = m + 1 := ⟨k - 1, by omega⟩
  rw [cohousingref20_formed.j0, if_pos rfl]
theorem rFormed_f (l : List S49) (ns : List Int) (need : Int) (v : List S28) (k : Nat) (hk : 2100 ≤ k) : cohousingref20_formed.f k l ns need v = some (validB l && formedV ns need v) := by
  have hj := rf_j0 ns v k (by omega)
  unfold cohousingref20_formed.f formedV
  rw [rValid_f l k hk, obs]
  cases h0 : validB l with
  | false => rw [if_neg (by decide), hj]; rfl
  | true =>
  rw [if_pos rfl, Bool.true_and]
  by_cases h1 : ns.length ≤ 8
  case neg => rw [if_pos (by omega), hj, decide_eq_false h1]; rfl
  rw [if_neg (by omega), decide_eq_true h1]
  by_cases h2 : 1 ≤ need
  case neg => rw [if_pos (by omega), hj, decide_eq_false h2]; rfl
  rw [if_neg (by omega), decide_eq_true h2]
  by_cases h3 : need ≤ 8
  case neg => rw [if_pos (by omega), hj, decide_eq_false h3]; rfl
  rw [if_neg (by omega), decide_eq_true h3]
  by_cases h4 : 1 ≤ v.length
  case neg => rw [if_pos (by omega), hj, decide_eq_false h4]; rfl
  rw [if_neg (by omega), decide_eq_true h4]
  by_cases h5 : v.length ≤ 16
  case neg => rw [decide_eq_true (show (v.length : Int) > 16 by omega), hj, decide_eq_false h5]; rfl
  rw [decide_eq_false (show ¬ (v.length : Int) > 16 by omega), decide_eq_true h5]
  obtain ⟨k, rfl⟩ : ∃ m, k = m + 1 := ⟨k - 1, by omega⟩
  have h := rf_l0 ns v h1 (by omega) h5 ns.length 0 k rfl (Nat.zero_le _) (by omega)
  rw [cohousingref20_formed.j0, if_neg (by decide), show (0 : Int) = ((0 : Nat) : Int) from rfl, h]
  rfl
end Go.Proofs.YtcnkenknbmmglaaDoor.P
