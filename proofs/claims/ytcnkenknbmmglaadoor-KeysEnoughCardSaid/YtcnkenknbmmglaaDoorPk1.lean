/- keys.Valid told plainly. -/
import Derived.Test.YtcnkenknbmmglaaDoorXtry
import Derived.Test.YtcnkenknbmmglaaDoorPx7
set_option linter.unusedSimpArgs false
set_option linter.unusedVariables false
namespace Go.Proofs.YtcnkenknbmmglaaDoor.P
open Go Go.RowKit Go.Proofs.YtcnkenknbmmglaaDoorW.PrintWords Go.Proofs.YtcnkenknbmmglaaDoorW.PrintLast Go.Proofs.YtcnkenknbmmglaaDoorW.PrintMore

def keyOk (x : S49) : Bool := homeV x.f0 && (dayV x.f2 && keyV x.f1)
def prevOk : Option S49 → S49 → Bool
  | none, _ => true
  | some q, x => decide (cmpV q x < 0)
def kvB : Option S49 → List S49 → Bool
  | _, [] => true
  | p, x :: l => keyOk x && (prevOk p x && kvB (some x) l)
def prevK (l : List S49) : Nat → Option S49
  | 0 => none
  | k + 1 => some (rd_T49 l (k : Int))
def validB (l : List S49) : Bool := decide (l.length ≤ 1000) && kvB none l
theorem valid_l0 (l : List S49) (hl : l.length ≤ 1000) : ∀ (d i k : Nat), l.length - i = d → i ≤ l.length → d + 6 ≤ k → keys_Valid.l0 k l l (l.length : Int) (i : Int) = some (kvB (prevK l i) (l.drop i))
  | 0, i, k, h1, h2, h3 => by
    obtain ⟨k, rfl⟩ : ∃ m, k = m + 1 := ⟨k - 1, by omega⟩
    obtain rfl : i = l.length := by omega
    rw [keys_Valid.l0, if_neg (by omega), List.drop_length]
    rfl
  | d + 1, i, k, h1, h2, h3 => by
    obtain ⟨k, rfl⟩ : ∃ m, k = m + 1 := ⟨k - 1, by omega⟩
    have hi : i < l.length := by omega
    obtain ⟨x, hx⟩ : ∃ x, rd_T49 l (i : Int) = x := ⟨_, rfl⟩
    have hd : l.drop i = x :: l.drop (i + 1) := by rw [List.drop_eq_getElem_cons hi, ← hx, rd_getK hi]
    have ih := valid_l0 l hl d (i + 1) k (by omega) (by omega) (by omega)
    have hw : wrap64 ((i : Int) + 1) = ((i + 1 : Nat) : Int) := by unfold wrap64; omega
    rw [keys_Valid.l0, if_pos (by omega), if_pos (by omega), if_pos (by omega), hx, isHome_f, obs, hd, kvB, hw, ih]
    have hp : prevK l (i + 1) = some x := congrArg some hx
    rw [hp]
    cases h0 : homeV x.f0 with
    | false => rw [if_neg (by decide)]; simp only [keyOk, h0, Bool.false_and]
    | true =>
    rw [if_pos rfl, isDay_f, obs]
    cases h1 : dayV x.f2 with
    | false => rw [if_neg (by decide)]; simp only [keyOk, h0, h1, Bool.false_and, Bool.and_false]
    | true =>
    rw [if_pos rfl, isKey_f, obs]
    cases h2 : keyV x.f1 with
    | false => rw [if_neg (by decide)]; simp only [keyOk, h0, h1, h2, Bool.false_and, Bool.and_false]
    | true =>
    rw [if_pos rfl]
    have hk : keyOk x = true := by simp only [keyOk, h0, h1, h2, Bool.and_true]
    rw [hk, Bool.true_and]
    cases i with
    | zero =>
      rw [if_neg (by omega)]
      rfl
    | succ j =>
      have hw2 : wrap64 (((j + 1 : Nat) : Int) - 1) = ((j : Nat) : Int) := by unfold wrap64; omega
      rw [if_pos (by omega), hw2, if_pos (by omega), if_pos (by omega), compare_f _ _ _ (by omega), obs]
      show _ = some (decide (cmpV (rd_T49 l (j : Int)) x < 0) && _)
      by_cases hc : cmpV (rd_T49 l (j : Int)) x ≥ 0
      · rw [if_pos hc, decide_eq_false (by omega), Bool.false_and]
      · rw [if_neg hc, decide_eq_true (by omega), Bool.true_and]
theorem valid_f (l : List S49) (k : Nat) (hk : 1006 ≤ k) : keys_Valid.f k l = some (validB l) := by
  unfold keys_Valid.f validB
  by_cases h : l.length ≤ 1000
  · rw [if_neg (by omega), decide_eq_true h, Bool.true_and]
    exact valid_l0 l h l.length 0 k rfl (Nat.zero_le _) (by omega)
  · rw [if_pos (by omega), decide_eq_false h, Bool.false_and]
/-- The key that is to be laid in, and where. -/
def newK (v : List S28) : S49 := ⟨(rd_T28 v 0).f0, (rd_T28 v 0).f1, (rd_T28 v 0).f2⟩
def atV (l : List S49) (x : S49) : Nat := behV l x.f0 36524
def lateB (l : List S49) (x : S49) : Bool := decide (0 < atV l x) && ((rd_T49 l ((atV l x - 1 : Nat) : Int)).f0 == x.f0 && decide (x.f2 ≤ (rd_T49 l ((atV l x - 1 : Nat) : Int)).f2))
def allTry (l : List S49) (ns : List Int) (x : S49) : List S28 → List Int → List Int × Int
  | [], ks => (ks, 0)
  | y :: v, ks => if tryV l ns x y = 0 then allTry l ns x v (addS ks y.f3) else (ks, tryV l ns x y)
def renewV (l : List S49) (ns : List Int) (need : Int) (v : List S28) : List S49 × Int :=
  if validB l && formedV ns need v then
    if lateB l (newK v) then ([], 6)
    else if (allTry l ns (newK v) v []).2 = 0 then
      if ((allTry l ns (newK v) v []).1.length : Int) < need then ([], 33)
      else if l.length = 1000 then ([], 2)
      else (l.take (atV l (newK v)) ++ newK v :: l.drop (atV l (newK v)), 0)
    else ([], (allTry l ns (newK v) v []).2)
  else ([], 1)
end Go.Proofs.YtcnkenknbmmglaaDoor.P
