/- Vouch and Of told plainly; attestations that were made with their secrets. -/
import Derived.Test.YtcnkenknbmmglaaDoorPk2
import Derived.Test.YtcnkenknbmmglaaDoorPx8
import Derived.Test.YtcnkenknbmmglaaDoorPx8
set_option linter.unusedSimpArgs false
set_option linter.unusedVariables false
namespace Go.Proofs.YtcnkenknbmmglaaDoor.P
open Go Go.RowKit Go.Proofs.YtcnkenknbmmglaaDoorW.PrintWords Go.Proofs.YtcnkenknbmmglaaDoorW.PrintLast Go.Proofs.YtcnkenknbmmglaaDoorW.PrintMore

def ofV (l : List S49) (h on : Int) : Int × Bool × Int := if homeV h && (dayV on && validB l) then ((findV l h on).1, (findV l h on).2, 0) else (0, false, 1)
theorem valid_len {l : List S49} (h : validB l = true) : l.length ≤ 1000 := ((valid_iff l).1 h).1
theorem of_f (l : List S49) (h on : Int) (k : Nat) (hk : 1006 ≤ k) : keys_Of.f k l h on = some (ofV l h on) := by
  unfold keys_Of.f ofV
  rw [isHome_f, obs]
  cases h0 : homeV h with
  | false => rw [if_neg (by decide), Bool.false_and, if_neg (by decide)]
  | true =>
  rw [if_pos rfl, isDay_f, obs]
  cases h1 : dayV on with
  | false => rw [if_neg (by decide), Bool.false_and, Bool.and_false, if_neg (by decide)]
  | true =>
  rw [if_pos rfl, valid_f l k hk, obs]
  cases h2 : validB l with
  | false => rw [if_neg (by decide), Bool.and_false, Bool.and_false, if_neg (by decide)]
  | true =>
  rw [if_pos rfl, find_f l h on (by have := valid_len h2; omega), obs, if_pos (by decide)]
def vouchB (h p on b key once : Int) : Bool := homeV h && (homeV b && (!(h == b) && (keyV p && (dayV on && (secB key && secB once)))))
def sigV (h p on key once : Int) : S26 := ⟨(signV key once [h, p, on]).1, (signV key once [h, p, on]).2.1⟩
/-- The attestation that was made. -/
def mkV (h p on b key once : Int) : S28 := ⟨h, p, on, b, sigV h p on key once⟩
def vouchV (h p on b key once : Int) : Int × Int × Int × Int × Int × Int × Int :=
  if vouchB h p on b key once then (h, p, on, b, (signV key once [h, p, on]).1, (signV key once [h, p, on]).2.1, 0) else (0, 0, 0, 0, 0, 0, 1)
theorem ok_key {x : S49} (h0 : homeV x.f0 = true) (h1 : keyV x.f1 = true) (h2 : dayV x.f2 = true) : ∀ z ∈ [x.f0, x.f1, x.f2], okInt z = true := by
  simp only [homeV, dayV, keyV, Bool.and_eq_true, decide_eq_true_eq] at h0 h1 h2
  have hm := memB_lt h1.2
  intro z hz
  simp only [List.mem_cons, List.not_mem_nil, or_false] at hz
  rcases hz with rfl | rfl | rfl <;> exact okInt_of (by omega) (by omega)
theorem msg_key {h p on : Int} (h0 : homeV h = true) (h1 : keyV p = true) (h2 : dayV on = true) : Msg [h, p, on] :=
  ⟨by simp, ok_key (x := ⟨h, p, on⟩) h0 h1 h2⟩
theorem vouch_f (h p on b key once : Int) (k : Nat) (hk : 12 ≤ k) : keys_Vouch.f k h p on b key once = some (vouchV h p on b key once) := by
  have hj : keys_Vouch.j0 k h p on b key once true = some (0, 0, 0, 0, 0, 0, 1) := by
    obtain ⟨k, rfl⟩ : ∃ m, k = m + 1 := ⟨k - 1, by omega⟩
    rw [keys_Vouch.j0]
    rfl
  unfold keys_Vouch.f vouchV vouchB
  rw [isHome_f, obs]
  cases h0 : homeV h with
  | false => rw [if_neg (by decide), hj, Bool.false_and, if_neg (by decide)]
  | true =>
  rw [if_pos rfl, isHome_f, obs]
  cases h1 : homeV b with
  | false => rw [if_neg (by decide), hj, Bool.false_and, Bool.and_false, if_neg (by decide)]
  | true =>
  rw [if_pos rfl]
  by_cases h2 : h = b
  · rw [if_pos h2, hj, beq_iff_eq.2 h2, Bool.not_true, Bool.false_and, Bool.and_false, Bool.and_false, if_neg (by decide)]
  rw [if_neg h2, beq_eq_false_iff_ne.2 h2, isKey_f, obs]
  cases h3 : keyV p with
  | false => rw [if_neg (by decide), hj]; rfl
  | true =>
  rw [if_pos rfl, isDay_f, obs]
  cases h4 : dayV on with
  | false => rw [Bool.not_false, hj]; rfl
  | true =>
  obtain ⟨k, rfl⟩ : ∃ m, k = m + 1 := ⟨k - 1, by omega⟩
  rw [Bool.not_true, keys_Vouch.j0, if_neg (by decide), sign_f key once [h, p, on] (msg_key h0 h3 h4) k (by omega), obs]
  simp only [Bool.true_and, Bool.not_false]
  cases h5 : (secB key && secB once) with
  | true =>
    rw [if_pos rfl, if_pos (by unfold signV; rw [if_pos h5])]
  | false =>
    have e : signV key once [h, p, on] = (0, 0, 1) := by unfold signV; rw [if_neg (by rw [h5]; decide)]
    rw [e, if_neg (by decide), if_neg (by decide)]
/-- A secret's public key. -/
theorem key_pub {n : Nat} (h0 : 0 < n) (h1 : n < 1073741789) : keyV (pub n : Int) = true := by
  unfold keyV
  have hm : memB (pub n : Int) = true := (memB_nat _).2 ⟨pub_lt n, pub_el n⟩
  have hne : ((pub n : Int) == 1) = false := beq_eq_false_iff_ne.2 (by have := pub_ne h0 h1; omega)
  rw [hm, hne]
  rfl
theorem vouch_ok {h p on b : Int} {key once : Nat} (h0 : homeV h = true) (h1 : homeV b = true) (h2 : h ≠ b) (h3 : keyV p = true) (h4 : dayV on = true) (k0 : 0 < key) (k1 : key < 1073741789) (o0 : 0 < once) (o1 : once < 1073741789) : vouchB h p on b key once = true := by
  unfold vouchB
  rw [h0, h1, beq_eq_false_iff_ne.2 h2, h3, h4, secB_nat k0 k1, secB_nat o0 o1]
  rfl
/-- An attestation that was made with the secret of the key is right. -/
theorem try_made {l : List S49} {ns : List Int} {x : S49} {key once : Nat} {b : Int} (k0 : 0 < key) (k1 : key < 1073741789) (o0 : 0 < once) (o1 : once < 1073741789) (hf : findV l b x.f2 = ((pub key : Int), true)) (hn : ns.contains b = true) :
    tryV l ns x (mkV x.f0 x.f1 x.f2 b key once) = 0 := by
  unfold tryV
  show (if (findV l b x.f2).2 && ns.contains b then (if (verV (findV l b x.f2).1 (signV (key : Int) (once : Int) [x.f0, x.f1, x.f2]).1 (signV (key : Int) (once : Int) [x.f0, x.f1, x.f2]).2.1 [x.f0, x.f1, x.f2]).1 && (verV (findV l b x.f2).1 (signV (key : Int) (once : Int) [x.f0, x.f1, x.f2]).1 (signV (key : Int) (once : Int) [x.f0, x.f1, x.f2]).2.1 [x.f0, x.f1, x.f2]).2 == 0 then 0 else 31) else 4) = (0 : Int)
  rw [hf, hn]
  show (if (verV (pub key : Int) (signV (key : Int) (once : Int) [x.f0, x.f1, x.f2]).1 (signV (key : Int) (once : Int) [x.f0, x.f1, x.f2]).2.1 [x.f0, x.f1, x.f2]).1 && (verV (pub key : Int) (signV (key : Int) (once : Int) [x.f0, x.f1, x.f2]).1 (signV (key : Int) (once : Int) [x.f0, x.f1, x.f2]).2.1 [x.f0, x.f1, x.f2]).2 == 0 then 0 else 31) = (0 : Int)
  rw [verV_made k0 k1 o0 o1]
  rfl
end Go.Proofs.YtcnkenknbmmglaaDoor.P
