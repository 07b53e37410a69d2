/- Chapter 20: KeysOthers, the law walked whole. -/
import Derived.Test.YtcnkenknbmmglaaDoorPk5
import Derived.Test.YtcnkenknbmmglaaDoorXhead20
set_option linter.unusedSimpArgs false
set_option linter.unusedVariables false
namespace Go.Proofs.YtcnkenknbmmglaaDoor.P
open Go Go.RowKit Go.Proofs.YtcnkenknbmmglaaDoorW.PrintWords Go.Proofs.YtcnkenknbmmglaaDoorW.PrintLast Go.Proofs.YtcnkenknbmmglaaDoorW.PrintMore Go.Proofs.YtcnkenknbmmglaaDoor.Ord

/-- What KeysOthers finds. -/
theorem others_core (n0 n1 n2 n3 on other once : Int) (ho : 1 ≤ on ∧ on ≤ 36524) :
    ∃ (right : Bool) (g : Int) (m : List S49), verV (pub (sec n0) : Int) (mkV 4 16 on 1 (sec other) (sec once)).f4.f0 (mkV 4 16 on 1 (sec other) (sec once)).f4.f1 [4, 16, on] = (right, 0) ∧
      renewV (villV n0 n1 n2 n3) [1, 2] 1 [mkV 4 16 on 1 (sec other) (sec once)] = (m, g) ∧ (g = 0 ↔ right = true) ∧ (right = false → g = 31) ∧ (sec other = sec n0 → right = true) := by
  obtain ⟨x, hx⟩ : ∃ x : S49, (⟨4, 16, on⟩ : S49) = x := ⟨_, rfl⟩
  have hs := signV_ok (key := sec other) (once := sec once) (sec_lt other).1 (sec_lt other).2 (sec_lt once).1 (sec_lt once).2 [4, 16, on]
  have hmem : memB (pub (sec n0) : Int) = true := (memB_nat _).2 ⟨pub_lt _, pub_el _⟩
  have hc := chal_lt (pwZ 4 (sec once : Nat) :: pwZ 4 (sec other : Nat) :: [4, 16, on])
  have hk := okV_lt (sec once : Nat) (chal (pwZ 4 (sec once : Nat) :: pwZ 4 (sec other : Nat) :: [4, 16, on])) (sec other : Nat)
  have e0 : (mkV 4 16 on 1 (sec other) (sec once)).f4.f0 = chal (pwZ 4 (sec once : Nat) :: pwZ 4 (sec other : Nat) :: [4, 16, on]) := by
    show (signV _ _ _).1 = _
    rw [hs]
  have e1 : (mkV 4 16 on 1 (sec other) (sec once)).f4.f1 = okV (sec once : Nat) (chal (pwZ 4 (sec once : Nat) :: pwZ 4 (sec other : Nat) :: [4, 16, on])) (sec other : Nat) := by
    show (signV _ _ _).2.1 = _
    rw [hs]
  have hv2 : (verV (pub (sec n0) : Int) (mkV 4 16 on 1 (sec other) (sec once)).f4.f0 (mkV 4 16 on 1 (sec other) (sec once)).f4.f1 [4, 16, on]).2 = 0 := by
    unfold verV
    rw [e0, e1, hmem, expB_of hc.1 hc.2, expB_of hk.1 hk.2, if_pos (show (true && (true && true)) = true from rfl)]
  obtain ⟨right, hr⟩ : ∃ r, (verV (pub (sec n0) : Int) (mkV 4 16 on 1 (sec other) (sec once)).f4.f0 (mkV 4 16 on 1 (sec other) (sec once)).f4.f1 [4, 16, on]).1 = r := ⟨_, rfl⟩
  have hfind := vill_find n0 n1 n2 n3 0 (by omega) on (by omega)
  have hF := formed_of (ns := [1, 2]) (need := 1) (v := [mkV 4 16 on 1 (sec other) (sec once)]) (x := ⟨4, 16, on⟩) (by decide) (by decide) (by decide) (by simp) (by simp) (by decide) (ok_of rfl (dayV_iff.2 (by show 0 ≤ on ∧ on ≤ 36524; omega)) key_16) (by rfl) (by
    intro y hy
    rw [List.mem_singleton] at hy
    subst hy
    exact ⟨rfl, rfl, rfl⟩)
  have htry : tryV (villV n0 n1 n2 n3) [1, 2] ⟨4, 16, on⟩ (mkV 4 16 on 1 (sec other) (sec once)) = if right then 0 else 31 := by
    unfold tryV
    have hf : findV (villV n0 n1 n2 n3) (mkV 4 16 on 1 (sec other) (sec once)).f3 on = ((pub (sec n0) : Int), true) := hfind
    show (if (findV (villV n0 n1 n2 n3) (mkV 4 16 on 1 (sec other) (sec once)).f3 on).2 && true then _ else _) = _
    rw [hf, if_pos (show (true && true) = true from rfl)]
    show (if (verV (pub (sec n0) : Int) (mkV 4 16 on 1 (sec other) (sec once)).f4.f0 (mkV 4 16 on 1 (sec other) (sec once)).f4.f1 [4, 16, on]).1 && (verV (pub (sec n0) : Int) (mkV 4 16 on 1 (sec other) (sec once)).f4.f0 (mkV 4 16 on 1 (sec other) (sec once)).f4.f1 [4, 16, on]).2 == 0 then (0 : Int) else 31) = _
    rw [hr, hv2]
    cases right <;> rfl
  have hpair : verV (pub (sec n0) : Int) (mkV 4 16 on 1 (sec other) (sec once)).f4.f0 (mkV 4 16 on 1 (sec other) (sec once)).f4.f1 [4, 16, on] = (right, 0) := Prod.ext hr hv2
  have hsame : sec other = sec n0 → right = true := by
    intro hsec
    have hm := verV_made (key := sec other) (once := sec once) (sec_lt other).1 (sec_lt other).2 (sec_lt once).1 (sec_lt once).2 [4, 16, on]
    rw [hsec] at hm
    rw [← hr]
    show (verV (pub (sec n0) : Int) (signV (sec other : Nat) (sec once : Nat) [4, 16, on]).1 (signV (sec other : Nat) (sec once : Nat) [4, 16, on]).2.1 [4, 16, on]).1 = true
    rw [hsec, hm]
  cases right with
  | true =>
    have ht : allTry (villV n0 n1 n2 n3) [1, 2] ⟨4, 16, on⟩ [mkV 4 16 on 1 (sec other) (sec once)] [] = ([1], 0) := by
      rw [allTry, if_pos (by rw [htry]; rfl)]
      rfl
    refine ⟨true, 0, insK (villV n0 n1 n2 n3) ⟨4, 16, on⟩, hpair, ?_, by simp, by simp, hsame⟩
    rw [renew_eq (vill_valid n0 n1 n2 n3) hF (vill_late n0 n1 n2 n3 _ ho.1) (by show ¬ (4 = 1000); omega) ht]
    rfl
  | false =>
    have ht : allTry (villV n0 n1 n2 n3) [1, 2] ⟨4, 16, on⟩ [mkV 4 16 on 1 (sec other) (sec once)] [] = ([], 31) := by
      rw [allTry_ne _ _ _ _ _ (by rw [htry]; decide), htry]
      rfl
    refine ⟨false, 31, [], hpair, ?_, by simp, by simp, hsame⟩
    rw [renew_eq (vill_valid n0 n1 n2 n3) hF (vill_late n0 n1 n2 n3 _ ho.1) (by show ¬ (4 = 1000); omega) ht]
    rfl
end Go.Proofs.YtcnkenknbmmglaaDoor.P
