/- Chapter 20: the cores of KeysChain and KeysEnough. -/
import Derived.Test.YtcnkenknbmmglaaDoorPk5
set_option linter.unusedSimpArgs false
set_option linter.unusedVariables false
namespace Go.Proofs.YtcnkenknbmmglaaDoor.P
open Go Go.RowKit Go.Proofs.YtcnkenknbmmglaaDoorW.PrintWords Go.Proofs.YtcnkenknbmmglaaDoorW.PrintLast Go.Proofs.YtcnkenknbmmglaaDoorW.PrintMore Go.Proofs.YtcnkenknbmmglaaDoor.Ord

/-- A signature made with a secret, told against a public key. -/
theorem sig_core (pk key once : Nat) (hp : pk < 1073741789) (k0 : 0 < key) (k1 : key < 1073741789) (o0 : 0 < once) (o1 : once < 1073741789) (h p on b : Int) :
    ∃ right : Bool, verV (pub pk : Int) (mkV h p on b key once).f4.f0 (mkV h p on b key once).f4.f1 [h, p, on] = (right, 0) ∧ (pk = key → right = true) := by
  have hs := signV_ok (key := key) (once := once) k0 k1 o0 o1 [h, p, on]
  have hmem : memB (pub pk : Int) = true := (memB_nat _).2 ⟨pub_lt _, pub_el _⟩
  have hc := chal_lt (pwZ 4 (once : Nat) :: pwZ 4 (key : Nat) :: [h, p, on])
  have hk := okV_lt (once : Nat) (chal (pwZ 4 (once : Nat) :: pwZ 4 (key : Nat) :: [h, p, on])) (key : Nat)
  have e0 : (mkV h p on b key once).f4.f0 = chal (pwZ 4 (once : Nat) :: pwZ 4 (key : Nat) :: [h, p, on]) := by
    show (signV _ _ _).1 = _
    rw [hs]
  have e1 : (mkV h p on b key once).f4.f1 = okV (once : Nat) (chal (pwZ 4 (once : Nat) :: pwZ 4 (key : Nat) :: [h, p, on])) (key : Nat) := by
    show (signV _ _ _).2.1 = _
    rw [hs]
  have hv2 : (verV (pub pk : Int) (mkV h p on b key once).f4.f0 (mkV h p on b key once).f4.f1 [h, p, on]).2 = 0 := by
    unfold verV
    rw [e0, e1, hmem, expB_of hc.1 hc.2, expB_of hk.1 hk.2, if_pos (show (true && (true && true)) = true from rfl)]
  refine ⟨(verV (pub pk : Int) (mkV h p on b key once).f4.f0 (mkV h p on b key once).f4.f1 [h, p, on]).1, Prod.ext rfl hv2, fun hsec => ?_⟩
  subst hsec
  have hm := verV_made (key := pk) (once := once) k0 k1 o0 o1 [h, p, on]
  show (verV (pub pk : Int) (signV (pk : Nat) (once : Nat) [h, p, on]).1 (signV (pk : Nat) (once : Nat) [h, p, on]).2.1 [h, p, on]).1 = true
  rw [hm]
/-- One attestation for a key, asked for once. -/
theorem one_core {l : List S49} {ns : List Int} {h p on b : Int} {pk key once : Nat} (hp : pk < 1073741789) (k0 : 0 < key) (k1 : key < 1073741789) (o0 : 0 < once) (o1 : once < 1073741789)
    (hl : validB l = true) (hn : ns.length ≤ 8) (ha : ascB ns 0 = true) (hx : keyOk ⟨h, p, on⟩ = true) (hnx : ns.contains h = false) (hnb : ns.contains b = true) (hf : findV l b on = ((pub pk : Int), true)) (hlen : l.length ≠ 1000) :
    (lateB l ⟨h, p, on⟩ = true → renewV l ns 1 [mkV h p on b key once] = ([], 6)) ∧
    ∃ right : Bool, verV (pub pk : Int) (mkV h p on b key once).f4.f0 (mkV h p on b key once).f4.f1 [h, p, on] = (right, 0) ∧ (pk = key → right = true) ∧
      (lateB l ⟨h, p, on⟩ = false → (right = true → renewV l ns 1 [mkV h p on b key once] = (insK l ⟨h, p, on⟩, 0)) ∧ (right = false → renewV l ns 1 [mkV h p on b key once] = ([], 31))) := by
  have hF := formed_of (ns := ns) (need := 1) (v := [mkV h p on b key once]) (x := ⟨h, p, on⟩) hn (by decide) (by decide) (by simp) (by simp) ha hx hnx (by
    intro y hy
    rw [List.mem_singleton] at hy
    subst hy
    exact ⟨rfl, rfl, rfl⟩)
  refine ⟨fun hlate => ?_, ?_⟩
  · unfold renewV
    rw [hl, hF.1, hF.2, if_pos (show (true && true) = true from rfl), hlate, if_pos rfl]
  obtain ⟨right, hv, hsame⟩ := sig_core pk key once hp k0 k1 o0 o1 h p on b
  refine ⟨right, hv, hsame, fun hlate => ?_⟩
  have htry : tryV l ns ⟨h, p, on⟩ (mkV h p on b key once) = if right then 0 else 31 := by
    unfold tryV
    show (if (findV l b on).2 && ns.contains b then (if (verV (findV l b on).1 (mkV h p on b key once).f4.f0 (mkV h p on b key once).f4.f1 [h, p, on]).1 && (verV (findV l b on).1 (mkV h p on b key once).f4.f0 (mkV h p on b key once).f4.f1 [h, p, on]).2 == 0 then (0 : Int) else 31) else 4) = _
    rw [hf, hnb, if_pos (show (true && true) = true from rfl)]
    show (if (verV (pub pk : Int) (mkV h p on b key once).f4.f0 (mkV h p on b key once).f4.f1 [h, p, on]).1 && (verV (pub pk : Int) (mkV h p on b key once).f4.f0 (mkV h p on b key once).f4.f1 [h, p, on]).2 == 0 then (0 : Int) else 31) = _
    rw [hv]
    cases right <;> rfl
  refine ⟨fun hr => ?_, fun hr => ?_⟩
  · subst hr
    have ht : allTry l ns ⟨h, p, on⟩ [mkV h p on b key once] [] = ([b], 0) := by
      rw [allTry, if_pos (by rw [htry]; rfl)]
      rfl
    rw [renew_eq hl hF hlate hlen ht]
    rfl
  · subst hr
    have ht : allTry l ns ⟨h, p, on⟩ [mkV h p on b key once] [] = ([], 31) := by
      rw [allTry_ne _ _ _ _ _ (by rw [htry]; decide), htry]
      rfl
    rw [renew_eq hl hF hlate hlen ht]
    rfl
theorem vill_len (n0 n1 n2 n3 : Int) : (villV n0 n1 n2 n3).length = 4 := rfl
/-- What KeysChain finds. -/
theorem chain_core (n0 n1 n2 n3 fresh once on after : Int) (ho : 1 ≤ on ∧ on ≤ 20000) (ha : on ≤ after ∧ after ≤ 36524) :
    renewV (villV n0 n1 n2 n3) [1] 1 [mkV 4 (pub (sec fresh) : Int) on 1 (sec n0) (sec once)] = (insK (villV n0 n1 n2 n3) ⟨4, (pub (sec fresh) : Int), on⟩, 0) ∧
    (∃ m1, renewV (insK (villV n0 n1 n2 n3) ⟨4, (pub (sec fresh) : Int), on⟩) [4] 1 [mkV 2 64 after 4 (sec fresh) (sec once)] = (m1, 0)) ∧
    ∃ (old : Bool) (j : Int) (m2 : List S49), verV (pub (sec n3) : Int) (mkV 2 64 (on - 1) 4 (sec fresh) (sec once)).f4.f0 (mkV 2 64 (on - 1) 4 (sec fresh) (sec once)).f4.f1 [2, 64, on - 1] = (old, 0) ∧
      renewV (insK (villV n0 n1 n2 n3) ⟨4, (pub (sec fresh) : Int), on⟩) [4] 1 [mkV 2 64 (on - 1) 4 (sec fresh) (sec once)] = (m2, j) ∧ (on = 1 → j = 6) ∧ (1 < on → (j = 0 ↔ old = true)) := by
  have hkx : keyOk (⟨4, (pub (sec fresh) : Int), on⟩ : S49) = true := ok_of rfl (dayV_iff.2 (by show 0 ≤ on ∧ on ≤ 36524; omega)) (keyV_sec _)
  have hlv := vill_late n0 n1 n2 n3 ⟨4, (pub (sec fresh) : Int), on⟩ ho.1
  have hm := insK_keys (vill_keys n0 n1 n2 n3) hkx hlv
  have hlenm := insK_len (villV n0 n1 n2 n3) ⟨4, (pub (sec fresh) : Int), on⟩
  rw [vill_len] at hlenm
  have hmv : validB (insK (villV n0 n1 n2 n3) ⟨4, (pub (sec fresh) : Int), on⟩) = true := (valid_iff _).2 ⟨by omega, hm⟩
  refine ⟨?_, ?_, ?_⟩
  · obtain ⟨-, right, -, hs, hr⟩ := one_core (l := villV n0 n1 n2 n3) (ns := [1]) (h := 4) (p := (pub (sec fresh) : Int)) (on := on) (b := 1) (pk := sec n0) (key := sec n0) (once := sec once) (sec_lt _).2 (sec_lt _).1 (sec_lt _).2 (sec_lt _).1 (sec_lt _).2 (vill_valid n0 n1 n2 n3) (by decide) (by decide) hkx (by decide) (by decide) (vill_find n0 n1 n2 n3 0 (by omega) on (by omega)) (by rw [vill_len]; omega)
    exact (hr hlv).1 (hs rfl)
  · have hlate : lateB (insK (villV n0 n1 n2 n3) ⟨4, (pub (sec fresh) : Int), on⟩) ⟨2, 64, after⟩ = false := by
      cases h : lateB (insK (villV n0 n1 n2 n3) ⟨4, (pub (sec fresh) : Int), on⟩) ⟨2, 64, after⟩ with
      | false => rfl
      | true =>
        obtain ⟨y, hy, g1, g2⟩ := (late_iff hm _).1 h
        rcases insK_mem.1 hy with rfl | hy
        · simp at g1
        · simp only [villV, homeK, List.mem_cons, List.not_mem_nil, or_false] at hy
          rcases hy with rfl | rfl | rfl | rfl <;> (simp at g1 g2; try omega)
    have hf := insK_new (vill_keys n0 n1 n2 n3) hkx hlv (on := after) ha.1
    obtain ⟨-, right, -, hs, hr⟩ := one_core (l := insK (villV n0 n1 n2 n3) ⟨4, (pub (sec fresh) : Int), on⟩) (ns := [4]) (h := 2) (p := 64) (on := after) (b := 4) (pk := sec fresh) (key := sec fresh) (once := sec once) (sec_lt _).2 (sec_lt _).1 (sec_lt _).2 (sec_lt _).1 (sec_lt _).2 hmv (by decide) (by decide) (ok_of rfl (dayV_iff.2 (by show 0 ≤ after ∧ after ≤ 36524; omega)) key_64) (by decide) (by decide) hf (by omega)
    exact ⟨_, (hr hlate).1 (hs rfl)⟩
  · have hf : findV (insK (villV n0 n1 n2 n3) ⟨4, (pub (sec fresh) : Int), on⟩) 4 (on - 1) = ((pub (sec n3) : Int), true) := by
      rw [insK_old (vill_keys n0 n1 n2 n3) hkx hlv (h := 4) (on := on - 1) (by intro hc; have := hc.2; simp at this; omega)]
      exact vill_find n0 n1 n2 n3 3 (by omega) (on - 1) (by omega)
    obtain ⟨h1, right, hv, -, hr⟩ := one_core (l := insK (villV n0 n1 n2 n3) ⟨4, (pub (sec fresh) : Int), on⟩) (ns := [4]) (h := 2) (p := 64) (on := on - 1) (b := 4) (pk := sec n3) (key := sec fresh) (once := sec once) (sec_lt _).2 (sec_lt _).1 (sec_lt _).2 (sec_lt _).1 (sec_lt _).2 hmv (by decide) (by decide) (ok_of rfl (dayV_iff.2 (by show 0 ≤ on - 1 ∧ on - 1 ≤ 36524; omega)) key_64) (by decide) (by decide) hf (by omega)
    by_cases h2 : on = 1
    · have hlate : lateB (insK (villV n0 n1 n2 n3) ⟨4, (pub (sec fresh) : Int), on⟩) ⟨2, 64, on - 1⟩ = true := by
        refine (late_iff hm _).2 ⟨homeK 2 n1, insK_mem.2 (Or.inr (by simp [villV])), rfl, ?_⟩
        show on - 1 ≤ 0
        omega
      exact ⟨right, 6, [], hv, h1 hlate, fun _ => rfl, fun h => by omega⟩
    · have hlate : lateB (insK (villV n0 n1 n2 n3) ⟨4, (pub (sec fresh) : Int), on⟩) ⟨2, 64, on - 1⟩ = false := by
        cases h : lateB (insK (villV n0 n1 n2 n3) ⟨4, (pub (sec fresh) : Int), on⟩) ⟨2, 64, on - 1⟩ with
        | false => rfl
        | true =>
          obtain ⟨y, hy, g1, g2⟩ := (late_iff hm _).1 h
          rcases insK_mem.1 hy with rfl | hy
          · simp at g1
          · simp only [villV, homeK, List.mem_cons, List.not_mem_nil, or_false] at hy
            rcases hy with rfl | rfl | rfl | rfl <;> (simp at g1 g2; try omega)
      cases right with
      | true => exact ⟨true, 0, _, hv, (hr hlate).1 rfl, fun h => absurd h h2, fun _ => by simp⟩
      | false => exact ⟨false, 31, _, hv, (hr hlate).2 rfl, fun h => absurd h h2, fun _ => by simp⟩
/-- What KeysEnough finds: attestations of the first households. -/
theorem tries {l : List S49} {ns : List Int} {x : S49} : ∀ (v : List S28) (ks : List Int), (∀ y ∈ v, tryV l ns x y = 0) → allTry l ns x v ks = (v.foldl (fun ks y => addS ks y.f3) ks, 0)
  | [], ks, _ => rfl
  | y :: v, ks, h => by
    rw [allTry, if_pos (h y List.mem_cons_self), tries v _ (fun z hz => h z (List.mem_cons_of_mem _ hz))]
    rfl
theorem mk_says {h p on b : Int} {key once : Int} : (mkV h p on b key once).f0 = h ∧ (mkV h p on b key once).f1 = p ∧ (mkV h p on b key once).f2 = on := ⟨rfl, rfl, rfl⟩
/-- The attestation of the household k + 1. -/
def enX (n0 n1 n2 n3 tp on once : Int) (k : Nat) : S28 := mkV 4 tp on ((k : Int) + 1) (sec (fourI n0 n1 n2 n3 k)) (sec (once % 1073741789 + ((k : Int) + 1)))
def enL (n0 n1 n2 n3 tp on once : Int) : List S28 := [enX n0 n1 n2 n3 tp on once 0, enX n0 n1 n2 n3 tp on once 1, enX n0 n1 n2 n3 tp on once 2]
theorem enL_take (n0 n1 n2 n3 tp on once : Int) (k : Nat) (hk : k < 3) : (enL n0 n1 n2 n3 tp on once).take (k + 1) = (enL n0 n1 n2 n3 tp on once).take k ++ [enX n0 n1 n2 n3 tp on once k] := by
  match k, hk with
  | 0, _ => rfl
  | 1, _ => rfl
  | 2, _ => rfl
theorem enL_rev (n0 n1 n2 n3 tp on once : Int) (k : Nat) (hk : k < 3) : ((enL n0 n1 n2 n3 tp on once).take (k + 1)).reverse = enX n0 n1 n2 n3 tp on once k :: ((enL n0 n1 n2 n3 tp on once).take k).reverse := by
  rw [enL_take n0 n1 n2 n3 tp on once k hk, List.reverse_append]
  rfl
theorem enough_late (n0 n1 n2 n3 : Int) (p on : Int) : insK (villV n0 n1 n2 n3) ⟨4, p, on⟩ = villV n0 n1 n2 n3 ++ [⟨4, p, on⟩] := by
  have h : atV (villV n0 n1 n2 n3) ⟨4, p, on⟩ = (villV n0 n1 n2 n3).length := beh_end (vill_keys n0 n1 n2 n3).ord (by
    intro x hx
    simp only [villV, homeK, List.mem_cons, List.not_mem_nil, or_false] at hx
    rcases hx with rfl | rfl | rfl | rfl <;> (unfold upTo; simp))
  unfold insK
  rw [h, List.take_length, List.drop_length]
/-- Renew, where all that is handed in is right, and says one and the same. -/
theorem enough_one (n0 n1 n2 n3 tp on once want : Int) (htp : keyV tp = true) (ho : 1 ≤ on ∧ on ≤ 36524) (hw : 1 ≤ want ∧ want ≤ 3) (v : List S28) (hv1 : 1 ≤ v.length) (hv2 : v.length ≤ 16) (hv : ∀ y ∈ v, ∃ k, k < 3 ∧ y = enX n0 n1 n2 n3 tp on once k) (c : Nat) (hc : (v.foldl (fun ks y => addS ks y.f3) []).length = c) :
    renewV (villV n0 n1 n2 n3) [1, 2, 3] want v = if (c : Int) < want then ([], 33) else (villV n0 n1 n2 n3 ++ [⟨4, tp, on⟩], 0) := by
  have hkx : keyOk (⟨4, tp, on⟩ : S49) = true := ok_of rfl (dayV_iff.2 (by show 0 ≤ on ∧ on ≤ 36524; omega)) htp
  have hlv := vill_late n0 n1 n2 n3 ⟨4, tp, on⟩ ho.1
  have hF := formed_of (ns := [1, 2, 3]) (need := want) (v := v) (x := ⟨4, tp, on⟩) (by decide) (by omega) (by omega) hv1 hv2 (by decide) hkx (by rfl) (by
    intro y hy
    obtain ⟨k, -, rfl⟩ := hv y hy
    exact ⟨rfl, rfl, rfl⟩)
  have ht := tries (l := villV n0 n1 n2 n3) (ns := [1, 2, 3]) (x := ⟨4, tp, on⟩) v [] (by
    intro y hy
    obtain ⟨k, hk, rfl⟩ := hv y hy
    refine try_made (x := ⟨4, tp, on⟩) (sec_lt _).1 (sec_lt _).2 (sec_lt _).1 (sec_lt _).2 (vill_find n0 n1 n2 n3 k (by omega) on (by omega)) ?_
    match k, hk with
    | 0, _ => decide
    | 1, _ => decide
    | 2, _ => decide)
  rw [renew_eq (vill_valid n0 n1 n2 n3) hF hlv (by rw [vill_len]; omega) ht, if_pos rfl, hc, enough_late]
theorem enough_core (n0 n1 n2 n3 tp on once want : Int) (k : Nat) (htp : keyV tp = true) (ho : 1 ≤ on ∧ on ≤ 36524) (hw : 1 ≤ want ∧ want ≤ 3) (hk1 : 1 ≤ k) (hk : k ≤ 3) :
    renewV (villV n0 n1 n2 n3) [1, 2, 3] want ((enL n0 n1 n2 n3 tp on once).take k) = (if (k : Int) < want then ([], 33) else (villV n0 n1 n2 n3 ++ [⟨4, tp, on⟩], 0)) ∧
    renewV (villV n0 n1 n2 n3) [1, 2, 3] want (((enL n0 n1 n2 n3 tp on once).take k).reverse ++ [enX n0 n1 n2 n3 tp on once 0]) = (if (k : Int) < want then ([], 33) else (villV n0 n1 n2 n3 ++ [⟨4, tp, on⟩], 0)) := by
  have hmem : ∀ y ∈ (enL n0 n1 n2 n3 tp on once).take k, ∃ k, k < 3 ∧ y = enX n0 n1 n2 n3 tp on once k := by
    intro y hy
    have hy := List.mem_of_mem_take hy
    simp only [enL, List.mem_cons, List.not_mem_nil, or_false] at hy
    rcases hy with rfl | rfl | rfl
    · exact ⟨0, by omega, rfl⟩
    · exact ⟨1, by omega, rfl⟩
    · exact ⟨2, by omega, rfl⟩
  have hlen : ((enL n0 n1 n2 n3 tp on once).take k).length = k := by rw [List.length_take]; simp [enL]; omega
  refine ⟨enough_one n0 n1 n2 n3 tp on once want htp ho hw _ (by omega) (by omega) hmem k ?_, enough_one n0 n1 n2 n3 tp on once want htp ho hw _ (by simp) (by simp; omega) ?_ k ?_⟩
  · match k, hk1, hk with
    | 1, _, _ => rfl
    | 2, _, _ => rfl
    | 3, _, _ => rfl
  · intro y hy
    rcases List.mem_append.1 hy with hy | hy
    · exact hmem y (List.mem_reverse.1 hy)
    · exact ⟨0, by omega, by simpa using hy⟩
  · match k, hk1, hk with
    | 1, _, _ => rfl
    | 2, _, _ => rfl
    | 3, _, _ => rfl
end Go.Proofs.YtcnkenknbmmglaaDoor.P
