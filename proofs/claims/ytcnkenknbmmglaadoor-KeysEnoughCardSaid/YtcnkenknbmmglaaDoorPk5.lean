/- The village's keys; one attestation for the fourth household (KeysOthers). -/
import Derived.Test.YtcnkenknbmmglaaDoorPk4
import Derived.Test.YtcnkenknbmmglaaDoorXvill
set_option linter.unusedSimpArgs false
set_option linter.unusedVariables false
namespace Go.Proofs.YtcnkenknbmmglaaDoor.P
open Go Go.RowKit Go.Proofs.YtcnkenknbmmglaaDoorW.PrintWords Go.Proofs.YtcnkenknbmmglaaDoorW.PrintLast Go.Proofs.YtcnkenknbmmglaaDoorW.PrintMore

theorem keyV_sec (n : Int) : keyV (pub (sec n) : Int) = true := key_pub (sec_lt n).1 (sec_lt n).2
theorem vill_keys (n0 n1 n2 n3 : Int) : Keys (villV n0 n1 n2 n3) := by
  refine ⟨by simp [villV, homeK, ltK], fun x hx => ?_⟩
  simp only [villV, homeK, List.mem_cons, List.not_mem_nil, or_false] at hx
  rcases hx with rfl | rfl | rfl | rfl <;> exact ok_of rfl rfl (keyV_sec _)
theorem vill_valid (n0 n1 n2 n3 : Int) : validB (villV n0 n1 n2 n3) = true := (valid_iff _).2 ⟨by show 4 ≤ 1000; omega, vill_keys n0 n1 n2 n3⟩
theorem vill_find (n0 n1 n2 n3 : Int) (k : Nat) (hk : k < 4) (on : Int) (ho : 0 ≤ on) : findV (villV n0 n1 n2 n3) ((k : Int) + 1) on = ((pub (sec (fourI n0 n1 n2 n3 k)) : Int), true) := by
  have hm : homeK ((k : Int) + 1) (fourI n0 n1 n2 n3 k) ∈ villV n0 n1 n2 n3 := by
    match k, hk with
    | 0, _ => simp [villV, fourI]
    | 1, _ => simp [villV, fourI]
    | 2, _ => simp [villV, fourI]
    | 3, _ => simp [villV, fourI]
  refine find_some (vill_keys n0 n1 n2 n3).ord (x := homeK ((k : Int) + 1) (fourI n0 n1 n2 n3 k)) hm ⟨rfl, ho⟩ (fun y hy _ => ?_)
  simp only [villV, homeK, List.mem_cons, List.not_mem_nil, or_false] at hy
  rcases hy with rfl | rfl | rfl | rfl <;> exact Int.le_refl _
theorem vill_late (n0 n1 n2 n3 : Int) (x : S49) (hx : 1 ≤ x.f2) : lateB (villV n0 n1 n2 n3) x = false := by
  cases h : lateB (villV n0 n1 n2 n3) x with
  | false => rfl
  | true =>
    obtain ⟨y, hy, -, h2⟩ := (late_iff (vill_keys n0 n1 n2 n3) x).1 h
    simp only [villV, homeK, List.mem_cons, List.not_mem_nil, or_false] at hy
    rcases hy with rfl | rfl | rfl | rfl <;> (simp at h2; omega)
/-- Attestations that all say the same are formed. -/
theorem formed_of {ns : List Int} {need : Int} {v : List S28} {x : S49} (h1 : ns.length ≤ 8) (h2 : 1 ≤ need) (h3 : need ≤ 8) (h4 : 1 ≤ v.length) (h5 : v.length ≤ 16) (ha : ascB ns 0 = true) (hx : keyOk x = true) (hn : ns.contains x.f0 = false) (hv : ∀ y ∈ v, y.f0 = x.f0 ∧ y.f1 = x.f1 ∧ y.f2 = x.f2) : formedV ns need v = true ∧ newK v = x := by
  obtain ⟨k0, k1, k2⟩ := keyOk_parts hx
  have hm : rd_T28 v 0 ∈ v := by
    have h := rd_getV (l := v) (k := 0) (by omega)
    rw [show rd_T28 v 0 = v[0] from h]
    exact List.getElem_mem _
  obtain ⟨e0, e1, e2⟩ := hv _ hm
  have hany : v.any (othV (rd_T28 v 0)) = false := by
    rw [List.any_eq_false]
    intro y hy
    obtain ⟨g0, g1, g2⟩ := hv y hy
    simp [othV, g0, g1, g2, e0, e1, e2]
  refine ⟨?_, ?_⟩
  · unfold formedV saysB
    rw [hany, e0, e1, e2, k0, k1, k2, ha, hn, decide_eq_true h1, decide_eq_true h2, decide_eq_true h3, decide_eq_true h4, decide_eq_true h5]
    rfl
  · unfold newK
    rw [e0, e1, e2]
/-- Renew where all is formed and in time. -/
theorem renew_eq {l : List S49} {ns : List Int} {need : Int} {v : List S28} {x : S49} (h1 : validB l = true) (h2 : formedV ns need v = true ∧ newK v = x) (h3 : lateB l x = false) (hl : l.length ≠ 1000) {ks : List Int} {e : Int} (ht : allTry l ns x v [] = (ks, e)) :
    renewV l ns need v = if e = 0 then (if (ks.length : Int) < need then ([], 33) else (insK l x, 0)) else ([], e) := by
  unfold renewV insK
  rw [h1, h2.1, h2.2, if_pos (show (true && true) = true from rfl), h3, if_neg (by decide), ht, if_neg hl]
end Go.Proofs.YtcnkenknbmmglaaDoor.P
