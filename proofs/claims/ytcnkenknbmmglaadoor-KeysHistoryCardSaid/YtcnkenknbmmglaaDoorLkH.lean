/- Chapter 20: KeysHistory. -/
import Derived.Test.YtcnkenknbmmglaaDoorPk4
import Derived.Test.YtcnkenknbmmglaaDoorXhead20
import Derived.Test.YtcnkenknbmmglaaDoorPx17
import Derived.Test.YtcnkenknbmmglaaDoorPx19
set_option linter.unusedSimpArgs false
set_option linter.unusedVariables false
namespace Go.Proofs.YtcnkenknbmmglaaDoor.P
open Go Go.RowKit Go.Proofs.YtcnkenknbmmglaaDoorW.PrintWords Go.Proofs.YtcnkenknbmmglaaDoorW.PrintLast Go.Proofs.YtcnkenknbmmglaaDoorW.PrintMore

theorem few_f (l : List S49) (ns : List Int) (v : List S28) : cohousinglaw20_few.f l ns v = some (decide (l.length ≤ 40) && (decide (ns.length ≤ 20) && decide (v.length ≤ 20))) := by
  unfold cohousinglaw20_few.f
  by_cases h1 : l.length ≤ 40
  · rw [if_pos (by omega), decide_eq_true h1]
    by_cases h2 : ns.length ≤ 20
    · rw [if_pos (by omega), decide_eq_true h2]
      by_cases h3 : v.length ≤ 20
      · rw [decide_eq_true (by omega : (v.length : Int) ≤ 20), decide_eq_true h3]; rfl
      · rw [decide_eq_false (by omega : ¬ (v.length : Int) ≤ 20), decide_eq_false h3]; rfl
    · rw [if_neg (by omega), decide_eq_false h2]; rfl
  · rw [if_neg (by omega), decide_eq_false h1]; rfl
theorem history_ev (l : List S49) (ns : List Int) (need : Int) (v : List S28) (home day : Int) (hh : 0 ≤ home ∧ home < 256) (hd : 0 ≤ day ∧ day < 65536) : ∃ K, ∀ k, K ≤ k → cohousinglaw20_KeysHistory.f k l ns need v home day = some true := by
  refine ⟨1100, fun k hk => ?_⟩
  obtain ⟨k, rfl⟩ : ∃ n, k = n + 2 := ⟨k - 2, by omega⟩
  unfold cohousinglaw20_KeysHistory.f
  rw [show cohousinglaw20_head.f = some true from rfl, obs, few_f, obs]
  by_cases hf : (decide (l.length ≤ 40) && (decide (ns.length ≤ 20) && decide (v.length ≤ 20))) = true
  case neg => rw [if_neg hf]
  rw [if_pos hf, show keys_Renew.f l ns need v = some (renewV l ns need v) from rfl, obs]
  simp only [Bool.and_eq_true, decide_eq_true_eq] at hf
  obtain ⟨hl40, -, -⟩ := hf
  obtain ⟨r, hr⟩ : ∃ r, renewV l ns need v = r := ⟨_, rfl⟩
  obtain ⟨m, e⟩ := r
  rw [hr]
  by_cases he : e = 0
  case neg =>
    have hm : m = [] := by
      have h := renew_err (l := l) (ns := ns) (need := need) (v := v) (by rw [hr]; exact he)
      rw [hr] at h
      exact h
    rw [if_neg he, if_pos rfl, hm]
    rfl
  subst he
  obtain ⟨h1, h2, h3, h4, h5, -, -⟩ := renew_ok hr (fun _ _ => trivial)
  obtain ⟨n1, n2, n3, n4, n5⟩ := formed_len h2
  have hK := ((valid_iff l).1 h1).2
  have hx := new_ok h2
  have hMk := insK_keys hK hx h3
  have hlen := insK_len l (newK v)
  rw [← h5] at hMk hlen
  have hMv : validB m = true := (valid_iff m).2 ⟨by omega, hMk⟩
  rw [if_pos rfl, if_neg (by show ¬ ((v.length : Int) = 0); omega)]
  show (keys_Valid.f (k + 2) m).bind _ = _
  rw [valid_f m (k + 2) (by omega), obs, hMv, if_pos rfl]
  have hb : ((m.length : Int) != wrap64 ((l.length : Int) + 1)) = false := by
    rw [hlen, show wrap64 ((l.length : Int) + 1) = ((l.length + 1 : Nat) : Int) by unfold wrap64; omega]
    simp
  show cohousinglaw20_KeysHistory.j0 (k + 2) l v home day true m ((m.length : Int) != wrap64 ((l.length : Int) + 1)) = _
  rw [hb]
  have e1 : wrap64 (1 + Int.tmod (wrap64 home) 64) = 1 + home % 64 := by
    rw [show wrap64 home = home by unfold wrap64; omega, Int.tmod_eq_emod_of_nonneg hh.1]
    unfold wrap64; omega
  have e2 : Int.tmod (wrap64 day) 36525 = day % 36525 := by
    rw [show wrap64 day = day by unfold wrap64; omega, Int.tmod_eq_emod_of_nonneg hd.1]
  obtain ⟨h, hh2⟩ : ∃ h, 1 + home % 64 = h := ⟨_, rfl⟩
  obtain ⟨on, ho2⟩ : ∃ o, day % 36525 = o := ⟨_, rfl⟩
  have hhv : homeV h = true := homeV_iff.2 (by omega)
  have hov : dayV on = true := dayV_iff.2 (by omega)
  rw [cohousinglaw20_KeysHistory.j0, if_neg (by decide), e1, e2, hh2, ho2, of_f l h on (k + 1) (by omega), obs, of_f m h on (k + 1) (by omega), obs]
  have o1 : ofV l h on = ((findV l h on).1, (findV l h on).2, 0) := by unfold ofV; rw [hhv, hov, h1]; rfl
  have o2 : ofV m h on = ((findV m h on).1, (findV m h on).2, 0) := by unfold ofV; rw [hhv, hov, hMv]; rfl
  rw [o1, o2, if_pos rfl]
  show cohousinglaw20_KeysHistory.j1 (k + 1) v true h on (findV l h on).1 (findV l h on).2 (findV m h on).1 (findV m h on).2 false = _
  rw [cohousinglaw20_KeysHistory.j1, if_neg (by decide), if_pos (by omega)]
  have x0 : (rd_T28 v 0).f0 = (newK v).f0 := rfl
  have x1 : (rd_T28 v 0).f1 = (newK v).f1 := rfl
  have x2 : (rd_T28 v 0).f2 = (newK v).f2 := rfl
  rw [x0, x1, x2]
  by_cases c1 : h = (newK v).f0
  · rw [if_pos c1]
    by_cases c2 : on ≥ (newK v).f2
    · rw [if_pos c2, if_pos rfl]
      have hn := insK_new hK hx h3 (on := on) c2
      rw [← h5, ← c1] at hn
      rw [hn, if_pos rfl]
      simp
    · rw [if_neg c2, if_pos rfl]
      have ho := insK_old hK hx h3 (h := h) (on := on) (fun hc => c2 hc.2)
      rw [← h5] at ho
      rw [ho, if_pos rfl]
      simp
  · rw [if_neg c1, if_pos rfl]
    have ho := insK_old hK hx h3 (h := h) (on := on) (fun hc => c1 hc.1)
    rw [← h5] at ho
    rw [ho, if_pos rfl]
    simp
end Go.Proofs.YtcnkenknbmmglaaDoor.P
