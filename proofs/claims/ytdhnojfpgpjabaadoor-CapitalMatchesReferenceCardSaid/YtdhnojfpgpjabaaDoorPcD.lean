/- Chapter 32, pure: the reference's interest of a stretch. -/
import Derived.Test.YtdhnojfpgpjabaaDoorPcB
import Derived.Test.YtdhnojfpgpjabaaDoorPx11
set_option linter.unusedSimpArgs false
set_option linter.unusedVariables false
namespace Go.Proofs.YtdhnojfpgpjabaaDoor.P
open Go Go.RowKit Go.Proofs.YtdhnojfpgpjabaaDoorW.PrintWords Go.Proofs.YtdhnojfpgpjabaaDoorW.PrintLast Go.Proofs.YtdhnojfpgpjabaaDoorW.PrintMore

theorem common2_loop : ∀ (m b a : Nat), b ≤ m → Ev (fun k => cohousingref01_common.l0 k a b) ((Nat.gcd a b : Nat) : Int)
  | m, 0, a, hm => by
    refine Ev.ret fun k => ?_
    simp only [cohousingref01_common.l0]
    rw [if_pos (by omega), Nat.gcd_zero_right]
  | 0, b + 1, a, hm => by omega
  | m + 1, b + 1, a, hm => by
    have hlt : a % (b + 1) < b + 1 := Nat.mod_lt _ (by omega)
    have ih := common2_loop m (a % (b + 1)) (b + 1) (by omega)
    rw [← gcd_step] at ih
    refine Ev.step (fun k => ?_) ih
    simp only [cohousingref01_common.l0]
    rw [if_neg (by omega), tmodN]
theorem gcd5_loop : ∀ (m b a : Nat), b ≤ m → Ev (fun k => cohousingref05_gcd.l0 k a b) ((Nat.gcd a b : Nat) : Int)
  | m, 0, a, hm => by
    refine Ev.ret fun k => ?_
    simp only [cohousingref05_gcd.l0]
    rw [if_neg (by omega), Nat.gcd_zero_right]
  | 0, b + 1, a, hm => by omega
  | m + 1, b + 1, a, hm => by
    have hlt : a % (b + 1) < b + 1 := Nat.mod_lt _ (by omega)
    have ih := gcd5_loop m (a % (b + 1)) (b + 1) (by omega)
    rw [← gcd_step] at ih
    refine Ev.step (fun k => ?_) ih
    simp only [cohousingref05_gcd.l0]
    rw [if_pos (by omega), if_neg (by omega), tmodN]
theorem size2N (a : Nat) (h : a ≤ 1000000000) : cohousingref01_size.f (a : Int) = some (a : Int) := by
  unfold cohousingref01_size.f
  rw [if_neg (by omega), IntKind.wrap_u64]
  exact congrArg some (by omega)
theorem ratvalid2_ev (n d : Nat) (hn : n ≤ 1000000000) (h0 : 0 < d) (hd : d ≤ 1000000000) (hg : Nat.gcd n d = 1) : Ev (fun k => cohousingref01_Valid.f k n d) true := by
  have hm : Ev (fun k => cohousingref01_Make.f k n d) ((n : Int), (d : Int), 0) := by
    refine Ev.congr (f := fun k => (cohousingref01_common.f k n d).bind fun t172 => (if t172 = 0 then none else (if (IntKind.u64.wrap (Int.tdiv (n : Int) t172)) > 1000000000 then (cohousingref01_Make.j0 k n d (IntKind.u64.wrap (Int.tdiv (n : Int) t172)) (IntKind.u64.wrap (Int.tdiv (d : Int) t172)) true) else (cohousingref01_Make.j0 k n d (IntKind.u64.wrap (Int.tdiv (n : Int) t172)) (IntKind.u64.wrap (Int.tdiv (d : Int) t172)) (decide ((IntKind.u64.wrap (Int.tdiv (d : Int) t172)) > 1000000000)))))) (fun k => ?_) ?_
    · unfold cohousingref01_Make.f
      rw [if_neg (by omega), size2N n hn, size2N d hd]
      simp only [obs]
    · refine Ev.bind (common2_loop d d n (Nat.le_refl _)) ?_
      rw [hg]
      have e1 : IntKind.u64.wrap (Int.tdiv (n : Int) ((1 : Nat) : Int)) = (n : Int) := by
        rw [tdivN, Nat.div_one, IntKind.wrap_u64]; omega
      have e2 : IntKind.u64.wrap (Int.tdiv (d : Int) ((1 : Nat) : Int)) = (d : Int) := by
        rw [tdivN, Nat.div_one, IntKind.wrap_u64]; omega
      rw [e1, e2]
      refine Ev.congr (f := fun k => cohousingref01_Make.j0 k n d n d false) (fun k => ?_) ?_
      · rw [if_neg (by omega), if_neg (by omega), decide_eq_false (by omega)]
      · refine Ev.ret fun k => ?_
        simp only [cohousingref01_Make.j0]
        rw [if_neg (by simp), if_neg (by rw [decide_eq_false (show ¬ ((n : Int) < 0) by omega), decide_eq_false (show ¬ ((d : Int) < 0) by omega)]; simp), wrapNat n (by omega), wrapNat d (by omega)]
  refine Ev.congr (f := fun k => (cohousingref01_Make.f k n d).bind fun bt176 => (if bt176.2.2 = 0 then (some (bt176.1 == (n : Int) && (bt176.2.1 == (d : Int)))) else (some false))) (fun k => ?_) ?_
  · unfold cohousingref01_Valid.f
    rw [if_neg (by omega)]
  · refine Ev.bind hm ?_
    rw [if_pos rfl]
    simp only [beq_self_eq_true, Bool.and_self]
    exact Ev.now _

theorem refscale_ev (p t : Nat) (hp : p ≤ 1000000000) (ht : t ≤ 1000000000) : Ev (fun k => cohousingref02_Scale.f k p ((t / Nat.gcd t 3650000 : Nat) : Int) ((3650000 / Nat.gcd t 3650000 : Nat) : Int)) (scV (rnd (p * t))) := by
  obtain ⟨b1, b2, b3, b4⟩ := low_bounds t ht
  have hr := rnd_low p t
  have hq := rnd_le (p * t) (Nat.le_trans (Nat.mul_le_mul hp ht) (by decide))
  generalize t / Nat.gcd t 3650000 = N at *
  generalize 3650000 / Nat.gcd t 3650000 = D at *
  have hpn : p * N ≤ 1000000000000000000 := Nat.le_trans (Nat.mul_le_mul hp b1) (by decide)
  have hv := ratvalid2_ev N D b1 b2 (by omega) b4
  rw [round_two _ _ b2] at hr
  have hm := Nat.mod_lt (p * N) b2
  have hdv := Nat.div_le_self (p * N) D
  refine Ev.congr (f := fun k => (cohousingref01_Valid.f k N D).bind fun t182 => cohousingref02_Scale.j0 k p (!t182) N D) (fun k => ?_) (Ev.bind hv ?_)
  · unfold cohousingref02_Scale.f
    rw [amt_f, obs, amtN, decide_eq_true hp]
    simp only [if_true]
  · have e1 : ((p : Int) * (N : Int)) = ((p * N : Nat) : Int) := (Int.natCast_mul p N).symm
    refine Ev.stepE (fun k => cohousingref02_Scale.j1 k (((p * N) / D : Nat) : Int) (((p * N) % D : Nat) : Int) false N D) (fun k => ?_) ?_
    · simp only [cohousingref02_Scale.j0]
      rw [if_neg (by simp), if_neg (by omega), e1, wrapNat _ (by omega), tmodN, if_neg (by omega), tdivN, wrapNat _ (by omega)]
    · refine Ev.stepE (fun k => cohousingref02_Scale.j2 k (((p * N) / D : Nat) : Int) (((p * N) % D : Nat) : Int) N D) (fun k => ?_) ?_
      · simp only [cohousingref02_Scale.j1]
        rw [if_neg (by simp)]
      · refine Ev.stepE (fun k => cohousingref02_Scale.j3 k (((p * N) / D : Nat) : Int) (decide (D ≤ 2 * ((p * N) % D)))) (fun k => ?_) ?_
        · simp only [cohousingref02_Scale.j2]
          by_cases h0 : (p * N) % D = 0
          · rw [if_neg (by omega), decide_eq_false (by omega)]
          · rw [if_pos (by omega), show (2 * (((p * N) % D : Nat) : Int)) = ((2 * ((p * N) % D) : Nat) : Int) by omega, wrapNat _ (by omega)]
            congr 1
            rw [Bool.eq_iff_iff]
            simp only [decide_eq_true_eq]
            omega
        · refine Ev.ret fun k => ?_
          simp only [cohousingref02_Scale.j3]
          unfold scV
          by_cases h2 : D ≤ 2 * ((p * N) % D)
          · rw [if_pos h2] at hr
            rw [decide_eq_true h2, if_pos rfl, show ((((p * N) / D : Nat) : Int) + 1) = ((rnd (p * t) : Nat) : Int) by omega, wrapNat _ (by omega), amt_f, obs, amtN]
            by_cases h : rnd (p * t) ≤ 1000000000
            · rw [decide_eq_true h, if_pos rfl, if_pos h]
            · rw [decide_eq_false h, if_neg (by simp), if_neg h]
          · rw [if_neg h2] at hr
            rw [decide_eq_false h2, if_neg (by simp), show (((p * N) / D : Nat) : Int) = ((rnd (p * t) : Nat) : Int) by omega, amt_f, obs, amtN]
            by_cases h : rnd (p * t) ≤ 1000000000
            · rw [decide_eq_true h, if_pos rfl, if_pos h]
            · rw [decide_eq_false h, if_neg (by simp), if_neg h]
end Go.Proofs.YtdhnojfpgpjabaaDoor.P
