/- Chapter 32, pure: the interest of a stretch, by the program and by the reference. -/
import Derived.Test.YtdhnojfpgpjabaaDoorPcA
import Derived.Test.YtdhnojfpgpjabaaDoorPx5
import Derived.Test.YtdhnojfpgpjabaaDoorPcA
import Derived.Test.YtdhnojfpgpjabaaDoorXstate
set_option linter.unusedSimpArgs false
set_option linter.unusedVariables false
namespace Go.Proofs.YtdhnojfpgpjabaaDoor.P
open Go Go.RowKit Go.Proofs.YtdhnojfpgpjabaaDoorW.PrintWords Go.Proofs.YtdhnojfpgpjabaaDoorW.PrintLast Go.Proofs.YtdhnojfpgpjabaaDoorW.PrintMore

theorem tmodN (a b : Nat) : Int.tmod (a : Int) (b : Int) = ((a % b : Nat) : Int) := by
  rw [Int.tmod_eq_emod_of_nonneg (by omega)]
  exact (Int.natCast_emod a b).symm
theorem tdivN (a b : Nat) : Int.tdiv (a : Int) (b : Int) = ((a / b : Nat) : Int) := by
  rw [Int.tdiv_eq_ediv_of_nonneg (by omega)]
  exact (Int.natCast_ediv a b).symm
theorem wrapNat (a : Nat) (h : a ≤ 9223372036854775807) : wrap64 (a : Int) = (a : Int) := IntWalk.wrap64_in _ (by omega)
theorem gcd_step (a b : Nat) : Nat.gcd a b = Nat.gcd b (a % b) := by
  rw [Nat.gcd_comm a b, Nat.gcd_rec b a, Nat.gcd_comm]

theorem fraction_loop (n d : Nat) (hn : n ≤ 9223372036854775807) (hd : d ≤ 9223372036854775807) : ∀ (m b a : Nat), b ≤ m → (0 < a ∨ 0 < b) → Ev (fun k => capital_fraction.l0 k n d a b) (((n / Nat.gcd a b : Nat) : Int), ((d / Nat.gcd a b : Nat) : Int))
  | m, 0, a, hm, h0 => by
    have ha : 0 < a := by omega
    refine Ev.ret fun k => ?_
    simp only [capital_fraction.l0]
    rw [if_neg (by omega), if_neg (by omega), tdivN, tdivN, Nat.gcd_zero_right, wrapNat _ (Nat.le_trans (Nat.div_le_self _ _) hn), wrapNat _ (Nat.le_trans (Nat.div_le_self _ _) hd)]
  | 0, b + 1, a, hm, h0 => by omega
  | m + 1, b + 1, a, hm, h0 => by
    have hlt : a % (b + 1) < b + 1 := Nat.mod_lt _ (by omega)
    have ih := fraction_loop n d hn hd m (a % (b + 1)) (b + 1) (by omega) (by omega)
    rw [← gcd_step] at ih
    refine Ev.step (fun k => ?_) ih
    simp only [capital_fraction.l0]
    rw [if_pos (by omega), if_neg (by omega), tmodN]
theorem fraction_ev (n d : Nat) (hn : n ≤ 9223372036854775807) (hd : d ≤ 9223372036854775807) (h0 : 0 < d) : Ev (fun k => capital_fraction.f k n d) (((n / Nat.gcd n d : Nat) : Int), ((d / Nat.gcd n d : Nat) : Int)) :=
  fraction_loop n d hn hd d d n (Nat.le_refl _) (by omega)
theorem common_loop : ∀ (m b a : Nat), b ≤ m → Ev (fun k => rational_common.l0 k a b) ((Nat.gcd a b : Nat) : Int)
  | m, 0, a, hm => by
    refine Ev.ret fun k => ?_
    simp only [rational_common.l0]
    rw [if_pos (by omega), Nat.gcd_zero_right]
  | 0, b + 1, a, hm => by omega
  | m + 1, b + 1, a, hm => by
    have hlt : a % (b + 1) < b + 1 := Nat.mod_lt _ (by omega)
    have ih := common_loop m (a % (b + 1)) (b + 1) (by omega)
    rw [← gcd_step] at ih
    refine Ev.step (fun k => ?_) ih
    simp only [rational_common.l0]
    rw [if_neg (by omega), tmodN]
theorem sizeN (a : Nat) (h : a ≤ 1000000000) : rational_size.f (a : Int) = some (a : Int) := by
  unfold rational_size.f
  rw [if_neg (by omega), IntKind.wrap_u64]
  exact congrArg some (by omega)
/-- A fraction in its lowest terms is a number. -/
theorem ratvalid_ev (n d : Nat) (hn : n ≤ 1000000000) (h0 : 0 < d) (hd : d ≤ 1000000000) (hg : Nat.gcd n d = 1) : Ev (fun k => rational_Valid.f k n d) true := by
  refine Ev.congr (f := fun k => (rational_common.f k n d).bind fun t => some (t == 1)) (fun k => ?_) ?_
  · unfold rational_Valid.f
    rw [if_pos (by omega), if_pos (by omega), if_pos (by omega), if_pos (by omega), sizeN n hn, sizeN d hd]
    simp only [obs]
  · refine Ev.bind (common_loop d d n (Nat.le_refl _)) ?_
    rw [hg]
    exact Ev.now _
/-- An amount's share, rounded: x parts of 3650000. -/
def rnd (x : Nat) : Nat := (2 * x + 3650000) / 7300000
/-- Rounding asks for no lowest terms. -/
theorem rnd_low (p t : Nat) : (2 * (p * (t / Nat.gcd t 3650000)) + 3650000 / Nat.gcd t 3650000) / (2 * (3650000 / Nat.gcd t 3650000)) = rnd (p * t) := by
  have hg : 0 < Nat.gcd t 3650000 := Nat.gcd_pos_of_pos_right _ (by decide)
  obtain ⟨u, hu⟩ := Nat.gcd_dvd_left t 3650000
  obtain ⟨v, hv⟩ := Nat.gcd_dvd_right t 3650000
  generalize Nat.gcd t 3650000 = g at *
  have e1 : t / g = u := by rw [hu]; exact Nat.mul_div_cancel_left u hg
  have e2 : 3650000 / g = v := by rw [hv]; exact Nat.mul_div_cancel_left v hg
  rw [e1, e2]
  unfold rnd
  have e3 : 2 * (p * t) + 3650000 = g * (2 * (p * u) + v) := by
    rw [Nat.mul_add, ← hv, hu]
    congr 1
    ac_rfl
  have e4 : 7300000 = g * (2 * v) := by rw [Nat.mul_left_comm, ← hv]
  rw [e3, e4, Nat.mul_div_mul_left _ _ hg]
end Go.Proofs.YtdhnojfpgpjabaaDoor.P
/- Chapter 32, pure: the interest of one stretch; the account out of the stretches. -/
set_option linter.unusedSimpArgs false
set_option linter.unusedVariables false
namespace Go.Proofs.YtdhnojfpgpjabaaDoor.P
open Go Go.RowKit Go.Proofs.YtdhnojfpgpjabaaDoorW.PrintWords Go.Proofs.YtdhnojfpgpjabaaDoorW.PrintLast Go.Proofs.YtdhnojfpgpjabaaDoorW.PrintMore

/-- A rounded share, where it is an amount. -/
def scV (q : Nat) : Int × Int := if q ≤ 1000000000 then ((q : Int), 0) else (0, 3)
theorem low_bounds (t : Nat) (ht : t ≤ 1000000000) : t / Nat.gcd t 3650000 ≤ 1000000000 ∧ 0 < 3650000 / Nat.gcd t 3650000 ∧ 3650000 / Nat.gcd t 3650000 ≤ 3650000 ∧ Nat.gcd (t / Nat.gcd t 3650000) (3650000 / Nat.gcd t 3650000) = 1 := by
  have hg : 0 < Nat.gcd t 3650000 := Nat.gcd_pos_of_pos_right _ (by decide)
  refine ⟨Nat.le_trans (Nat.div_le_self _ _) ht, Nat.div_pos (Nat.le_of_dvd (by decide) (Nat.gcd_dvd_right _ _)) hg, Nat.div_le_self _ _, by rw [Nat.gcd_div (Nat.gcd_dvd_left _ _) (Nat.gcd_dvd_right _ _), Nat.div_self hg]⟩
theorem rnd_le (x : Nat) (h : x ≤ 1000000000000000000) : rnd x ≤ 300000000000 := by
  unfold rnd
  omega
theorem valid_f (c : Int) : money_amount_valid.f c = some (amtB c) := by
  unfold money_amount_valid.f amtB
  by_cases h : -1000000000 ≤ c
  · rw [if_pos h, decide_eq_true h, Bool.true_and]
  · rw [if_neg h, decide_eq_false h, Bool.false_and]
theorem amtN (q : Nat) : amtB (q : Int) = decide (q ≤ 1000000000) := by
  unfold amtB
  rw [decide_eq_true (show (-1000000000 : Int) ≤ (q : Int) by omega), Bool.true_and]
  by_cases h : q ≤ 1000000000
  · rw [decide_eq_true h, decide_eq_true (by omega)]
  · rw [decide_eq_false h, decide_eq_false (by omega)]
theorem scale_ev (p t : Nat) (hp : p ≤ 1000000000) (ht : t ≤ 1000000000) : Ev (fun k => money_Scale.f k p ((t / Nat.gcd t 3650000 : Nat) : Int) ((3650000 / Nat.gcd t 3650000 : Nat) : Int)) (scV (rnd (p * t))) := by
  obtain ⟨b1, b2, b3, b4⟩ := low_bounds t ht
  have hr := rnd_low p t
  have hq := rnd_le (p * t) (Nat.le_trans (Nat.mul_le_mul hp ht) (by decide))
  generalize t / Nat.gcd t 3650000 = N at *
  generalize 3650000 / Nat.gcd t 3650000 = D at *
  have hpn : p * N ≤ 1000000000000000000 := Nat.le_trans (Nat.mul_le_mul hp b1) (by decide)
  have hv := ratvalid_ev N D b1 b2 (by omega) b4
  refine Ev.congr (f := fun k => (rational_Valid.f k N D).bind fun t108 => money_Scale.j0 k p (!t108) N D) (fun k => ?_) (Ev.bind hv ?_)
  · unfold money_Scale.f
    rw [valid_f, obs, amtN, decide_eq_true hp, if_pos rfl]
  · refine Ev.ret fun k => ?_
    simp only [money_Scale.j0]
    have e1 : ((p : Int) * (N : Int)) = ((p * N : Nat) : Int) := (Int.natCast_mul p N).symm
    rw [if_neg (by simp), e1, wrapNat _ (by omega), if_neg (by omega), show (2 * (D : Int)) = ((2 * D : Nat) : Int) by omega, wrapNat _ (by omega), if_neg (by omega), show (2 * ((p * N : Nat) : Int)) = ((2 * (p * N) : Nat) : Int) by omega, wrapNat _ (by omega),
      show (((2 * (p * N) : Nat) : Int) + (D : Int)) = ((2 * (p * N) + D : Nat) : Int) by omega, wrapNat _ (by omega), tdivN, hr, wrapNat _ (by omega), valid_f, obs, amtN]
    unfold scV
    by_cases h : rnd (p * t) ≤ 1000000000
    · rw [decide_eq_true h, if_pos rfl, if_pos h]
    · rw [decide_eq_false h, if_neg (by simp), if_neg h]
theorem round_two (n D : Nat) (hD : 0 < D) : (2 * n + D) / (2 * D) = n / D + (if D ≤ 2 * (n % D) then 1 else 0) := by
  have h := Nat.div_add_mod n D
  have hs := Nat.mod_lt n hD
  generalize n / D = q at *
  generalize n % D = s at *
  subst h
  split
  · refine Nat.div_eq_of_lt_le ?_ ?_
    · have e : (q + 1) * (2 * D) = 2 * (D * q) + 2 * D := by rw [Nat.add_mul, Nat.one_mul, Nat.mul_left_comm, Nat.mul_comm q D]
      omega
    · have e : (q + 1 + 1) * (2 * D) = 2 * (D * q) + 2 * D + 2 * D := by rw [Nat.add_mul, Nat.add_mul, Nat.one_mul, Nat.mul_left_comm, Nat.mul_comm q D]
      omega
  · refine Nat.div_eq_of_lt_le ?_ ?_
    · have e : (q + 0) * (2 * D) = 2 * (D * q) := by rw [Nat.add_zero, Nat.mul_left_comm, Nat.mul_comm q D]
      omega
    · have e : (q + 0 + 1) * (2 * D) = 2 * (D * q) + 2 * D := by rw [Nat.add_zero, Nat.add_mul, Nat.one_mul, Nat.mul_left_comm, Nat.mul_comm q D]
      omega
theorem add_ev (a c : Nat) (ha : a ≤ 1000000000) (hc : c ≤ 1000000000) : Ev (fun k => money_Add.f k [(a : Int), (c : Int)]) (scV (a + c)) := by
  refine Ev.congr (f := fun k => money_Add.l0 k 0 [(a : Int), (c : Int)] 2 0) (fun k => rfl) ?_
  refine Ev.stepE (fun k => money_Add.l0 k (a : Int) [(a : Int), (c : Int)] 2 1) (fun k => ?_) ?_
  · simp only [money_Add.l0]
    rw [if_pos (by omega), if_pos (by omega), if_pos (by simp), show rd [(a : Int), (c : Int)] 0 = (a : Int) from rfl, valid_f, obs, amtN, decide_eq_true ha, if_pos rfl, Int.zero_add, wrapNat _ (by omega), show wrap64 ((0 : Int) + 1) = 1 by unfold wrap64; omega]
  refine Ev.stepE (fun k => money_Add.l0 k ((a + c : Nat) : Int) [(a : Int), (c : Int)] 2 2) (fun k => ?_) ?_
  · simp only [money_Add.l0]
    rw [if_pos (by omega), if_pos (by omega), if_pos (by simp), show rd [(a : Int), (c : Int)] 1 = (c : Int) from rfl, valid_f, obs, amtN, decide_eq_true hc, if_pos rfl, show ((a : Int) + (c : Int)) = ((a + c : Nat) : Int) by omega, wrapNat _ (by omega), show wrap64 ((1 : Int) + 1) = 2 by unfold wrap64; omega]
  refine Ev.ret fun k => ?_
  simp only [money_Add.l0]
  rw [if_neg (by omega), valid_f, obs, amtN]
  unfold scV
  by_cases h : a + c ≤ 1000000000
  · rw [decide_eq_true h, if_pos rfl, if_pos h]
  · rw [decide_eq_false h, if_neg (by simp), if_neg h]

/-- A stretch in its bounds. -/
def ItOk (x : Int × Bk) : Prop := 0 ≤ x.1 ∧ x.1 ≤ 36524 ∧ 0 ≤ x.2.paid ∧ x.2.paid ≤ 1000000000 ∧ 0 ≤ x.2.rate ∧ x.2.rate ≤ 10000 ∧ 0 ≤ x.2.price ∧ x.2.price ≤ 100000
/-- A stretch's interest. -/
def itI (x : Int × Bk) : Nat := rnd (x.2.paid.toNat * (x.2.rate * x.1).toNat)
def sumI (L : List (Int × Bk)) : Nat := (L.map itI).sum
/-- The account, as long as the interest is an amount. -/
def stV (shares : Int) : List (Int × Bk) → Nat → Acc → Option Acc
  | [], i, a => some a
  | x :: r, i, a => if i + itI x ≤ 1000000000 then stV shares r (i + itI x) ⟨x.2.paid, shares * x.2.price, ((i + itI x : Nat) : Int), x.2.lien⟩ else none
theorem rate_bounds {x : Int × Bk} (h : ItOk x) : 0 ≤ x.2.rate * x.1 ∧ x.2.rate * x.1 ≤ 365240000 := by
  obtain ⟨h1, h2, _, _, h3, h4, _, _⟩ := h
  refine ⟨Int.mul_nonneg h3 h1, ?_⟩
  have := Int.mul_le_mul h4 h2 h1 (by decide)
  simpa using this
theorem price_wrap {x : Int × Bk} (h : ItOk x) {shares : Int} (h0 : 0 ≤ shares) (h1 : shares ≤ 1000) : wrap64 (shares * x.2.price) = shares * x.2.price := by
  obtain ⟨_, _, _, _, _, _, h3, h4⟩ := h
  refine IntWalk.wrap64_in _ ⟨?_, ?_⟩
  · have := Int.mul_nonneg h0 h3
    omega
  · have := Int.mul_le_mul h1 h4 h3 (by decide)
    omega
theorem stO_ev (shares : Int) (h0 : 0 ≤ shares) (h1 : shares ≤ 1000) : ∀ (L : List (Int × Bk)) (i : Nat) (a : Acc), (∀ x ∈ L, ItOk x) → i ≤ 1000000000 → a.interest = (i : Int) → Ev (fun k => stO k shares L a) (stV shares L i a)
  | [], i, a, _, _, _ => Ev.now _
  | x :: r, i, a, hL, hi, ha => by
    have hx := hL x (by simp)
    obtain ⟨t0, t1⟩ := rate_bounds hx
    have hp0 := hx.2.2.1
    have hp1 := hx.2.2.2.1
    have hf := fraction_ev (x.2.rate * x.1).toNat 3650000 (by omega) (by decide) (by decide)
    have hs := scale_ev x.2.paid.toNat (x.2.rate * x.1).toNat (by omega) (by omega)
    rw [Int.toNat_of_nonneg hp0] at hs
    rw [Int.toNat_of_nonneg t0] at hf
    refine Ev.congr (f := fun k => (capital_fraction.f k (x.2.rate * x.1) 3650000).bind fun q => (money_Scale.f k x.2.paid q.1 q.2).bind fun c => if c.2 = 0 then (money_Add.f k [a.interest, c.1]).bind fun i => if i.2 = 0 then stO k shares r ⟨x.2.paid, wrap64 (shares * x.2.price), i.1, x.2.lien⟩ else some none else some none) (fun k => ?_) (Ev.bind hf (Ev.bind hs ?_))
    · show stO k shares (x :: r) a = _
      rw [stO, IntWalk.wrap64_in _ (by omega)]
    · unfold stV
      rw [show rnd (x.2.paid.toNat * (x.2.rate * x.1).toNat) = itI x from rfl]
      by_cases hc : itI x ≤ 1000000000
      · have ha2 := add_ev i (itI x) hi hc
        rw [← ha] at ha2
        refine Ev.congr (f := fun k => (money_Add.f k [a.interest, ((itI x : Nat) : Int)]).bind fun i => if i.2 = 0 then stO k shares r ⟨x.2.paid, wrap64 (shares * x.2.price), i.1, x.2.lien⟩ else some none) (fun k => ?_) (Ev.bind ha2 ?_)
        · unfold scV
          rw [if_pos hc, if_pos rfl]
        · by_cases hs2 : i + itI x ≤ 1000000000
          · rw [if_pos hs2]
            have ih := stO_ev shares h0 h1 r (i + itI x) ⟨x.2.paid, shares * x.2.price, ((i + itI x : Nat) : Int), x.2.lien⟩ (fun y hy => hL y (by simp [hy])) hs2 rfl
            refine Ev.congr (fun k => ?_) ih
            unfold scV
            rw [if_pos hs2, if_pos rfl, price_wrap hx h0 h1]
          · rw [if_neg hs2]
            refine ⟨0, fun k _ => ?_⟩
            rw [show scV (i + itI x) = (0, 3) by unfold scV; rw [if_neg hs2]]
            exact if_neg (by decide)
      · rw [if_neg (by omega)]
        refine ⟨0, fun k _ => ?_⟩
        rw [show scV (itI x) = (0, 3) by unfold scV; rw [if_neg hc]]
        exact if_neg (by decide)
/-- In one formula. -/
theorem stV_eq (shares : Int) (L : List (Int × Bk)) : ∀ (i : Nat) (a : Acc), (h : L ≠ []) → i ≤ 1000000000 →
    stV shares L i a = if i + sumI L ≤ 1000000000 then some ⟨(L.getLast h).2.paid, shares * (L.getLast h).2.price, ((i + sumI L : Nat) : Int), (L.getLast h).2.lien⟩ else none := by
  induction L with
  | nil => exact fun _ _ h => absurd rfl h
  | cons x r ih =>
    intro i a h hi
    have hs : sumI (x :: r) = itI x + sumI r := by simp [sumI]
    rw [stV, hs]
    cases r with
    | nil =>
      have e0 : sumI [] = 0 := rfl
      rw [e0, Nat.add_zero]
      rfl
    | cons y r =>
      by_cases hc : i + itI x ≤ 1000000000
      · rw [if_pos hc, ih (i + itI x) _ (by simp) hc, Nat.add_assoc]
        simp only [List.getLast_cons_cons]
      · rw [if_neg hc, if_neg (by omega)]
end Go.Proofs.YtdhnojfpgpjabaaDoor.P
