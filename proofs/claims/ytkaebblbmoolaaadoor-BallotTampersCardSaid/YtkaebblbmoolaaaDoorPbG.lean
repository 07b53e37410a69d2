/- Chapter 40: a link that was tampered with. -/
import Derived.Test.YtkaebblbmoolaaaDoorPbE
set_option linter.unusedSimpArgs false
set_option linter.unusedVariables false
namespace Go.Proofs.YtkaebblbmoolaaaDoor.P
open Go Go.RowKit Go.Proofs.YtkaebblbmoolaaaDoorW.PrintWords Go.Proofs.YtkaebblbmoolaaaDoorW.PrintLast Go.Proofs.YtkaebblbmoolaaaDoorW.PrintMore

theorem nA_zero {a : Int} (ha : memB a = true) : nA a 0 = a := by
  have := memB_lt ha
  unfold nA
  rw [pw0, Int.mul_one, Int.emod_eq_of_lt (by omega) (by omega)]
theorem nB_zero {k b : Int} (hk : keyB k = true) (hb : memB b = true) : nB k b 0 = b := by
  obtain ⟨k, rfl, _, _⟩ := memB_el (keyB_mem hk)
  obtain ⟨b, rfl, hb1, _⟩ := memB_el hb
  have h := nB_nat k b 0
  rw [Nat.pow_zero, Nat.mul_one, Nat.mod_eq_of_lt (show b < Nt.P from hb1)] at h
  exact h
theorem nA_cancel {a b r : Int} (ha : memB a = true) (hb : memB b = true) (hr : expB r = true) (h : nA a r = nA b r) : a = b := by
  have q := expB_lt hr
  have hs : expB ((1073741789 - r) % 1073741789) = true := expB_mod _
  have e : (r + (1073741789 - r) % 1073741789) % 1073741789 = 0 := by omega
  have h1 := nA_twice ha hr hs
  have h2 := nA_twice hb hr hs
  rw [e, nA_zero ha] at h1
  rw [e, nA_zero hb] at h2
  rw [← h1, ← h2, h]
theorem nB_cancel {k a b r : Int} (hk : keyB k = true) (ha : memB a = true) (hb : memB b = true) (hr : expB r = true) (h : nB k a r = nB k b r) : a = b := by
  have q := expB_lt hr
  have hs : expB ((1073741789 - r) % 1073741789) = true := expB_mod _
  have e : (r + (1073741789 - r) % 1073741789) % 1073741789 = 0 := by omega
  have h1 := nB_twice hk ha hr hs
  have h2 := nB_twice hk hb hr hs
  rw [e, nB_zero hk ha] at h1
  rw [e, nB_zero hk hb] at h2
  rw [← h1, ← h2, h]
theorem nA_exp {a r s : Int} (ha : memB a = true) (hr : expB r = true) (hs : expB s = true) (h : nA a r = nA a s) : r = s := by
  obtain ⟨a, rfl, _, hA⟩ := memB_el ha
  obtain ⟨r, rfl, r1⟩ := expB_el hr
  obtain ⟨s, rfl, s1⟩ := expB_el hs
  rw [nA_nat, nA_nat] at h
  have h2 : a * 4 ^ r % Nt.P = a * 4 ^ s % Nt.P := Int.ofNat.inj h
  have key : ∀ n : Nat, a ^ (Nt.Q - 1) * (a * 4 ^ n % Nt.P) % Nt.P = 4 ^ n % Nt.P := fun n => by
    rw [Nat.mul_mod_mod, ← Nat.mul_assoc, ← Nat.pow_succ, show (Nt.Q - 1).succ = Nt.Q from by decide, Nat.mul_mod, show a ^ Nt.Q % Nt.P = 1 from hA, Nat.one_mul, Nat.mod_mod]
  have h3 := key r
  rw [h2, key s] at h3
  have h4 := Nt.G_el.inj four_ne h3
  rw [Nat.mod_eq_of_lt s1, Nat.mod_eq_of_lt r1] at h4
  omega
theorem conB_parts {k a b a' b' r : Int} (h : conB k a b a' b' r = true) : okN k a b r = true ∧ nA a r = a' ∧ nB k b r = b' := by
  simpa only [conB, Bool.and_eq_true, beq_iff_eq] using h
/-- With another exponent a link connects no more. -/
theorem conB_other {k a b a' b' r s : Int} (h : conB k a b a' b' r = true) (hne : s ≠ r) : conB k a b a' b' s = false := by
  obtain ⟨h0, h1, h2⟩ := conB_parts h
  obtain ⟨q0, q1, q2, q3⟩ := okN_all h0
  cases hc : conB k a b a' b' s with
  | false => rfl
  | true =>
    obtain ⟨g0, g1, g2⟩ := conB_parts hc
    obtain ⟨_, p1, _, _⟩ := okN_all g0
    exact absurd (nA_exp q2 p1 q1 (g1.trans h1.symm)) hne
/-- The answer, when one link is another one that is not right in its place. -/
theorem chkF_set (pub : Int) (inn mid out : List S23) (bits : List Bool) (x' : S53) : ∀ (links : List S53) (i k : Nat) (L R : List Int) (y : S53), links[k]? = some y → chkF pub inn mid out bits i L R links = true →
    (∀ L R, chkAt pub inn mid out bits (i + k) y L R = true → chkAt pub inn mid out bits (i + k) x' L R = false) → chkF pub inn mid out bits i L R (links.set k x') = false
  | [], i, k, L, R, y, hy, _, _ => by simp at hy
  | z :: links, i, 0, L, R, y, hy, hc, hx => by
    obtain rfl : z = y := by simpa using hy
    have hc2 : (chkAt pub inn mid out bits i z L R && (if rdOf false bits (i : Int) = true then chkF pub inn mid out bits (i + 1) L (R ++ [z.f1]) links else chkF pub inn mid out bits (i + 1) (L ++ [z.f0]) R links)) = true := hc
    rw [Bool.and_eq_true] at hc2
    have := hx L R hc2.1
    rw [Nat.add_zero] at this
    show (chkAt pub inn mid out bits i x' L R && _) = false
    rw [this, Bool.false_and]
  | z :: links, i, k + 1, L, R, y, hy, hc, hx => by
    have hy' : links[k]? = some y := by simpa using hy
    have hc2 : (chkAt pub inn mid out bits i z L R && (if rdOf false bits (i : Int) = true then chkF pub inn mid out bits (i + 1) L (R ++ [z.f1]) links else chkF pub inn mid out bits (i + 1) (L ++ [z.f0]) R links)) = true := hc
    rw [Bool.and_eq_true] at hc2
    have hx' : ∀ L R, chkAt pub inn mid out bits (i + 1 + k) y L R = true → chkAt pub inn mid out bits (i + 1 + k) x' L R = false := by
      rw [show i + 1 + k = i + (k + 1) from by omega]
      exact hx
    show (chkAt pub inn mid out bits i z L R && (if rdOf false bits (i : Int) = true then chkF pub inn mid out bits (i + 1) L (R ++ [z.f1]) (links.set k x') else chkF pub inn mid out bits (i + 1) (L ++ [z.f0]) R (links.set k x'))) = false
    rw [hc2.1, Bool.true_and]
    by_cases hb : rdOf false bits (i : Int) = true
    · have h2 := hc2.2
      rw [if_pos hb] at h2 ⊢
      exact chkF_set pub inn mid out bits x' links (i + 1) k _ _ y hy' h2 hx'
    · have h2 := hc2.2
      rw [if_neg hb] at h2 ⊢
      exact chkF_set pub inn mid out bits x' links (i + 1) k _ _ y hy' h2 hx'
theorem chkV_set {pub : Int} {inn mid out : List S23} {links : List S53} {bits : List Bool} {k : Nat} {y x' : S53} (h : chkV pub inn mid out links = (true, 0)) (hb : askV inn mid out = (bits, 0)) (hy : links[k]? = some y)
    (hx : ∀ L R, chkAt pub inn mid out bits k y L R = true → chkAt pub inn mid out bits k x' L R = false) : chkV pub inn mid out (links.set k x') = (false, 0) := by
  obtain ⟨_, q0, q1, q2, q3, q4⟩ := chkV_yes h
  rw [hb] at q4
  unfold chkV
  rw [q0, q1, Bool.and_self, if_pos rfl, hb, if_pos ⟨rfl, by rw [List.length_set]; exact q3⟩]
  exact congrArg (fun b => (b, (0 : Int))) (chkF_set pub inn mid out bits x' links 0 k [] [] y hy q4 (by rw [Nat.zero_add]; exact hx))
/-- Another exponent. -/
theorem tamper_r {pub : Int} {inn mid out : List S23} {bits : List Bool} {k : Nat} {y : S53} {s : Int} (hne : s ≠ y.f2) : ∀ L R, chkAt pub inn mid out bits k y L R = true → chkAt pub inn mid out bits k ⟨y.f0, y.f1, s⟩ L R = false := fun L R h => by
  unfold chkAt at h ⊢
  by_cases hb : rdOf false bits (k : Int) = true
  · rw [if_pos hb] at h ⊢
    simp only [Bool.and_eq_true] at h
    simp only [conB_other h.2.2 hne, Bool.and_false]
  · rw [if_neg hb] at h ⊢
    simp only [Bool.and_eq_true] at h
    simp only [conB_other h.2.2 hne, Bool.and_false]
theorem S23.ext' {a b : S23} (h0 : a.f0 = b.f0) (h1 : a.f1 = b.f1) : a = b := by
  cases a; cases b; simp_all
/-- Another vote on the right. -/
theorem tamper_out {pub : Int} {inn mid out : List S23} {bits : List Bool} {k : Nat} {y : S53} {o : Int} (hb : rdOf false bits (k : Int) = true) (hno : ¬ (0 ≤ o ∧ o < (inn.length : Int) ∧ rd_T23 out o = rd_T23 out y.f1)) :
    ∀ L R, chkAt pub inn mid out bits k y L R = true → chkAt pub inn mid out bits k ⟨y.f0, o, y.f2⟩ L R = false := fun L R h => by
  unfold chkAt at h ⊢
  rw [if_pos hb] at h ⊢
  simp only [Bool.and_eq_true] at h
  obtain ⟨_, g1, g2⟩ := conB_parts h.2.2
  cases hc : (okD inn.length R o && conB pub (rd_T23 mid (k : Int)).f0 (rd_T23 mid (k : Int)).f1 (rd_T23 out o).f0 (rd_T23 out o).f1 y.f2) with
  | false => simp only [hc, Bool.and_false]
  | true =>
    simp only [Bool.and_eq_true] at hc
    obtain ⟨_, p1, p2⟩ := conB_parts hc.2
    have hd := hc.1
    simp only [okD, Bool.and_eq_true, decide_eq_true_eq] at hd
    exact absurd ⟨hd.1, hd.2.1, S23.ext' (p1.symm.trans g1) (p2.symm.trans g2)⟩ hno
/-- Another vote on the left. -/
theorem tamper_in {pub : Int} {inn mid out : List S23} {bits : List Bool} {k : Nat} {y : S53} {o : Int} (hin : ciphsB inn = true) (hb : rdOf false bits (k : Int) = false) (hno : ¬ (0 ≤ o ∧ o < (inn.length : Int) ∧ rd_T23 inn o = rd_T23 inn y.f0)) :
    ∀ L R, chkAt pub inn mid out bits k y L R = true → chkAt pub inn mid out bits k ⟨o, y.f1, y.f2⟩ L R = false := fun L R h => by
  unfold chkAt at h ⊢
  rw [if_neg (by simp [hb])] at h ⊢
  simp only [Bool.and_eq_true] at h
  obtain ⟨g0, g1, g2⟩ := conB_parts h.2.2
  cases hc : (okD inn.length L o && conB pub (rd_T23 inn o).f0 (rd_T23 inn o).f1 (rd_T23 mid (k : Int)).f0 (rd_T23 mid (k : Int)).f1 y.f2) with
  | false => simp only [hc, Bool.and_false]
  | true =>
    simp only [Bool.and_eq_true] at hc
    obtain ⟨p0, p1, p2⟩ := conB_parts hc.2
    obtain ⟨z0, z1, z2, z3⟩ := okN_all p0
    obtain ⟨u0, u1, u2, u3⟩ := okN_all g0
    have hd := hc.1
    simp only [okD, Bool.and_eq_true, decide_eq_true_eq] at hd
    exact absurd ⟨hd.1, hd.2.1, S23.ext' (nA_cancel z2 u2 z1 (p1.trans g1.symm)) (nB_cancel z0 z3 u3 z1 (p2.trans g2.symm))⟩ hno
/-- What a right mix says of one of its links. -/
theorem chkF_at (pub : Int) (inn mid out : List S23) (bits : List Bool) : ∀ (links : List S53) (i k : Nat) (L R : List Int) (y : S53), links[k]? = some y → chkF pub inn mid out bits i L R links = true → ∃ L R, chkAt pub inn mid out bits (i + k) y L R = true
  | [], i, k, L, R, y, hy, _ => by simp at hy
  | z :: links, i, 0, L, R, y, hy, hc => by
    obtain rfl : z = y := by simpa using hy
    have hc2 : (chkAt pub inn mid out bits i z L R && (if rdOf false bits (i : Int) = true then chkF pub inn mid out bits (i + 1) L (R ++ [z.f1]) links else chkF pub inn mid out bits (i + 1) (L ++ [z.f0]) R links)) = true := hc
    rw [Bool.and_eq_true] at hc2
    exact ⟨L, R, hc2.1⟩
  | z :: links, i, k + 1, L, R, y, hy, hc => by
    have hy' : links[k]? = some y := by simpa using hy
    have hc2 : (chkAt pub inn mid out bits i z L R && (if rdOf false bits (i : Int) = true then chkF pub inn mid out bits (i + 1) L (R ++ [z.f1]) links else chkF pub inn mid out bits (i + 1) (L ++ [z.f0]) R links)) = true := hc
    rw [Bool.and_eq_true] at hc2
    rw [show i + (k + 1) = i + 1 + k from by omega]
    by_cases hb : rdOf false bits (i : Int) = true
    · have h2 := hc2.2
      rw [if_pos hb] at h2
      exact chkF_at pub inn mid out bits links (i + 1) k _ _ y hy' h2
    · have h2 := hc2.2
      rw [if_neg hb] at h2
      exact chkF_at pub inn mid out bits links (i + 1) k _ _ y hy' h2
/-- The index of a link's other vote is one; its exponent is one. -/
theorem link_spec {pub : Int} {inn mid out : List S23} {links : List S53} {bits : List Bool} {k : Nat} {y : S53} (h : chkV pub inn mid out links = (true, 0)) (hb : askV inn mid out = (bits, 0)) (hy : links[k]? = some y) :
    expB y.f2 = true ∧ (rdOf false bits (k : Int) = true → 0 ≤ y.f1 ∧ y.f1 < (inn.length : Int)) ∧ (rdOf false bits (k : Int) = false → 0 ≤ y.f0 ∧ y.f0 < (inn.length : Int)) := by
  obtain ⟨_, q0, q1, q2, q3, q4⟩ := chkV_yes h
  rw [hb] at q4
  obtain ⟨L, R, hat⟩ := chkF_at pub inn mid out bits links 0 k [] [] y hy q4
  rw [Nat.zero_add] at hat
  unfold chkAt at hat
  by_cases hc : rdOf false bits (k : Int) = true
  · rw [if_pos hc] at hat
    simp only [Bool.and_eq_true] at hat
    obtain ⟨g0, _, _⟩ := conB_parts hat.2.2
    have hd := hat.2.1
    simp only [okD, Bool.and_eq_true, decide_eq_true_eq] at hd
    exact ⟨(okN_all g0).2.1, fun _ => ⟨hd.1, hd.2.1⟩, fun h => by simp [hc] at h⟩
  · rw [if_neg hc] at hat
    simp only [Bool.and_eq_true] at hat
    obtain ⟨g0, _, _⟩ := conB_parts hat.2.2
    have hd := hat.2.1
    simp only [okD, Bool.and_eq_true, decide_eq_true_eq] at hd
    exact ⟨(okN_all g0).2.1, fun h => absurd h hc, fun _ => ⟨hd.1, hd.2.1⟩⟩
end Go.Proofs.YtkaebblbmoolaaaDoor.P
