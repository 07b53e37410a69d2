/- Chapter 40: the arithmetic of encrypted votes: twice anew, opening. -/
import Derived.Test.YtkaebblbmoolaaaDoorPbD
import Derived.KernelRfl
import Derived.Test.YtkaebblbmoolaaaDoorPx7
import Derived.Test.YtkaebblbmoolaaaDoorPx6
set_option linter.unusedSimpArgs false
set_option linter.unusedVariables false
namespace Go.Proofs.YtkaebblbmoolaaaDoor.P
open Go Go.RowKit Go.Proofs.YtkaebblbmoolaaaDoorW.PrintWords Go.Proofs.YtkaebblbmoolaaaDoorW.PrintLast Go.Proofs.YtkaebblbmoolaaaDoorW.PrintMore

theorem wf_u64 {a : Int} (h : (Lit.int .u64 a).wf = true) : 0 ≤ a ∧ a < 18446744073709551616 := by
  simp [Lit.wf, IntKind.min, IntKind.max, IntKind.bits, IntKind.signed] at h
  omega
theorem wf_u8 {a : Int} (h : (Lit.int .u8 a).wf = true) : 0 ≤ a ∧ a < 256 := by
  simp [Lit.wf, IntKind.min, IntKind.max, IntKind.bits, IntKind.signed] at h
  omega
theorem wf_i64 {a : Int} (h : (Lit.int .i64 a).wf = true) : -9223372036854775808 ≤ a ∧ a ≤ 9223372036854775807 := by
  simp [Lit.wf, IntKind.min, IntKind.max, IntKind.bits, IntKind.signed] at h
  omega
theorem four_nat : (4 : Int) = ((4 : Nat) : Int) := rfl
theorem nA_nat (a r : Nat) : nA (a : Int) (r : Int) = ((a * 4 ^ r % Nt.P : Nat) : Int) := by
  unfold nA
  rw [four_nat, pwZ_nat, mul_nat, Nat.mul_mod_mod]
theorem nB_nat (k b r : Nat) : nB (k : Int) (b : Int) (r : Int) = ((b * k ^ r % Nt.P : Nat) : Int) := by
  unfold nB
  rw [pwZ_nat, mul_nat, Nat.mul_mod_mod]
theorem addQ_nat (r s : Nat) : (((r : Int) + (s : Int)) % 1073741789) = (((r + s) % Nt.Q : Nat) : Int) := by
  rw [show (1073741789 : Int) = ((Nt.Q : Nat) : Int) from rfl, Int.natCast_emod, Int.natCast_add]
theorem nA_twice {a r s : Int} (ha : memB a = true) (hr : expB r = true) (hs : expB s = true) : nA (nA a r) s = nA a ((r + s) % 1073741789) := by
  obtain ⟨a, rfl, _, _⟩ := memB_el ha
  obtain ⟨r, rfl, _⟩ := expB_el hr
  obtain ⟨s, rfl, _⟩ := expB_el hs
  rw [nA_nat, nA_nat, addQ_nat, nA_nat, Nat.mod_mul_mod, Nat.mul_assoc, ← Nat.pow_add, Nat.mul_mod, ← Nt.G_el.pow_mod, ← Nat.mul_mod]
theorem nB_twice {k b r s : Int} (hk : keyB k = true) (hb : memB b = true) (hr : expB r = true) (hs : expB s = true) : nB k (nB k b r) s = nB k b ((r + s) % 1073741789) := by
  obtain ⟨k, rfl, _, hK⟩ := memB_el (keyB_mem hk)
  obtain ⟨b, rfl, _, _⟩ := memB_el hb
  obtain ⟨r, rfl, _⟩ := expB_el hr
  obtain ⟨s, rfl, _⟩ := expB_el hs
  rw [nB_nat, nB_nat, addQ_nat, nB_nat, Nat.mod_mul_mod, Nat.mul_assoc, ← Nat.pow_add, Nat.mul_mod, ← hK.pow_mod, ← Nat.mul_mod]
theorem expB_of {x : Int} (h0 : 0 ≤ x) (h1 : x < 1073741789) : expB x = true := by
  simp only [expB, Bool.and_eq_true, decide_eq_true_eq]; exact ⟨h0, h1⟩
theorem expB_mod (x : Int) : expB (x % 1073741789) = true := expB_of (by omega) (by omega)
theorem exp_u64 {a : Int} (h : (Lit.int .u64 a).wf = true) : wrap64 (Int.tmod a 1073741789) = a % 1073741789 := by
  obtain ⟨h0, h1⟩ := wf_u64 h
  rw [tmod_nat _ _ h0 (by omega), wrap_id (by omega) (by omega)]
theorem okN_all' {k a b r : Int} (h : okN k a b r = true) : keyB k = true ∧ expB r = true ∧ memB a = true ∧ memB b = true := okN_all h
theorem okN_of {k a b r : Int} (hk : keyB k = true) (hr : expB r = true) (ha : memB a = true) (hb : memB b = true) : okN k a b r = true := by
  unfold okN; rw [hk, hr, ha, hb]; rfl
theorem againV_ok {k a b r : Int} (h : okN k a b r = true) : againV k a b r = (nA a r, nB k b r, 0) := by unfold againV; rw [if_pos h]
theorem againV_no {k a b r : Int} (h : okN k a b r = false) : againV k a b r = (0, 0, 1) := by unfold againV; rw [if_neg (by simp [h])]
/-- Twice anew: once anew, with the sum. -/
theorem again_twice {k a b r s : Int} (h : okN k a b r = true) (hs : expB s = true) : againV k (nA a r) (nB k b r) s = againV k a b ((r + s) % 1073741789) := by
  obtain ⟨h0, h1, h2, h3⟩ := okN_all h
  rw [againV_ok (okN_of h0 hs (nA_mem h2 h1) (nB_mem h0 h3 h1)), againV_ok (okN_of h0 (expB_mod _) h2 h3), nA_twice h2 h1 hs, nB_twice h0 h3 h1 hs]

/-- What an encrypted vote opens to. -/
def opZ (a b : Int) (x : Nat) : Int := ((a.toNat ^ (Nt.Q - x) * b.toNat % Nt.P : Nat) : Int)
theorem open_f {a b : Int} (x : Nat) (hx : 0 < x) (hx1 : x < Nt.Q) (ha : memB a = true) (hb : memB b = true) : cohousinglaw40_open.f a b (x : Int) = some (opZ a b x) := by
  obtain ⟨a, rfl, ha1, hA⟩ := memB_el ha
  obtain ⟨b, rfl, hb1, hB⟩ := memB_el hb
  have hq : x < 1073741789 := hx1
  unfold cohousinglaw40_open.f
  have e : Int.tmod (wrap64 (1073741789 - (x : Int))) 1073741789 = ((Nt.Q - x : Nat) : Int) := by
    rw [wrap_id (by omega) (by omega), tmod_nat _ _ (by omega) (by omega)]
    unfold Nt.Q
    omega
  rw [e, exp_f]
  have hE : expB ((Nt.Q - x : Nat) : Int) = true := expB_of (by omega) (by unfold Nt.Q; omega)
  unfold expV
  rw [ha, hE]
  simp only [obs, Bool.and_self, if_true]
  rw [pwZ_nat, mul_f]
  unfold mulV
  rw [memB_mod (hA.pow _), hb]
  simp only [obs, Bool.and_self, if_true]
  rw [mul_nat, Nat.mod_mul_mod]
  rfl
theorem opZ_nat (a b x : Nat) : opZ (a : Int) (b : Int) x = ((a ^ (Nt.Q - x) * b % Nt.P : Nat) : Int) := by
  unfold opZ
  rw [Int.toNat_natCast, Int.toNat_natCast]
def pubN (x : Nat) : Nat := 4 ^ x % Nt.P
theorem pubN_el (x : Nat) : Nt.El (pubN x) := (Nt.G_el.pow _).mod
theorem four_ne : 4 % Nt.P ≠ 1 := by decide
theorem pubN_key {x : Nat} (h0 : 0 < x) (h1 : x < Nt.Q) : keyB (pubN x : Int) = true := by
  unfold keyB
  have hm : memB (pubN x : Int) = true := (memB_nat (pubN x)).2 ⟨Nat.mod_lt _ (by decide), pubN_el x⟩
  rw [hm, Bool.and_true, bne_iff_ne]
  have h2 : pubN x ≠ 1 := Nt.G_el.pow_ne_one four_ne h0 h1
  omega
/-- Encrypted anew, a vote opens to the same. -/
theorem open_anew {a b r : Int} {x : Nat} (hx1 : x < Nt.Q) (ha : memB a = true) (hb : memB b = true) (hr : expB r = true) : opZ (nA a r) (nB (pubN x : Int) b r) x = opZ a b x := by
  obtain ⟨a, rfl, _, _⟩ := memB_el ha
  obtain ⟨b, rfl, _, _⟩ := memB_el hb
  obtain ⟨r, rfl, _⟩ := expB_el hr
  rw [nA_nat, nB_nat, opZ_nat, opZ_nat]
  refine congrArg (fun n : Nat => (n : Int)) ?_
  have e1 : (a * 4 ^ r % Nt.P) ^ (Nt.Q - x) % Nt.P = (a ^ (Nt.Q - x) * 4 ^ (r * (Nt.Q - x))) % Nt.P := by
    rw [← Nat.pow_mod, Nat.mul_pow, ← Nat.pow_mul]
  have e2 : b * pubN x ^ r % Nt.P = (b * 4 ^ (x * r)) % Nt.P := by
    unfold pubN
    rw [Nat.mul_mod, ← Nat.pow_mod, ← Nat.mul_mod, ← Nat.pow_mul]
  rw [Nat.mul_mod, e1, e2]
  have e3 : (a ^ (Nt.Q - x) * 4 ^ (r * (Nt.Q - x)) % Nt.P) * (b * 4 ^ (x * r) % Nt.P % Nt.P) % Nt.P = (a ^ (Nt.Q - x) * b) * 4 ^ (0 + Nt.Q * r) % Nt.P := by
    rw [Nat.mod_mod, ← Nat.mul_mod]
    refine congrArg (fun n => n % Nt.P) ?_
    have e : 0 + Nt.Q * r = r * (Nt.Q - x) + x * r := by
      rw [Nat.zero_add, Nat.mul_comm x r, ← Nat.mul_add, Nat.sub_add_cancel (Nat.le_of_lt hx1), Nat.mul_comm]
    rw [e, Nat.pow_add]
    simp only [Nat.mul_assoc, Nat.mul_left_comm]
  rw [e3, Nat.mul_mod, Nt.G_el.pow_add, Nat.pow_zero, ← Nat.mul_mod, Nat.mul_one]
theorem conB_open {k a b a' b' r : Int} {x : Nat} (hx1 : x < Nt.Q) (hk : k = (pubN x : Int)) (h : conB k a b a' b' r = true) : opZ a' b' x = opZ a b x ∧ memB a' = true ∧ memB b' = true := by
  subst hk
  simp only [conB, Bool.and_eq_true, beq_iff_eq] at h
  obtain ⟨h0, rfl, rfl⟩ := h
  obtain ⟨q0, q1, q2, q3⟩ := okN_all h0
  exact ⟨open_anew hx1 q2 q3 q1, nA_mem q2 q1, nB_mem q0 q3 q1⟩
def secN (n : Int) : Nat := 1 + (n % 1073741788).toNat
theorem secN_lt (n : Int) : 0 < secN n ∧ secN n < Nt.Q := by unfold secN Nt.Q; omega
theorem secret_f {a : Int} (h : (Lit.int .u64 a).wf = true) : cohousingref08_Secret.f a = some (secN a : Int) := by
  obtain ⟨h0, h1⟩ := wf_u64 h
  unfold cohousingref08_Secret.f secN
  rw [tmod_nat _ _ h0 (by omega), wrap_id (a := a % 1073741788) (by omega) (by omega), wrap_id (by omega) (by omega)]
  congr 1
  omega
theorem public_f {x : Nat} (h0 : 0 < x) (h1 : x < Nt.Q) : cohousinglaw40_public.f (x : Int) = some (pubN x : Int) := by
  have hq : x < 1073741789 := h1
  unfold cohousinglaw40_public.f
  rw [exp_f]
  unfold expV
  rw [memB_4, expB_of (by omega) (by omega)]
  simp only [obs, Bool.and_self, if_true]
  rw [four_nat, pwZ_nat]
  rfl
theorem chkV_yes {pub : Int} {inn mid out : List S23} {links : List S53} {e : Int} (h : chkV pub inn mid out links = (true, e)) :
    e = 0 ∧ keyB pub = true ∧ ciphsB inn = true ∧ (askV inn mid out).2 = 0 ∧ links.length = inn.length ∧ chkF pub inn mid out (askV inn mid out).1 0 [] [] links = true := by
  unfold chkV at h
  split at h
  · rename_i h1
    simp only [Bool.and_eq_true] at h1
    split at h
    · rename_i h2
      simp only [Prod.mk.injEq] at h
      exact ⟨h.2.symm, h1.1, h1.2, h2.1, h2.2, h.1⟩
    · simp at h
  · simp at h
theorem chkV_err (pub : Int) (inn mid out : List S23) (links : List S53) : (chkV pub inn mid out links).2 = 0 ∨ chkV pub inn mid out links = (false, 1) := by
  unfold chkV
  split
  · split
    · exact Or.inl rfl
    · exact Or.inl rfl
  · exact Or.inr rfl
theorem okL_parts {n : Nat} {l : List S23} (h : okL n l = true) : ciphsB l = true ∧ l.length = n := by
  simp only [okL, Bool.and_eq_true, decide_eq_true_eq] at h
  exact h

def conFacts (x : Nat) (inn mid out : List S23) (bits : List Bool) (i : Nat) (y : S53) : Prop :=
  (rdOf false bits (i : Int) = true ∧ y.f0 = (i : Int) ∧ 0 ≤ y.f1 ∧ y.f1 < (inn.length : Int) ∧ ∃ o, cohousinglaw40_open.f (rd_T23 mid (i : Int)).f0 (rd_T23 mid (i : Int)).f1 (x : Int) = some o ∧ cohousinglaw40_open.f (rd_T23 out y.f1).f0 (rd_T23 out y.f1).f1 (x : Int) = some o) ∨
  (rdOf false bits (i : Int) = false ∧ y.f1 = (i : Int) ∧ 0 ≤ y.f0 ∧ y.f0 < (inn.length : Int) ∧ ∃ o, cohousinglaw40_open.f (rd_T23 mid (i : Int)).f0 (rd_T23 mid (i : Int)).f1 (x : Int) = some o ∧ cohousinglaw40_open.f (rd_T23 inn y.f0).f0 (rd_T23 inn y.f0).f1 (x : Int) = some o)
theorem chk_step {pub : Int} {inn mid out : List S23} {bits : List Bool} {links : List S53} {x : Nat} (hx0 : 0 < x) (hx1 : x < Nt.Q) (hpub : pub = (pubN x : Int)) (h1 : ciphsB inn = true) (h2 : ciphsB mid = true)
    (e1 : mid.length = inn.length) (e3 : links.length = inn.length) {i : Nat} {y : S53} {L R : List Int} (hy : links[i]? = some y) (hc : chkF pub inn mid out bits i L R (links.drop i) = true) :
    conFacts x inn mid out bits i y ∧ ∃ L R, chkF pub inn mid out bits (i + 1) L R (links.drop (i + 1)) = true := by
  obtain ⟨hlt, he⟩ := List.getElem?_eq_some_iff.1 hy
  have e : links.drop i = y :: links.drop (i + 1) := by rw [List.drop_eq_getElem_cons hlt, he]
  rw [e] at hc
  have hc2 : (chkAt pub inn mid out bits i y L R && (if rdOf false bits (i : Int) = true then chkF pub inn mid out bits (i + 1) L (R ++ [y.f1]) (links.drop (i + 1)) else chkF pub inn mid out bits (i + 1) (L ++ [y.f0]) R (links.drop (i + 1)))) = true := hc
  rw [Bool.and_eq_true] at hc2
  obtain ⟨hat, hrest⟩ := hc2
  unfold chkAt at hat
  have qm := ciphs_rd (i := (i : Int)) h2 (by omega) (by omega)
  by_cases hb : rdOf false bits (i : Int) = true
  · rw [if_pos hb] at hat hrest
    simp only [Bool.and_eq_true, beq_iff_eq] at hat
    obtain ⟨f0, f1, f2⟩ := hat
    obtain ⟨z1, z2, z3⟩ := conB_open hx1 hpub f2
    simp only [okD, Bool.and_eq_true, decide_eq_true_eq] at f1
    exact ⟨Or.inl ⟨hb, f0, f1.1, f1.2.1, _, open_f x hx0 hx1 qm.1 qm.2, by rw [open_f x hx0 hx1 z2 z3, z1]⟩, _, _, hrest⟩
  · rw [if_neg hb] at hat hrest
    simp only [Bool.and_eq_true, beq_iff_eq] at hat
    obtain ⟨f0, f1, f2⟩ := hat
    simp only [okD, Bool.and_eq_true, decide_eq_true_eq] at f1
    have qi := ciphs_rd h1 f1.1 f1.2.1
    obtain ⟨z1, z2, z3⟩ := conB_open hx1 hpub f2
    exact ⟨Or.inr ⟨by simpa using hb, f0, f1.1, f1.2.1, _, open_f x hx0 hx1 qm.1 qm.2, by rw [open_f x hx0 hx1 qi.1 qi.2, z1]⟩, _, _, hrest⟩
end Go.Proofs.YtkaebblbmoolaaaDoor.P
