/- Layer 8: the group's arithmetic over whole numbers, and the laws whose functions are short. -/
import Derived.Test.YtimcknjodeikmaaDoorPg3
import Derived.Test.YtimcknjodeikmaaDoorPx6
import Derived.Test.YtimcknjodeikmaaDoorPx6
import Derived.Test.YtimcknjodeikmaaDoorXrest
import Derived.Test.YtimcknjodeikmaaDoorPx6
import Derived.KernelRfl
set_option linter.unusedSimpArgs false
set_option linter.unusedVariables false
namespace Go.Proofs.YtimcknjodeikmaaDoor.P
open Go Go.RowKit Go.Proofs.YtimcknjodeikmaaDoorW.PrintWords Go.Proofs.YtimcknjodeikmaaDoorW.PrintLast Go.Proofs.YtimcknjodeikmaaDoorW.PrintMore

theorem pwZ_nat (a x : Nat) : pwZ (a : Int) (x : Int) = ((a ^ x % Nt.P : Nat) : Int) := by
  unfold pwZ pwM
  rw [Int.toNat_natCast, Int.toNat_natCast]
theorem memB_nat (a : Nat) : memB (a : Int) = true ↔ a < 2147483579 ∧ Nt.El a := by
  unfold memB
  rw [show (1073741789 : Int) = ((Nt.Q : Nat) : Int) from rfl, pwZ_nat a Nt.Q]
  simp only [Bool.and_eq_true, decide_eq_true_eq, beq_iff_eq]
  constructor
  · rintro ⟨h0, h1, h2⟩
    exact ⟨by omega, by unfold Nt.El; exact Int.ofNat.inj h2⟩
  · rintro ⟨h1, h2⟩
    have hp := h2.pos
    rw [Nat.mod_eq_of_lt (show a < Nt.P from h1)] at hp
    exact ⟨by omega, by omega, congrArg Int.ofNat h2⟩
theorem modP_lt (x : Nat) : x % Nt.P < 2147483579 := Nat.mod_lt _ (by decide)
theorem memB_mod {a : Nat} (h : Nt.El a) : memB ((a % Nt.P : Nat) : Int) = true :=
  (memB_nat _).2 ⟨Nat.mod_lt _ (by decide), h.mod⟩
theorem memB_pwZ {a : Nat} (h : Nt.El a) (x : Nat) : memB (pwZ (a : Int) (x : Int)) = true := by
  rw [pwZ_nat]
  exact memB_mod (h.pow x)
theorem expB_nat (x : Nat) : expB (x : Int) = true ↔ x < 1073741789 := by
  simp only [expB, Bool.and_eq_true, decide_eq_true_eq]; omega
theorem mulV_nat {a b : Nat} (ha : a < 2147483579) (hb : b < 2147483579) (h : Nt.El a) (k : Nt.El b) : mulV (a : Int) (b : Int) = (((a * b % Nt.P : Nat) : Int), 0) := by
  unfold mulV
  rw [(memB_nat a).2 ⟨ha, h⟩, (memB_nat b).2 ⟨hb, k⟩]
  simp only [Bool.and_self, if_true, Int.natCast_emod, Int.natCast_mul]
  rfl
theorem expV_nat {a x : Nat} (ha : a < 2147483579) (h : Nt.El a) (hx : x < 1073741789) : expV (a : Int) (x : Int) = (((a ^ x % Nt.P : Nat) : Int), 0) := by
  unfold expV
  rw [(memB_nat a).2 ⟨ha, h⟩, (expB_nat x).2 hx, pwZ_nat]
  rfl
theorem baseB_nat {a : Nat} (ha : a < 2147483579) (h : Nt.El a) (h1 : a ≠ 1) : baseB (a : Int) = true := by
  unfold baseB
  rw [(memB_nat a).2 ⟨ha, h⟩, Bool.true_and, bne_iff_ne]
  omega
theorem comV_nat {h x r : Nat} (hh : h < 2147483579) (hE : Nt.El h) (h1 : h ≠ 1) (hx : x < 1073741789) (hr : r < 1073741789) : comV (h : Int) (x : Int) (r : Int) = (((4 ^ x * h ^ r % Nt.P : Nat) : Int), 0) := by
  unfold comV
  rw [baseB_nat hh hE h1, (expB_nat x).2 hx, (expB_nat r).2 hr]
  simp only [Bool.and_self, if_true]
  have e := pwZ_nat 4 x
  rw [show ((4 : Nat) : Int) = 4 from rfl] at e
  rw [e, pwZ_nat, Nat.mul_mod (4 ^ x)]
  rfl
/-- What the laws make of any number. -/
def elem (n : Int) : Nat := 4 ^ (n % 1073741789).toNat % Nt.P
def sec (n : Int) : Nat := 1 + (n % 1073741788).toNat
theorem elem_lt (n : Int) : elem n < 2147483579 := Nat.mod_lt _ (by decide)
theorem elem_el (n : Int) : Nt.El (elem n) := (Nt.G_el.pow _).mod
theorem sec_lt (n : Int) : 0 < sec n ∧ sec n < 1073741789 := by unfold sec; omega
theorem four_ne : 4 % Nt.P ≠ 1 := by decide
/-- The key that all know, of a secret. -/
def pub (n : Nat) : Nat := 4 ^ n % Nt.P
theorem pub_lt (n : Nat) : pub n < 2147483579 := Nat.mod_lt _ (by decide)
theorem pub_el (n : Nat) : Nt.El (pub n) := (Nt.G_el.pow _).mod
theorem pub_ne {n : Nat} (h0 : 0 < n) (h1 : n < 1073741789) : pub n ≠ 1 := Nt.G_el.pow_ne_one four_ne h0 h1
theorem exp_u64 {a : Int} (h : (Lit.int .u64 a).wf = true) : wrap64 (Int.tmod a 1073741789) = (((a % 1073741789).toNat : Nat) : Int) ∧ (a % 1073741789).toNat < 1073741789 := by
  obtain ⟨h0, h1⟩ := wf_u64 h
  rw [tmod_nat _ _ h0 (by omega), wrap_id (by omega) (by omega)]
  omega
theorem refElement_f (a : Int) (h : (Lit.int .u64 a).wf = true) (k : Nat) (hk : 40 ≤ k) : cohousingref08_Element.f k a = some (elem a : Int) := by
  obtain ⟨e, hl⟩ := exp_u64 h
  unfold cohousingref08_Element.f elem
  rw [e, refPower_P 4 _ (by omega) (by omega) (by omega) (by omega) k hk, ← pwZ_nat]
  rfl
theorem refSecretOf_f (a : Int) (h : (Lit.int .u64 a).wf = true) : cohousingref08_Secret.f a = some (sec a : Int) := by
  obtain ⟨h0, h1⟩ := wf_u64 h
  unfold cohousingref08_Secret.f sec
  rw [tmod_nat _ _ h0 (by omega), wrap_id (a := a % 1073741788) (by omega) (by omega), wrap_id (by omega) (by omega)]
  congr 1
  omega
theorem refPub_f (n : Nat) (h : n < 1073741789) (k : Nat) (hk : 40 ≤ k) : cohousingref08_Power.f k 4 (n : Int) 2147483579 = some (pub n : Int) := by
  rw [refPower_P 4 _ (by omega) (by omega) (by omega) (by omega) k hk]
  exact congrArg some (pwZ_nat 4 n)
theorem sum_mod {x y : Nat} (hx : x < 1073741789) (hy : y < 1073741789) : Int.tmod (wrap64 ((x : Int) + (y : Int))) 1073741789 = (((x + y) % Nt.Q : Nat) : Int) := by
  rw [wrap_id (by omega) (by omega), tmod_nat _ _ (by omega) (by omega)]
  rfl
theorem prod_mod {x y : Nat} (hx : x < 1073741789) (hy : y < 1073741789) : Int.tmod (wrap64 ((x : Int) * (y : Int))) 1073741789 = ((x * y % Nt.Q : Nat) : Int) := by
  rw [mul_mod (by omega) (by omega) (by omega) (by omega) (by omega)]
  rfl
theorem Q_pos : 0 < Nt.Q := by decide
theorem mod_Q_lt (x : Nat) : x % Nt.Q < 1073741789 := Nat.mod_lt _ Q_pos

end Go.Proofs.YtimcknjodeikmaaDoor.P
