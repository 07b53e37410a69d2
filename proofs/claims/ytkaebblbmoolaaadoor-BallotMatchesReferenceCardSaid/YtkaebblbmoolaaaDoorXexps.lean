/- ballot.exponents and ballot.ciphers: what they answer. -/
import Derived.Test.YtkaebblbmoolaaaDoorXf
import Derived.Test.YtkaebblbmoolaaaDoorPh
import Derived.Test.YtkaebblbmoolaaaDoorBk
import Derived.Shelf.Abstract
set_option linter.unusedSimpArgs false
set_option linter.unusedVariables false
namespace Go.Proofs.YtkaebblbmoolaaaDoor.P
open Go Go.RowKit Go.Shelf Go.Proofs.YtkaebblbmoolaaaDoorW.PrintWords Go.Proofs.YtkaebblbmoolaaaDoorW.PrintLast Go.Proofs.YtkaebblbmoolaaaDoorW.PrintMore

theorem exps_pred (x : Int) (W : World) : Calls Tryd.prog 64 #[.int .i64 x] W fun e W' => e = .returned (.bool (!expB x)) ∧ W' = W := by
  go_enter Tryd.func64, Tryd.ntmps64
  go_wp2
  all_goals (go_ret; refine ⟨?_, rfl⟩; refine congrArg (fun b => Ending.returned (.bool b)) ?_; unfold expB; by_cases h1 : x < 1073741789 <;> by_cases h2 : 0 ≤ x <;> simp_all <;> omega)
def ballot_exponents.f (l0 : List Int) (a1 : Int) : Option (Bool) := some (decide ((l0.length : Int) = a1) && l0.all expB)
theorem ballot_exponents.calls (A0 : Option Addr) (c0 : Nat) (l0 : List Int) (a1 : Int) (r : Bool) (w : World) (hr0 : Kd.C (Kd.int .i64) w A0 l0.length l0) (hc0 : l0.length ≤ c0) (h : ballot_exponents.f l0 a1 = some r) :
    Calls Tryd.prog 43 #[.slice A0 l0.length c0, .int .i64 a1] w fun e w' => e = .returned (.bool r) ∧ Below w.heap.size w w' := by
  obtain rfl := Option.some.inj h
  have hq : ∀ j x, l0[j]? = some x → (fun k => !(l0[k]?.map expB).getD false) (0 + j) = !expB x := by
    intro j x hx
    simp [hx]
  have C := Lib.hid (contains_int (g := 64) (cap := #[]) (fun k => !(l0[k]?.map expB).getD false) l0 A0 c0 w (fun k W => Below w.heap.size w W) hr0.2.1 (fun k W x hk hb => read_int hr0 hb k x hk)
    (fun k x W hk hb => by
      refine (exps_pred x W).mono ?_
      rintro e w' ⟨rfl, rfl⟩
      exact ⟨by simp [hk], hb⟩) (enters_of Tryd.func64 (by kernel_rfl) rfl) (Below.refl _ _))
  have hh := hasQ_all expB l0 l0 (fun k => !(l0[k]?.map expB).getD false) 0 hq
  rw [hh] at C
  clear hq hh h hr0
  by_cases hn : (l0.length : Int) = a1
  · subst hn
    have d : decide ((l0.length : Int) = (l0.length : Int)) = true := decide_eq_true rfl
    rw [d, Bool.true_and]
    clear d
    go_enter Tryd.func43, Tryd.ntmps43
    go_wp2_with fail
    refine C.out.mono ?_
    rintro e w' ⟨rfl, k, hb⟩
    go_wp2_with fail
    go_ret
    exact ⟨by simp, hb⟩
  · have d : decide ((l0.length : Int) = a1) = false := decide_eq_false hn
    have d2 : ((l0.length : Int) == a1) = false := by simpa using hn
    rw [d, Bool.false_and]
    clear hn d
    go_enter Tryd.func43, Tryd.ntmps43
    go_wp2_with fail
    go_ret
    exact ⟨rfl, Below.refl _ _⟩

def ciphB (x : S23) : Bool := memB x.f0 && memB x.f1
def ciphsB (l : List S23) : Bool := decide (1 ≤ l.length) && (decide (l.length ≤ 64) && l.all ciphB)
theorem ciphs_pred (x : S23) (W : World) : Calls Tryd.prog 56 #[.agg #[.int .i64 x.f0, .int .i64 x.f1]] W fun e W' => e = .returned (.bool (!ciphB x)) ∧ Below W.heap.size W W' := by
  unfold ciphB
  have H0 := fun W => group_Member.calls x.f0 _ W (member_f x.f0)
  have H1 := fun W => group_Member.calls x.f1 _ W (member_f x.f1)
  cases h0 : memB x.f0 with
  | false =>
    rw [h0] at H0
    have K0 := Lib.hid H0
    clear H0 H1 h0
    go_enter Tryd.func56, Tryd.ntmps56
    go_wp2_with fail
    refine (K0.out _).mono ?_
    rintro e w1 ⟨rfl, hb⟩
    go_wp2_with fail
    go_ret
    exact ⟨rfl, ((Below.refl _ W).alloc (Nat.le_refl _) _).trans (Below.mono hb (by simp))⟩
  | true =>
    rw [h0] at H0
    have K0 := Lib.hid H0
    have K1 := Lib.hid H1
    clear H0 H1 h0
    go_enter Tryd.func56, Tryd.ntmps56
    go_wp2_with fail
    obtain ⟨hx, hsz, hbw⟩ := Blk.box W 23 [Value.int IntKind.i64 x.f0, Value.int IntKind.i64 x.f1]
    rw [show (List.toArray [Value.int IntKind.i64 x.f0, Value.int IntKind.i64 x.f1]) = #[Value.int IntKind.i64 x.f0, Value.int IntKind.i64 x.f1] from rfl] at hx hsz hbw
    generalize W.alloc (Obj.cells #[Value.int IntKind.i64 x.f0, Value.int IntKind.i64 x.f1] 23) = W1 at hx hsz hbw ⊢
    refine (K0.out W1).mono ?_
    rintro e w1 ⟨rfl, hb⟩
    have cell1 := (hx.below hb hx.lt).cell 1 _ rfl
    have HB := Lib.hid (show Below W.heap.size W w1 from hbw.trans (Below.mono hb (by rw [hsz]; omega)))
    clear hb hbw hsz hx
    go_wp2_with fail
    refine (K1.out w1).mono ?_
    rintro e w2 ⟨rfl, hb⟩
    have HB2 := Lib.hid (HB.out.trans (Below.mono hb HB.out.size))
    clear hb
    go_wp2_with fail
    go_ret
    exact ⟨by simp, HB2.out⟩
def ballot_ciphers.f (l0 : List (S23)) : Option (Bool) := some (ciphsB l0)
theorem ballot_ciphers.calls (A0 : Option Addr) (c0 : Nat) (l0 : List (S23)) (r : Bool) (w : World) (hr0 : Kd.C k23 w A0 l0.length l0) (hc0 : l0.length ≤ c0) (h : ballot_ciphers.f l0 = some r) :
    Calls Tryd.prog 36 #[.slice A0 l0.length c0] w fun e w' => e = .returned (.bool r) ∧ Below w.heap.size w w' := by
  obtain rfl := Option.some.inj h
  have hq : ∀ j x, l0[j]? = some x → (fun k => !(l0[k]?.map ciphB).getD false) (0 + j) = !ciphB x := by
    intro j x hx
    simp [hx]
  have C := Lib.hid (fun W0 (h0 : Below w.heap.size w W0) => contains_c (g := 56) (cap := #[]) (fun k => !(l0[k]?.map ciphB).getD false) l0 A0 c0 W0 (fun k W => Below w.heap.size w W) hr0.2.1 (fun k W x hk hb => read_c hr0 hb k x hk)
    (fun k x W hk hb => by
      refine (ciphs_pred x W).mono ?_
      rintro e w' ⟨rfl, hb'⟩
      exact ⟨by simp [hk], hb.trans (Below.mono hb' hb.size)⟩) (enters_of Tryd.func56 (by kernel_rfl) rfl) h0)
  have hh := hasQ_all ciphB l0 l0 (fun k => !(l0[k]?.map ciphB).getD false) 0 hq
  rw [hh] at C
  have C := Lib.hid (C.out w (Below.refl _ _))
  clear hq hh h hr0
  unfold ciphsB
  by_cases h1 : 1 ≤ l0.length
  · have d1 : decide ((1 : Int) ≤ (l0.length : Int)) = true := decide_eq_true (by omega)
    rw [decide_eq_true h1, Bool.true_and]
    by_cases h2 : l0.length ≤ 64
    · have d2 : decide ((l0.length : Int) ≤ 64) = true := decide_eq_true (by omega)
      rw [decide_eq_true h2, Bool.true_and]
      clear h1 h2
      go_enter Tryd.func36, Tryd.ntmps36
      go_wp2_with fail
      refine C.out.mono ?_
      rintro e w' ⟨rfl, k, hb⟩
      go_wp2_with fail
      go_ret
      exact ⟨by simp, hb⟩
    · have d2 : decide ((l0.length : Int) ≤ 64) = false := decide_eq_false (by omega)
      rw [decide_eq_false h2, Bool.false_and]
      clear h1 h2
      go_enter Tryd.func36, Tryd.ntmps36
      go_wp2_with fail
      go_ret
      exact ⟨rfl, Below.refl _ _⟩
  · have d1 : decide ((1 : Int) ≤ (l0.length : Int)) = false := decide_eq_false (by omega)
    rw [decide_eq_false h1, Bool.false_and]
    clear h1
    go_enter Tryd.func36, Tryd.ntmps36
    go_wp2_with fail
    go_ret
    exact ⟨rfl, Below.refl _ _⟩
end Go.Proofs.YtkaebblbmoolaaaDoor.P
