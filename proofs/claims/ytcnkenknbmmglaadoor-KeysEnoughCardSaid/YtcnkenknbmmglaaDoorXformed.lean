/- keys.formed. -/
import Derived.Test.YtcnkenknbmmglaaDoorXins
import Derived.Test.YtcnkenknbmmglaaDoorGp1
import Derived.Test.YtcnkenknbmmglaaDoorPx5
import Derived.Test.YtcnkenknbmmglaaDoorPx4
import Derived.Test.YtcnkenknbmmglaaDoorPx5
import Derived.Test.YtcnkenknbmmglaaDoorPx5
set_option linter.unusedSimpArgs false
set_option linter.unusedVariables false
namespace Go.Proofs.YtcnkenknbmmglaaDoor.P
open Go Go.RowKit Go.Proofs.YtcnkenknbmmglaaDoorW.PrintWords Go.Proofs.YtcnkenknbmmglaaDoorW.PrintLast Go.Proofs.YtcnkenknbmmglaaDoorW.PrintMore Go.Proofs.YtcnkenknbmmglaaDoor.Ord

/-- A vouch's cells, and a vouch as a value. -/
def vC (x : S28) : List Value := [.int .i64 x.f0, .int .i64 x.f1, .int .i64 x.f2, .int .i64 x.f3, .int .i64 x.f4.f0, .int .i64 x.f4.f1]
def othV (x y : S28) : Bool := !(y.f0 == x.f0 && y.f1 == x.f1 && y.f2 == x.f2)
set_option maxHeartbeats 2000000 in
set_option maxRecDepth 100000 in
/-- The predicate: does y say something other than x? -/
theorem other_pred (x y : S28) (B : Nat) (W : World) (hB : Blk W B 28 (vC x)) :
    Calls Tryd.prog 57 #[.agg #[.int .i64 y.f0, .int .i64 y.f1, .int .i64 y.f2, .int .i64 y.f3, .int .i64 y.f4.f0, .int .i64 y.f4.f1], .pointer (some ⟨B, 0, none⟩)] W fun e W' => e = .returned (.bool (othV x y)) ∧ Below W.heap.size W W' := by
  have c0 := hB.cell 0 _ rfl
  have c1 := hB.cell 1 _ rfl
  have c2 := hB.cell 2 _ rfl
  have c3 := hB.cell 3 _ rfl
  have c4 := hB.cell 4 _ rfl
  have c5 := hB.cell 5 _ rfl
  have hlt := hB.lt
  go_enter Tryd.func57, Tryd.ntmps57
  go_wp2_with fail
  go_region
  go_wp2_with fail
  all_goals (go_ret; exact ⟨by simp_all [othV], below_drew1 ((Below.refl _ _).alloc (Nat.le_refl _) _)⟩)
/-- The first place (counted from k on) where p holds; else -1. -/
def fstL {α : Type} (p : α → Bool) : List α → Nat → Int
  | [], _ => -1
  | x :: l, k => if p x then (k : Int) else fstL p l (k + 1)
theorem fstL_any {α : Type} (p : α → Bool) : ∀ (l : List α) (k : Nat), decide (0 ≤ fstL p l k) = l.any p
  | [], k => rfl
  | x :: l, k => by
    unfold fstL
    rw [List.any_cons]
    cases h : p x with
    | true => simp
    | false => simpa using fstL_any p l (k + 1)
theorem rd_getV {l : List S28} {k : Nat} (h : k < l.length) : rd_T28 l (k : Int) = l[k] := by unfold rd_T28; simp [List.getD_eq_getElem?_getD, List.getElem?_eq_getElem h]
set_option maxHeartbeats 1000000 in
theorem idx_V {g : Nat} {cap : Array Value} (q : S28 → Bool) (l : List S28) (A : Option Addr) (c : Nat) (w : World) (hr : Kd.C k28 w A l.length l)
    (hp : ∀ x W, x ∈ l → Below w.heap.size w W → Calls Tryd.prog g (#[.agg #[.int .i64 x.f0, .int .i64 x.f1, .int .i64 x.f2, .int .i64 x.f3, .int .i64 x.f4.f0, .int .i64 x.f4.f1]] ++ cap) W fun e W' => e = .returned (.bool (q x)) ∧ Below W.heap.size W W')
    (eg : ∀ args w, (callFunc g args).run Tryd.prog w = .ok (.enter g args) w) :
    Calls Tryd.prog 70 #[.slice A l.length c, .func (.func g) #[] cap] w fun e w' => e = .returned (.int .i64 (fstL q l 0)) ∧ Below w.heap.size w w' := by
  have hl : l.length ≤ 9223372036854775807 := hr.2.1
  have HR := Lib.hid hr
  have HP := Lib.hid hp
  clear hr hp
  go_enter Tryd.func70, Tryd.ntmps70
  go_wp2_with fail
  go_loopw [8] (fun i wr => ∃ k : Nat, k ≤ l.length ∧ i = .int .i64 k ∧ Hid (Below w.heap.size w wr) ∧ Hid (fstL q (l.drop k) k = fstL q l 0)) (fun i _ => l.length - (intOf i).toNat)
  case atStart => exact ⟨0, Nat.zero_le _, rfl, Below.refl _ _, rfl⟩
  case round =>
    obtain ⟨k, hk, rfl, hB, hno⟩ := hrel
    by_cases hlt : k < l.length
    · obtain ⟨x, hx⟩ : ∃ x, rd_T28 l (k : Int) = x := ⟨_, rfl⟩
      obtain ⟨ad, rfl, h0, h1, h2, h3, h4, h5⟩ := at_T28 (Kd.C_below HR.out hB.out) (k : Int) (by omega) (by omega)
      rw [hx] at h0 h1 h2 h3 h4 h5
      simp only [Int.toNat_natCast] at h0 h1 h2 h3 h4 h5
      have hg : l[k] = x := (rd_getV hlt).symm.trans hx
      have hd : l.drop k = x :: l.drop (k + 1) := by rw [List.drop_eq_getElem_cons hlt, hg]
      have hc := HP.out x wr (by rw [← hg]; exact List.getElem_mem hlt) hB.out
      have hs := hno.out
      rw [hd, fstL] at hs
      cases hpx : q x with
      | true =>
        rw [hpx] at hc
        rw [hpx, if_pos rfl] at hs
        have HS := Lib.hid hs
        clear hs hno hpx hg hd hx
        go_wp2_with fail
        refine hc.mono ?_
        rintro e w' ⟨rfl, hx'⟩
        have HX := Lib.hid (hB.out.trans (Below.mono hx' hB.out.size))
        clear hx' hc hB h0 h1 h2 h3 h4 h5
        go_wp2
        go_ret
        exact ⟨by rw [HS.out]; rfl, HX.out⟩
      | false =>
        rw [hpx] at hc
        rw [hpx, if_neg (by decide)] at hs
        have HS := Lib.hid hs
        clear hs hno hpx hg hd hx
        go_wp2_with fail
        refine hc.mono ?_
        rintro e w' ⟨rfl, hx'⟩
        have HX := Lib.hid (hB.out.trans (Below.mono hx' hB.out.size))
        clear hx' hc hB h0 h1 h2 h3 h4 h5
        go_wp2
        go_roundw
        case rel => exact ⟨k + 1, by omega, by go_num, HX.out, HS⟩
        case measure => simp [intOf]; omega
    · have hs := hno.out
      rw [List.drop_eq_nil_of_le (by omega), fstL] at hs
      have HS := Lib.hid hs
      clear hs hno
      go_wp2
      go_ret
      exact ⟨by rw [← HS.out]; rfl, hB.out⟩
set_option maxHeartbeats 1000000 in
theorem contains_V {g : Nat} {cap : Array Value} (q : S28 → Bool) (l : List S28) (A : Option Addr) (c : Nat) (w : World) (hr : Kd.C k28 w A l.length l)
    (hp : ∀ x W, x ∈ l → Below w.heap.size w W → Calls Tryd.prog g (#[.agg #[.int .i64 x.f0, .int .i64 x.f1, .int .i64 x.f2, .int .i64 x.f3, .int .i64 x.f4.f0, .int .i64 x.f4.f1]] ++ cap) W fun e W' => e = .returned (.bool (q x)) ∧ Below W.heap.size W W')
    (eg : ∀ args w, (callFunc g args).run Tryd.prog w = .ok (.enter g args) w) :
    Calls Tryd.prog 58 #[.slice A l.length c, .func (.func g) #[] cap] w fun e w' => e = .returned (.bool (l.any q)) ∧ Below w.heap.size w w' := by
  have C := Lib.hid (idx_V q l A c w hr hp eg)
  have HQ := Lib.hid (fstL_any q l 0)
  clear hr hp
  go_enter Tryd.func58, Tryd.ntmps58
  go_wp2_with fail
  refine C.out.mono ?_
  rintro e w' ⟨rfl, hx⟩
  have HX := Lib.hid hx
  clear hx
  go_wp2_with fail
  go_ret
  exact ⟨by rw [← HQ.out]; rfl, HX.out⟩
/-- Is the number in the list? -/
theorem index_l (l : List Int) (a : Int) (hl : l.length < 9000000000000000000) : ∀ (n i k : Nat), l.length - i = n → i ≤ l.length → n < k →
    ∃ r : Int, slices_Index_int_int.l0 k l a (l.length : Int) (i : Int) = some r ∧ decide (r ≥ 0) = (l.drop i).contains a
  | 0, i, k, h1, h2, h3 => by
    obtain ⟨k, rfl⟩ : ∃ m, k = m + 1 := ⟨k - 1, by omega⟩
    obtain rfl : i = l.length := by omega
    refine ⟨-1, ?_, by rw [List.drop_length]; rfl⟩
    rw [slices_Index_int_int.l0, if_neg (by omega)]
  | n + 1, i, k, h1, h2, h3 => by
    obtain ⟨k, rfl⟩ : ∃ m, k = m + 1 := ⟨k - 1, by omega⟩
    have hi : i < l.length := by omega
    have hg : rd l (i : Int) = l[i] := by simp [rd, List.getD_eq_getElem?_getD, List.getElem?_eq_getElem hi]
    have hd : l.drop i = l[i] :: l.drop (i + 1) := List.drop_eq_getElem_cons hi
    rw [slices_Index_int_int.l0, if_pos (by omega), if_pos (by omega), if_pos (by omega), hg, hd]
    by_cases h : a = l[i]
    · rw [if_pos h]
      exact ⟨(i : Int), rfl, by rw [h, List.contains_cons]; simp⟩
    · rw [if_neg h]
      have hw : wrap64 ((i : Int) + 1) = ((i + 1 : Nat) : Int) := by unfold wrap64; omega
      obtain ⟨r, h4, h5⟩ := index_l l a hl n (i + 1) k (by omega) (by omega) (by omega)
      refine ⟨r, by rw [hw]; exact h4, ?_⟩
      rw [h5, List.contains_cons]
      have : (a == l[i]) = false := by simpa using h
      rw [this, Bool.false_or]
theorem contains_f (l : List Int) (a : Int) (k : Nat) (hl : l.length < 9000000000000000000) (hk : l.length < k) : slices_Contains_int_int.f k l a = some (l.contains a) := by
  obtain ⟨r, h1, h2⟩ := index_l l a hl l.length 0 k rfl (by omega) hk
  unfold slices_Contains_int_int.f slices_Index_int_int.f
  rw [show (0 : Int) = ((0 : Nat) : Int) from rfl, h1, obs]
  exact congrArg some h2
theorem rd_getI {l : List Int} {k : Nat} (h : k < l.length) : rd l (k : Int) = l[k] := by simp [rd, List.getD_eq_getElem?_getD, List.getElem?_eq_getElem h]
def homeV (n : Int) : Bool := decide (1 ≤ n) && decide (n ≤ 64)
def dayV (n : Int) : Bool := decide (0 ≤ n) && decide (n ≤ 36524)
theorem isHome_f (n : Int) : keys_isHome.f n = some (homeV n) := by
  unfold keys_isHome.f homeV
  by_cases h : 1 ≤ n <;> simp [h]
theorem isDay_f (n : Int) : keys_isDay.f n = some (dayV n) := by
  unfold keys_isDay.f dayV
  by_cases h : 0 ≤ n <;> simp [h]
def keyV (a : Int) : Bool := !(a == 1) && memB a
theorem isKey_f (a : Int) : keys_isKey.f a = some (keyV a) := by
  unfold keys_isKey.f keyV
  by_cases h : a = 1
  · subst h
    rw [if_pos rfl, show ((1 : Int) == 1) = true from rfl, Bool.not_true, Bool.false_and]
  · rw [if_neg h, member_f, obs]
    have : (a == 1) = false := by simpa using h
    rw [this, Bool.not_false, Bool.true_and]
/-- Households that rise. -/
def ascB : List Int → Int → Bool
  | [], _ => true
  | n :: l, p => homeV n && (decide (p < n) && ascB l n)
def prevI (l : List Int) : Nat → Int
  | 0 => 0
  | k + 1 => rd l (k : Int)
def saysB (ns : List Int) (v : List S28) (x : S28) : Bool := homeV x.f0 && (keyV x.f1 && (dayV x.f2 && (!ns.contains x.f0 && !v.any (othV x))))
def formedV (ns : List Int) (need : Int) (v : List S28) : Bool :=
  (decide (ns.length ≤ 8) && (decide (1 ≤ need) && (decide (need ≤ 8) && (decide (1 ≤ v.length) && decide (v.length ≤ 16))))) && (ascB ns 0 && saysB ns v (rd_T28 v 0))
set_option maxHeartbeats 4000000 in
set_option maxRecDepth 100000 in
theorem formed_calls (A1 : Option Addr) (c1 : Nat) (ns : List Int) (need : Int) (A2 : Option Addr) (c2 : Nat) (v : List S28) (w : World) (hr1 : Kd.C (Kd.int .i64) w A1 ns.length ns) (hc1 : ns.length ≤ c1) (hr2 : Kd.C k28 w A2 v.length v) (hc2 : v.length ≤ c2) :
    Calls Tryd.prog 34 #[.slice A1 ns.length c1, .int .i64 need, .slice A2 v.length c2] w fun e w' => e = .returned (.bool (formedV ns need v)) ∧ Below w.heap.size w w' := by
  have HR := Lib.hid (And.intro hr1 hr2)
  clear hr1 hr2
  by_cases h1 : ns.length ≤ 8
  case neg =>
    have e1 : formedV ns need v = false := by simp only [formedV, h1, decide_false, Bool.false_and, Bool.and_false]
    rw [e1]
    clear e1
    go_enter Tryd.func34, Tryd.ntmps34
    go_wp2_with fail
    go_ret
    exact ⟨rfl, Below.refl _ _⟩
  by_cases h2 : 1 ≤ need
  case neg =>
    have e1 : formedV ns need v = false := by simp only [formedV, h2, decide_false, Bool.false_and, Bool.and_false]
    rw [e1]
    clear e1
    go_enter Tryd.func34, Tryd.ntmps34
    go_wp2_with fail
    go_ret
    exact ⟨rfl, Below.refl _ _⟩
  by_cases h3 : need ≤ 8
  case neg =>
    have e1 : formedV ns need v = false := by simp only [formedV, h3, decide_false, Bool.false_and, Bool.and_false]
    rw [e1]
    clear e1
    go_enter Tryd.func34, Tryd.ntmps34
    go_wp2_with fail
    go_ret
    exact ⟨rfl, Below.refl _ _⟩
  by_cases h4 : 1 ≤ v.length
  case neg =>
    have e1 : formedV ns need v = false := by simp only [formedV, h4, decide_false, Bool.false_and, Bool.and_false]
    have h5 : ((v.length : Int) == 0) = true := beq_iff_eq.2 (by omega)
    rw [e1]
    clear e1
    go_enter Tryd.func34, Tryd.ntmps34
    go_wp2_with fail
    go_ret
    exact ⟨rfl, Below.refl _ _⟩
  have h5 : ((v.length : Int) == 0) = false := beq_eq_false_iff_ne.2 (by omega)
  by_cases h6 : v.length ≤ 16
  case neg =>
    have e1 : formedV ns need v = false := by simp only [formedV, h6, decide_false, Bool.false_and, Bool.and_false]
    rw [e1]
    clear e1
    go_enter Tryd.func34, Tryd.ntmps34
    go_wp2_with fail
    go_ret
    exact ⟨rfl, Below.refl _ _⟩
  have HF := Lib.hid (show formedV ns need v = (ascB ns 0 && saysB ns v (rd_T28 v 0)) by simp only [formedV, h1, h2, h3, h4, h6, decide_true, Bool.true_and])
  go_enter Tryd.func34, Tryd.ntmps34
  go_wp2_with fail
  go_loopw [34] (fun i wr => ∃ k : Nat, k ≤ ns.length ∧ i = .int .i64 k ∧ Hid (Below w.heap.size w wr) ∧ Hid (ascB (ns.drop k) (prevI ns k) = ascB ns 0)) (fun i _ => ns.length - (intOf i).toNat)
  case atStart => exact ⟨0, Nat.zero_le _, rfl, Below.refl _ _, rfl⟩
  case round =>
    obtain ⟨k, hk, rfl, hB, hno⟩ := hrel
    by_cases hlt : k < ns.length
    · obtain ⟨x, hx⟩ : ∃ x, rd ns (k : Int) = x := ⟨_, rfl⟩
      obtain ⟨ad, rfl, hc0⟩ := Kd.at_int (Kd.C_below HR.out.1 hB.out) (k : Int) (by omega) (by omega)
      rw [hx] at hc0
      simp only [Int.toNat_natCast] at hc0
      have hg : ns[k] = x := (rd_getI hlt).symm.trans hx
      have hd : ns.drop k = x :: ns.drop (k + 1) := by rw [List.drop_eq_getElem_cons hlt, hg]
      have hs := hno.out
      rw [hd, ascB] at hs
      have hcall := keys_isHome.calls x (homeV x) wr (isHome_f x)
      have hw : IntKind.i64.wrap ((k : Int) + 1) = (k : Int) + 1 := by rw [IntKind.wrap_i64]; omega
      cases hh : homeV x with
      | false =>
        rw [hh] at hcall
        have HS := Lib.hid (show formedV ns need v = false by rw [HF.out, ← hs, hh]; rfl)
        clear hs hno hg hd hx hh
        go_wp2_with fail
        refine hcall.mono ?_
        rintro e w1 ⟨rfl, hd1⟩
        have HB1 := Lib.hid (hB.out.trans (Below.mono hd1.below hB.out.size))
        clear hd1 hcall hB hc0
        go_wp2_with fail
        go_ret
        exact ⟨by rw [HS.out]; rfl, HB1.out⟩
      | true =>
        rw [hh] at hcall
        rw [hh, Bool.true_and] at hs
        have hx1 : 1 ≤ x := by
          simp only [homeV, Bool.and_eq_true, decide_eq_true_eq] at hh
          exact hh.1
        by_cases hk0 : 0 < k
        case neg =>
          have HS := Lib.hid (show ascB (ns.drop (k + 1)) (prevI ns (k + 1)) = ascB ns 0 by
            obtain rfl : k = 0 := by omega
            rw [← hs]
            show ascB (ns.drop (0 + 1)) (rd ns ((0 : Nat) : Int)) = (decide ((0 : Int) < x) && ascB (ns.drop (0 + 1)) x)
            rw [hx, decide_eq_true (by omega), Bool.true_and])
          have hki : ¬ (0 : Int) < (k : Int) := by omega
          clear hs hno hg hd hx hh
          go_wp2_with fail
          refine hcall.mono ?_
          rintro e w1 ⟨rfl, hd1⟩
          have HB1 := Lib.hid (hB.out.trans (Below.mono hd1.below hB.out.size))
          clear hd1 hcall hB hc0
          go_wp2_with fail
          go_roundw
          case rel => exact ⟨k + 1, by omega, by go_num, HB1.out, HS⟩
          case measure => simp [intOf]; omega
        case pos =>
          have hki : (0 : Int) < (k : Int) := by omega
          obtain ⟨p, hp⟩ : ∃ p, rd ns ((k - 1 : Nat) : Int) = p := ⟨_, rfl⟩
          have hpv : prevI ns k = p := by
            obtain ⟨m, rfl⟩ : ∃ m, k = m + 1 := ⟨k - 1, by omega⟩
            exact hp
          obtain ⟨ad', e', hc1'⟩ := Kd.at_int (Kd.C_below HR.out.1 hB.out) ((k - 1 : Nat) : Int) (by omega) (by omega)
          cases e'
          rw [hp, Int.toNat_natCast] at hc1'
          have hsub : IntKind.i64.wrap ((k : Int) - 1) = ((k - 1 : Nat) : Int) := by rw [IntKind.wrap_i64]; omega
          rw [hpv] at hs
          by_cases hxp : p < x
          · rw [decide_eq_true hxp, Bool.true_and] at hs
            have HS := Lib.hid (show ascB (ns.drop (k + 1)) (prevI ns (k + 1)) = ascB ns 0 by
              rw [← hs]
              show ascB (ns.drop (k + 1)) (rd ns (k : Int)) = _
              rw [hx])
            clear hs hno hg hd hx hh hp hpv
            go_wp2_with fail
            refine hcall.mono ?_
            rintro e w1 ⟨rfl, hd1⟩
            have hc2' := pw_cell_below hd1.below hc1'
            have HB1 := Lib.hid (hB.out.trans (Below.mono hd1.below hB.out.size))
            clear hd1 hcall hB hc0 hc1'
            go_wp2_with fail
            go_roundw
            case rel => exact ⟨k + 1, by omega, by go_num, HB1.out, HS⟩
            case measure => simp [intOf]; omega
          · have HS := Lib.hid (show formedV ns need v = false by rw [HF.out, ← hs, decide_eq_false hxp]; rfl)
            clear hs hno hg hd hx hh hp hpv
            go_wp2_with fail
            refine hcall.mono ?_
            rintro e w1 ⟨rfl, hd1⟩
            have hc2' := pw_cell_below hd1.below hc1'
            have HB1 := Lib.hid (hB.out.trans (Below.mono hd1.below hB.out.size))
            clear hd1 hcall hB hc0 hc1'
            go_wp2_with fail
            go_ret
            exact ⟨by rw [HS.out]; rfl, HB1.out⟩
    · have hs := hno.out
      rw [List.drop_eq_nil_of_le (by omega), ascB] at hs
      have HS := Lib.hid (show formedV ns need v = saysB ns v (rd_T28 v 0) by rw [HF.out, ← hs, Bool.true_and])
      clear hs hno
      obtain ⟨ad, rfl, d0, d1, d2, d3, d4, d5⟩ := at_T28 (Kd.C_below HR.out.2 hB.out) 0 (by omega) (by omega)
      obtain ⟨x, hx⟩ : ∃ x, rd_T28 v 0 = x := ⟨_, rfl⟩
      rw [hx] at d0 d1 d2 d3 d4 d5 HS
      have ea : ad.add 0 = ad := rfl
      simp only [Int.toNat_zero, Nat.zero_mul, ea] at d0 d1 d2 d3 d4 d5
      clear ea
      go_wp2_with fail
      obtain ⟨hb0, hs0, hw0⟩ := Blk.box wr 28 (vC x)
      rw [show (vC x).toArray = #[.int .i64 x.f0, .int .i64 x.f1, .int .i64 x.f2, .int .i64 x.f3, .int .i64 x.f4.f0, .int .i64 x.f4.f1] from rfl] at hb0 hs0 hw0
      generalize wr.alloc (.cells #[.int .i64 x.f0, .int .i64 x.f1, .int .i64 x.f2, .int .i64 x.f3, .int .i64 x.f4.f0, .int .i64 x.f4.f1] 28) = w0 at *
      generalize hbb : wr.heap.size = b at *
      have HB0 := Lib.hid (show Below w.heap.size w w0 from hB.out.trans (Below.mono hw0 (by have := hB.out.size; omega)))
      have HK0 := Lib.hid hb0
      clear hb0 hs0 hw0 hB d0 d1 d2 d3 d4 d5 hbb
      refine (keys_isHome.calls x.f0 (homeV x.f0) w0 (isHome_f _)).mono ?_
      rintro e w1 ⟨rfl, hd1⟩
      have HB1 := Lib.hid (HB0.out.trans (Below.mono hd1.below HB0.out.size))
      have HK1 := Lib.hid (HK0.out.below hd1.below HK0.out.lt)
      clear hd1 HB0 HK0
      cases hh1 : homeV x.f0 with
      | false =>
        have HS2 := Lib.hid (show formedV ns need v = false by rw [HS.out]; simp only [saysB, hh1, Bool.false_and])
        clear hh1 HS
        go_wp2_with fail
        go_ret
        exact ⟨by rw [HS2.out]; rfl, HB1.out⟩
      | true =>
      have k1 := HK1.out.cell 1 _ rfl
      go_wp2_with fail
      refine (keys_isKey.calls x.f1 (keyV x.f1) w1 (isKey_f _)).mono ?_
      rintro e w2 ⟨rfl, hd2⟩
      have HB2 := Lib.hid (HB1.out.trans (Below.mono hd2 HB1.out.size))
      have HK2 := Lib.hid (HK1.out.below hd2 HK1.out.lt)
      clear hd2 HB1 HK1 k1
      cases hh2 : keyV x.f1 with
      | false =>
        have HS2 := Lib.hid (show formedV ns need v = false by rw [HS.out]; simp only [saysB, hh1, hh2, Bool.true_and, Bool.false_and, Bool.and_false, Bool.not_true])
        clear HS
        go_wp2_with fail
        go_ret
        exact ⟨by rw [HS2.out]; rfl, HB2.out⟩
      | true =>
      have k2 := HK2.out.cell 2 _ rfl
      go_wp2_with fail
      refine (keys_isDay.calls x.f2 (dayV x.f2) w2 (isDay_f _)).mono ?_
      rintro e w3 ⟨rfl, hd3⟩
      have HB3 := Lib.hid (HB2.out.trans (Below.mono hd3.below HB2.out.size))
      have HK3 := Lib.hid (HK2.out.below hd3.below HK2.out.lt)
      clear hd3 HB2 HK2 k2
      cases hh3 : dayV x.f2 with
      | false =>
        have HS2 := Lib.hid (show formedV ns need v = false by rw [HS.out]; simp only [saysB, hh1, hh2, hh3, Bool.true_and, Bool.false_and, Bool.and_false, Bool.not_true])
        clear HS
        go_wp2_with fail
        go_ret
        exact ⟨by rw [HS2.out]; rfl, HB3.out⟩
      | true =>
      have k3 := HK3.out.cell 0 _ rfl
      go_wp2_with fail
      refine (slices_Contains_int_int.calls 1000 A1 c1 ns x.f0 (ns.contains x.f0) w3 (Kd.C_below HR.out.1 HB3.out) hc1 (contains_f ns x.f0 1000 (by omega) (by omega))).mono ?_
      rintro e w4 ⟨rfl, hd4⟩
      have HB4 := Lib.hid (HB3.out.trans (Below.mono hd4.below HB3.out.size))
      have HK4 := Lib.hid (HK3.out.below hd4.below HK3.out.lt)
      clear hd4 HB3 HK3 k3
      cases hh4 : ns.contains x.f0 with
      | true =>
        have HS2 := Lib.hid (show formedV ns need v = false by rw [HS.out]; simp only [saysB, hh1, hh2, hh3, hh4, Bool.true_and, Bool.false_and, Bool.and_false, Bool.not_true])
        clear HS
        go_wp2_with fail
        go_ret
        exact ⟨by rw [HS2.out]; rfl, HB4.out⟩
      | false =>
      have HS2 := Lib.hid (show formedV ns need v = !v.any (othV x) by rw [HS.out]; simp only [saysB, hh1, hh2, hh3, hh4, Bool.true_and, Bool.not_false])
      clear HS
      go_wp2_with fail
      refine (contains_V (g := 57) (cap := #[.pointer (some ⟨b, 0, none⟩)]) (othV x) v (some ad) c2 w4 (Kd.C_below HR.out.2 HB4.out) (fun y W _ hW => other_pred x y b W (HK4.out.below hW HK4.out.lt)) (enters_of Tryd.func57 (by kernel_rfl) rfl)).mono ?_
      rintro e w5 ⟨rfl, hd5⟩
      have HB5 := Lib.hid (HB4.out.trans (Below.mono hd5 HB4.out.size))
      clear hd5
      go_wp2_with fail
      go_ret
      exact ⟨by rw [HS2.out]; rfl, HB5.out⟩
end Go.Proofs.YtcnkenknbmmglaaDoor.P
