/- The walks of package settle, and of money.Add: sums. -/
import Derived.Test.YtffbomfhihhmhaaSettle2
set_option linter.unusedSimpArgs false
set_option linter.unusedVariables false
namespace Go.Proofs.Ytffbomfhihhmhaa.Settle
open Go Go.RowKit Go.Shelf Go.Proofs.Ytffbomfhihhmhaa.Ord Go.Proofs.Ytffbomfhihhmhaa.Base

theorem ret_int {a b : Int} (h : a = b) : Ending.returned (.int .i64 a) = Ending.returned (.int .i64 b) := by rw [h]
theorem ret_ie {a b c d : Int} (h : a = b) (k : c = d) : Ending.returned (.tuple #[.int .i64 a, .int .i64 c]) = Ending.returned (.tuple #[.int .i64 b, .int .i64 d]) := by rw [h, k]

theorem valid_calls (x : Int) (w : World) : Calls Try.prog 35 #[.int .i64 x] w fun e w' => e = .returned (.bool (amt x)) ∧ w = w' := by
  unfold amt
  go_enter Try.func35, Try.ntmps35
  go_wp2
  all_goals (go_ret; simp_all)
  all_goals omega

def cs (l : List Ch) : Int := (l.map Ch.cents).sum
theorem cs_bound {l : List Ch} (h : ∀ x ∈ l, -1000000000 ≤ x.cents ∧ x.cents ≤ 1000000000) : -1000000000 * l.length ≤ cs l ∧ cs l ≤ 1000000000 * l.length := by
  induction l with
  | nil => simp [cs]
  | cons x r ih =>
    have h1 := h x (by simp)
    have h2 := ih (fun y hy => h y (by simp [hy]))
    unfold cs at *
    simp only [List.map_cons, List.sum_cons, List.length_cons]
    omega
theorem cs_take {l : List Ch} {k : Nat} {x : Ch} (h : l[k]? = some x) : cs (l.take (k + 1)) = cs (l.take k) + x.cents := by
  unfold cs
  rw [List.take_add_one, h]
  simp

set_option maxHeartbeats 1000000 in
theorem sum_calls (l : List Ch) (n : Int) (A : Option Addr) (c : Nat) (w : World) (hl : l.length ≤ 64) (hn : -1000000000 ≤ n ∧ n ≤ 1000000000) (hc : ∀ x ∈ l, -1000000000 ≤ x.cents ∧ x.cents ≤ 1000000000)
    (hE : RowsOf w 5 Ch.cells A l) :
    Calls Try.prog 22 #[.slice A l.length c, .int .i64 n] w fun e w' => e = .returned (.int .i64 (n + cs l)) ∧ Ext w w' := by
  have HC := Lib.hid hc
  clear hc
  obtain ⟨hn1, hn2⟩ := hn
  go_enter Try.func22, Try.ntmps22
  go_wp2_with fail
  go_loopw [1, 9] (fun s i wr => ∃ k : Nat, k ≤ l.length ∧ i = .int .i64 k ∧ s = .int .i64 (n + cs (l.take k)) ∧ Ext w wr) (fun _ i _ => l.length - (intOf i).toNat)
  case atStart => exact ⟨0, Nat.zero_le _, rfl, by simp [cs], Ext.refl w⟩
  case round =>
    obtain ⟨k, hk, rfl, rfl, hx⟩ := hrel
    by_cases hlt : k < l.length
    · have hxk : l[k]? = some l[k] := List.getElem?_eq_getElem hlt
      have hst := cs_take hxk
      have hb1 := cs_bound (l := l.take k) (fun x hx => HC.out x (List.mem_of_mem_take hx))
      have hb2 := HC.out l[k] (List.getElem_mem hlt)
      have hlen : (l.take k).length ≤ 64 := by simp; omega
      generalize l[k] = x at *
      obtain ⟨ad, rfl, hld⟩ := rows_five hE hxk
      obtain ⟨h0, h1, h2, h3, h4⟩ := hld wr hx
      have b1 : -64000000000 ≤ cs (l.take k) := by omega
      have b2 : cs (l.take k) ≤ 64000000000 := by omega
      obtain ⟨b3, b4⟩ := hb2
      have HS := Lib.hid hst
      clear hld hxk hst hb1 hlen
      go_wp2
      go_roundw
      case rel => exact ⟨k + 1, by omega, by go_num, by rw [HS.out]; go_num, hx.trans (Ext.alloc _ _)⟩
      case measure => simp [intOf]; omega
    · have hk' : l.take k = l := List.take_of_length_le (by omega)
      rw [hk']
      clear hk'
      go_wp2
      go_ret
      exact ⟨rfl, hx⟩

def isum (l : List Int) : Int := l.sum
theorem isum_take {l : List Int} {k : Nat} {x : Int} (h : l[k]? = some x) : isum (l.take (k + 1)) = isum (l.take k) + x := by
  unfold isum
  rw [List.take_add_one, h]
  simp
theorem isum_bound {l : List Int} (h : ∀ x ∈ l, -1000000000 ≤ x ∧ x ≤ 1000000000) : -1000000000 * l.length ≤ isum l ∧ isum l ≤ 1000000000 * l.length := by
  induction l with
  | nil => simp [isum]
  | cons x r ih =>
    have h1 := h x (by simp)
    have h2 := ih (fun y hy => h y (by simp [hy]))
    unfold isum at *
    simp only [List.sum_cons, List.length_cons]
    omega

/-- money.Add of amounts. -/
def addV (l : List Int) : Value := if amt (isum l) then .tuple #[.int .i64 (isum l), .int .i64 0] else .tuple #[.int .i64 0, .int .i64 3]

theorem addV_two (l : List Int) : ∃ p q, addV l = .tuple #[.int .i64 p, .int .i64 q] := by
  unfold addV
  split <;> exact ⟨_, _, rfl⟩

set_option maxHeartbeats 1000000 in
theorem add_calls (l : List Int) (A : Option Addr) (c : Nat) (w : World) (hl : l.length ≤ 64) (hc : ∀ x ∈ l, -1000000000 ≤ x ∧ x ≤ 1000000000) (hE : Elems w A (l.map (Value.int .i64))) :
    Calls Try.prog 26 #[.slice A l.length c] w fun e w' => e = .returned (addV l) ∧ w = w' := by
  have HC := Lib.hid hc
  clear hc
  go_enter Try.func26, Try.ntmps26
  go_wp2_with fail
  go_loop [4, 9] (fun s i => ∃ k : Nat, k ≤ l.length ∧ i = .int .i64 k ∧ s = .int .i64 (isum (l.take k))) (fun _ i => l.length - (intOf i).toNat)
  case atStart => exact ⟨0, Nat.zero_le _, rfl, by simp [isum]⟩
  case round =>
    obtain ⟨k, hk, rfl, rfl⟩ := hrel
    by_cases hlt : k < l.length
    · have hxk : l[k]? = some l[k] := List.getElem?_eq_getElem hlt
      have hst := isum_take hxk
      have hb1 := isum_bound (l := l.take k) (fun x hx => HC.out x (List.mem_of_mem_take hx))
      have hb2 := HC.out l[k] (List.getElem_mem hlt)
      have hlen : (l.take k).length ≤ 64 := by simp; omega
      have hck : (l.map (Value.int .i64))[k]? = some (.int .i64 l[k]) := by simp [hxk]
      generalize l[k] = x at *
      obtain ⟨ad, rfl, hld⟩ := hE k _ hck
      have h0 := hld w (Ext.refl w)
      have b1 : -64000000000 ≤ isum (l.take k) := by omega
      have b2 : isum (l.take k) ≤ 64000000000 := by omega
      obtain ⟨b3, b4⟩ := hb2
      have hax : amt x = true := by unfold amt; simp; omega
      have hva := valid_calls x w
      rw [hax] at hva
      have HS := Lib.hid hst
      clear hld hxk hst hb1 hlen hck hax
      go_wp2_with (go_at_call 35; refine hva.mono ?_; rintro e w' ⟨rfl, rfl⟩)
      go_round
      case rel => exact ⟨k + 1, by omega, by go_num, by rw [HS.out]⟩
      case measure => simp [intOf]; omega
    · have hk' : l.take k = l := List.take_of_length_le (by omega)
      rw [hk']
      have hva := valid_calls (isum l) w
      have HV : Hid (addV l = if amt (isum l) then .tuple #[.int .i64 (isum l), .int .i64 0] else .tuple #[.int .i64 0, .int .i64 3]) := rfl
      clear hk'
      cases ha : amt (isum l) with
      | true =>
        rw [ha] at hva
        have HV2 : Hid (addV l = .tuple #[.int .i64 (isum l), .int .i64 0]) := by unfold Hid; rw [HV.out, ha]; rfl
        clear HV ha
        go_wp2_with (go_at_call 35; refine hva.mono ?_; rintro e w' ⟨rfl, rfl⟩)
        go_ret2
        exact ⟨by rw [HV2.out]; rfl, rfl⟩
      | false =>
        rw [ha] at hva
        have HV2 : Hid (addV l = .tuple #[.int .i64 0, .int .i64 3]) := by unfold Hid; rw [HV.out, ha]; rfl
        clear HV ha
        go_wp2_with (go_at_call 35; refine hva.mono ?_; rintro e w' ⟨rfl, rfl⟩)
        go_ret2
        exact ⟨by rw [HV2.out]; rfl, rfl⟩

theorem info52 : (Try.prog.info? 3).map (fun i => (i.zero, i.size, i.bytes)) = some (some (.int .i64 0), 1, 8) := by kernel_rfl

def totalV (l : List Ch) : Value := if charges l then addV (l.map Ch.cents) else .tuple #[.int .i64 0, .int .i64 1]

/-- What charges are, one by one. -/
def chRight (x : Ch) : Prop := 1 ≤ x.home ∧ x.home ≤ 64 ∧ -1000000000 ≤ x.lo ∧ x.lo ≤ x.cents ∧ x.cents ≤ x.hi ∧ x.hi ≤ 1000000000
theorem chBad_right {ks : List Int} {x : Ch} (h : chBad ks x = false) : chRight x := by
  unfold chBad at h
  simp only [Bool.or_eq_false_iff, decide_eq_false_iff_not, Bool.not_eq_false', List.all_cons, List.all_nil, Bool.and_true, Bool.and_eq_true, amt, decide_eq_true_eq] at h
  unfold chRight
  omega
theorem chGo_right : ∀ (l : List Ch) (ks : List Int), chGo ks l = true → ∀ x ∈ l, chRight x
  | [], _, _, x, hx => by simp at hx
  | y :: r, ks, h, x, hx => by
    simp only [chGo, Bool.and_eq_true, Bool.not_eq_true'] at h
    rcases List.mem_cons.1 hx with rfl | hx
    · exact chBad_right h.1
    · exact chGo_right r _ h.2 x hx
theorem charges_right {l : List Ch} (h : charges l = true) : l.length ≤ 64 ∧ ∀ x ∈ l, chRight x := by
  unfold charges at h
  simp only [Bool.and_eq_true, decide_eq_true_eq] at h
  exact ⟨h.2, chGo_right l [] h.1⟩

set_option maxHeartbeats 1000000 in
theorem total_calls (l : List Ch) (A : Option Addr) (c : Nat) (w : World) (hl : l.length ≤ 9223372036854775807) (hE : RowsOf w 5 Ch.cells A l) :
    Calls Try.prog 12 #[.slice A l.length c] w fun e w' => e = .returned (totalV l) ∧ Ext w w' := by
  have hch := f25 l A c w hl hE
  cases hc : charges l with
  | false =>
    have HV : Hid (totalV l = .tuple #[.int .i64 0, .int .i64 1]) := by unfold Hid totalV; rw [hc]; rfl
    rw [hc] at hch
    clear hc
    go_enter Try.func12, Try.ntmps12
    go_wp2_with (go_at_call 25; refine hch.mono ?_; rintro e w' ⟨rfl, hx⟩)
    go_ret2
    exact ⟨by rw [HV.out]; rfl, hx⟩
  | true =>
    have HV : Hid (totalV l = addV (l.map Ch.cents)) := by unfold Hid totalV; rw [hc]; rfl
    obtain ⟨h64, hr⟩ := charges_right hc
    have HC := Lib.hid hr
    rw [hc] at hch
    clear hc hr
    go_enter Try.func12, Try.ntmps12
    go_wp2_with (go_at_call 25; refine hch.mono ?_; rintro e w' ⟨rfl, hx0⟩)
    go_loopw [4, 12] (fun v i wr => ∃ k : Nat, k ≤ l.length ∧ i = .int .i64 k ∧ wr.ownsRow w.heap.size 3 1 v k (((l.take k).map Ch.cents).map (Value.int .i64)) ∧ Ext w wr) (fun _ i _ => l.length - (intOf i).toNat)
    case atStart => exact ⟨0, Nat.zero_le _, rfl, ⟨by simp, .inl ⟨rfl, rfl⟩⟩, hx0⟩
    case round =>
      obtain ⟨k, hk, rfl, hown, hx⟩ := hrel
      by_cases hlt : k < l.length
      · have hxk : l[k]? = some l[k] := List.getElem?_eq_getElem hlt
        have hst : ((l.take k).map Ch.cents).map (Value.int .i64) ++ [.int .i64 l[k].cents] = ((l.take (k + 1)).map Ch.cents).map (Value.int .i64) := by
          have e : l.take (k + 1) = l.take k ++ [l[k]] := by rw [List.take_add_one, hxk]; rfl
          rw [e]
          simp only [List.map_append, List.map_cons, List.map_nil]
        generalize l[k] = x at *
        obtain ⟨ad, rfl, hld⟩ := rows_five hE hxk
        obtain ⟨h0, h1, h2, h3, h4⟩ := hld wr hx
        have HS := Lib.hid hst
        clear hld hxk hst hch
        go_wp2_with (at_builtin; refine app_own w.heap.size rfl _ _ 52 3 (.int .i64 0) 1 8 rfl Try.underlying52 info52 rfl (by decide) (by decide) _ k _ _ rfl rfl (by simp) rfl (by simp [Value.oneCell']) (hown.alloc _) (by have := hx.size; simp; omega) (by omega) ?_; intro v1 w1 hown1 hg1)
        go_roundw
        case rel => exact ⟨k + 1, by omega, by go_num, by rw [← HS.out]; exact hown1, own_ext (hown.alloc _) (Nat.le_refl _) (hx.trans (Ext.alloc _ _)) hg1⟩
        case measure => simp [intOf]; omega
      · have hk' : l.take k = l := List.take_of_length_le (by omega)
        rw [hk'] at hown
        have hkl : k = l.length := by omega
        subst hkl
        obtain ⟨B, d, rfl, hEl⟩ := own_elems hown
        have hadd := add_calls (l.map Ch.cents) B d wr (by simpa using h64) (fun y hy => by
          obtain ⟨x, hx1, rfl⟩ := List.mem_map.1 hy
          have := HC.out x hx1
          unfold chRight at this
          omega) hEl
        rw [List.length_map] at hadd
        obtain ⟨p, q, hpq⟩ := addV_two (l.map Ch.cents)
        rw [hpq] at hadd
        have HV2 : Hid (totalV l = .tuple #[.int .i64 p, .int .i64 q]) := by unfold Hid; rw [HV.out, hpq]
        clear hk' hown hEl hch hpq
        go_wp2_with (go_at_call 26; refine hadd.mono ?_; rintro e w' ⟨rfl, rfl⟩)
        go_ret2
        exact ⟨by rw [HV2.out]; rfl, hx⟩
end Go.Proofs.Ytffbomfhihhmhaa.Settle
