/- The walks of the reference of settle: lists side by side, sums. -/
import Derived.Test.YtffbomfhihhmhaaSettle4
set_option linter.unusedSimpArgs false
set_option linter.unusedVariables false
namespace Go.Proofs.Ytffbomfhihhmhaa.Settle
open Go Go.RowKit Go.Shelf Go.Proofs.Ytffbomfhihhmhaa.Ord Go.Proofs.Ytffbomfhihhmhaa.Base

def hq (x y : Ch) : Bool := x.home == y.home
def wq (x y : Ch) : Bool := !(decide (y.lo < x.lo) || decide (y.hi > x.hi))

theorem all2_drop {p : Ch → Ch → Bool} {a b : List Ch} {k : Nat} {x y : Ch} (hx : a[k]? = some x) (hy : b[k]? = some y) : all2 p (a.drop k) (b.drop k) = (p x y && all2 p (a.drop (k + 1)) (b.drop (k + 1))) := by
  obtain ⟨h1, rfl⟩ := List.getElem?_eq_some_iff.1 hx
  obtain ⟨h2, rfl⟩ := List.getElem?_eq_some_iff.1 hy
  rw [List.drop_eq_getElem_cons h1, List.drop_eq_getElem_cons h2]
  rfl

set_option maxHeartbeats 1000000 in
theorem homesR_calls (a b : List Ch) (A B : Option Addr) (c d : Nat) (w : World) (ha : a.length ≤ 9223372036854775807) (hb : b.length ≤ 9223372036854775807)
    (hA : RowsOf w 5 Ch.cells A a) (hB : RowsOf w 5 Ch.cells B b) :
    Calls Try.prog 27 #[.slice A a.length c, .slice B b.length d] w fun e w' => e = .returned (.bool (all2 hq a b)) ∧ Ext w w' := by
  by_cases hlen : a.length = b.length
  · have hl0 : ((a.length : Int) != (b.length : Int)) = false := by simp [hlen]
    have hlen' := Lib.hid hlen
    clear hlen
    go_enter Try.func27, Try.ntmps27
    go_wp2_with fail
    go_loopw [5] (fun i wr => ∃ k : Nat, k ≤ a.length ∧ i = .int .i64 k ∧ Ext w wr ∧ Hid (all2 hq a b = all2 hq (a.drop k) (b.drop k))) (fun i _ => a.length - (intOf i).toNat)
    case atStart => exact ⟨0, Nat.zero_le _, rfl, Ext.refl w, rfl⟩
    case round =>
      obtain ⟨k, hk, rfl, hx, hst⟩ := hrel
      by_cases hlt : k < a.length
      · have hltb : k < b.length := by have := hlen'.out; omega
        have hxk : a[k]? = some a[k] := List.getElem?_eq_getElem hlt
        have hyk : b[k]? = some b[k] := List.getElem?_eq_getElem hltb
        have hst' : Hid (all2 hq a b = (hq a[k] b[k] && all2 hq (a.drop (k + 1)) (b.drop (k + 1)))) := by
          unfold Hid
          rw [hst.out, all2_drop hxk hyk]
        generalize a[k] = x at *
        generalize b[k] = y at *
        obtain ⟨ad, rfl, hld⟩ := rows_five hA hxk
        obtain ⟨bd, rfl, hlb⟩ := rows_five hB hyk
        have ck : ∀ W, Held (Ext wr) W → W.cell? (ad.add (k * 5)) = some (.int .i64 x.home) := fun W hW => (hld W (hx.trans hW)).1
        have ci : ∀ W, Held (Ext wr) W → W.cell? (bd.add (k * 5)) = some (.int .i64 y.home) := fun W hW => (hlb W (hx.trans hW)).1
        have hltb' : (k : Int) < (b.length : Int) := by omega
        clear hld hlb hxk hyk hst
        cases hpx : hq x y with
        | true =>
          have hne : (x.home != y.home) = false := by unfold hq at hpx; simp at hpx; simp [hpx]
          rw [hpx] at hst'
          clear hpx
          go_wp2_with fail
          refine wp_region_auto (Ext wr) ((0, none, none) :: (0, none, none) :: (0, none, none) :: (0, none, none) :: (0, none, none) :: (0, none, none) :: (0, none, none) :: (0, none, none) :: (0, none, none) :: (0, none, none) :: (0, none, none) :: []) (by kernel_rfl) (by kernel_rfl) (fun _ _ d _ _ h => by cases d <;> exact h) (Ext.drew _) ?_
          repeat' (first
            | (with_reducible apply rel_pass
               focus (intro W hW; first | (go_simp; exact rfl) | go_simp)
               simp only [Act.put, List.setIfInBounds_toArray, List.set_cons_zero, List.set_cons_succ])
            | (with_reducible apply rel_yes
               focus (exact rfl))
            | (with_reducible apply rel_no
               focus (exact rfl)
               simp only [Act.put, List.setIfInBounds_toArray, List.set_cons_zero, List.set_cons_succ])
            | (with_reducible apply rel_askF
               focus (exact rfl)
               all_goals (intro hb; simp only [hb, Act.put, List.setIfInBounds_toArray, List.set_cons_zero, List.set_cons_succ]))
            | (with_reducible apply rel_askT
               focus (exact rfl)
               all_goals (intro hb; simp only [hb, Act.put, List.setIfInBounds_toArray, List.set_cons_zero, List.set_cons_succ]))
            | (with_reducible apply rel_front1)
            | (with_reducible apply rel_front2)
            | (with_reducible apply rel_front3)
            | (with_reducible apply rel_front4)
            | (with_reducible apply rel_front5)
            | (with_reducible apply rel_front6))
          apply rel_nil
          simp only [Exit.then, Exit.inBlock]
          go_wp2
          go_roundw
          case rel => exact ⟨k + 1, by omega, by go_num, hx.trans (Ext.drew _), hst'⟩
          case measure => simp [intOf]; omega
        | false =>
          have hne : (x.home != y.home) = true := by unfold hq at hpx; simp at hpx; simp [hpx]
          rw [hpx] at hst'
          clear hpx
          go_wp2_with fail
          refine wp_region_auto (Ext wr) ((0, none, none) :: (0, none, none) :: (0, none, none) :: (0, none, none) :: (0, none, none) :: (0, none, none) :: (0, none, none) :: (0, none, none) :: (0, none, none) :: (0, none, none) :: (0, none, none) :: []) (by kernel_rfl) (by kernel_rfl) (fun _ _ d _ _ h => by cases d <;> exact h) (Ext.drew _) ?_
          repeat' (first
            | (with_reducible apply rel_pass
               focus (intro W hW; first | (go_simp; exact rfl) | go_simp)
               simp only [Act.put, List.setIfInBounds_toArray, List.set_cons_zero, List.set_cons_succ])
            | (with_reducible apply rel_yes
               focus (exact rfl))
            | (with_reducible apply rel_no
               focus (exact rfl)
               simp only [Act.put, List.setIfInBounds_toArray, List.set_cons_zero, List.set_cons_succ])
            | (with_reducible apply rel_askF
               focus (exact rfl)
               all_goals (intro hb; simp only [hb, Act.put, List.setIfInBounds_toArray, List.set_cons_zero, List.set_cons_succ]))
            | (with_reducible apply rel_askT
               focus (exact rfl)
               all_goals (intro hb; simp only [hb, Act.put, List.setIfInBounds_toArray, List.set_cons_zero, List.set_cons_succ]))
            | (with_reducible apply rel_front1)
            | (with_reducible apply rel_front2)
            | (with_reducible apply rel_front3)
            | (with_reducible apply rel_front4)
            | (with_reducible apply rel_front5)
            | (with_reducible apply rel_front6))
          apply rel_nil
          simp only [Exit.then, Exit.inBlock]
          go_wp2
          go_ret
          exact ⟨by rw [hst'.out]; rfl, hx.trans (Ext.drew _)⟩
      · have hst' : Hid (all2 hq a b = true) := by
          unfold Hid
          rw [hst.out, List.drop_eq_nil_of_le (by omega), List.drop_eq_nil_of_le (by have := hlen'.out; omega)]
          rfl
        clear hst
        go_wp2
        go_ret
        exact ⟨by rw [hst'.out]; rfl, hx⟩
  · have hl0 : ((a.length : Int) != (b.length : Int)) = true := by simp; omega
    have hr := all2_len hq a b hlen
    have HR := Lib.hid hr
    clear hr hlen
    go_enter Try.func27, Try.ntmps27
    go_wp2
    go_ret
    exact ⟨by rw [HR.out]; rfl, Ext.refl w⟩

set_option maxHeartbeats 2000000 in
theorem withinR_calls (a b : List Ch) (A B : Option Addr) (c d : Nat) (w : World) (ha : a.length ≤ 9223372036854775807) (hb : b.length ≤ 9223372036854775807)
    (hA : RowsOf w 5 Ch.cells A a) (hB : RowsOf w 5 Ch.cells B b) (hlen : a.length = b.length) :
    Calls Try.prog 28 #[.slice A a.length c, .slice B b.length d] w fun e w' => e = .returned (.bool (all2 wq a b)) ∧ Ext w w' := by
  have hlen' := Lib.hid hlen
  clear hlen
  go_enter Try.func28, Try.ntmps28
  go_wp2_with fail
  go_loopw [5] (fun i wr => ∃ k : Nat, k ≤ a.length ∧ i = .int .i64 k ∧ Ext w wr ∧ Hid (all2 wq a b = all2 wq (a.drop k) (b.drop k))) (fun i _ => a.length - (intOf i).toNat)
  case atStart => exact ⟨0, Nat.zero_le _, rfl, Ext.refl w, rfl⟩
  case round =>
    obtain ⟨k, hk, rfl, hx, hst⟩ := hrel
    by_cases hlt : k < a.length
    · have hltb : k < b.length := by have := hlen'.out; omega
      have hxk : a[k]? = some a[k] := List.getElem?_eq_getElem hlt
      have hyk : b[k]? = some b[k] := List.getElem?_eq_getElem hltb
      have hst' : Hid (all2 wq a b = (wq a[k] b[k] && all2 wq (a.drop (k + 1)) (b.drop (k + 1)))) := by
        unfold Hid
        rw [hst.out, all2_drop hxk hyk]
      generalize a[k] = x at *
      generalize b[k] = y at *
      obtain ⟨ad, rfl, hld⟩ := rows_five hA hxk
      obtain ⟨bd, rfl, hlb⟩ := rows_five hB hyk
      have ck : ∀ W, Held (Ext wr) W → W.cell? ⟨(ad.add (k * 5)).block, (ad.add (k * 5)).off + 2, none⟩ = some (.int .i64 x.lo) := fun W hW => (hld W (hx.trans hW)).2.2.1
      have ck2 : ∀ W, Held (Ext wr) W → W.cell? ⟨(ad.add (k * 5)).block, (ad.add (k * 5)).off + 3, none⟩ = some (.int .i64 x.hi) := fun W hW => (hld W (hx.trans hW)).2.2.2.1
      have ci : ∀ W, Held (Ext wr) W → W.cell? ⟨(bd.add (k * 5)).block, (bd.add (k * 5)).off + 2, none⟩ = some (.int .i64 y.lo) := fun W hW => (hlb W (hx.trans hW)).2.2.1
      have ci2 : ∀ W, Held (Ext wr) W → W.cell? ⟨(bd.add (k * 5)).block, (bd.add (k * 5)).off + 3, none⟩ = some (.int .i64 y.hi) := fun W hW => (hlb W (hx.trans hW)).2.2.2.1
      have hltb' : (k : Int) < (b.length : Int) := by omega
      have HF : Hid (wq x y = false → all2 wq a b = false) := fun h => by rw [hst'.out, h]; rfl
      have HT : Hid (wq x y = true → all2 wq a b = all2 wq (a.drop (k + 1)) (b.drop (k + 1))) := fun h => by rw [hst'.out, h]; rfl
      clear hld hlb hxk hyk hst hst'
      go_wp2_with fail
      refine wp_region_auto (Ext wr) ((0, none, none) :: (0, none, none) :: (0, none, none) :: (0, none, none) :: (0, none, none) :: (0, none, none) :: (0, none, none) :: (0, none, none) :: (0, none, none) :: (0, none, none) :: (0, none, none) :: (0, none, none) :: (0, none, none) :: (0, none, none) :: (0, some (25, false), none) :: (0, some (25, false), none) :: (0, some (25, false), none) :: (0, some (25, false), none) :: (0, some (25, false), none) :: (0, some (25, false), none) :: (0, some (25, false), none) :: (0, some (25, false), none) :: (0, some (25, false), none) :: (0, some (25, false), none) :: (0, some (25, false), none) :: (0, some (25, false), none) :: (0, some (25, false), none) :: (0, none, none) :: []) (by kernel_rfl) (by kernel_rfl) (fun _ _ d _ _ h => by cases d <;> exact h) (Ext.drew _) ?_
      repeat' (first
        | (with_reducible apply rel_pass
           focus (intro W hW; first | (go_simp; exact rfl) | go_simp)
           simp only [Act.put, List.setIfInBounds_toArray, List.set_cons_zero, List.set_cons_succ])
        | (with_reducible apply rel_yes
           focus (exact rfl))
        | (with_reducible apply rel_no
           focus (exact rfl)
           simp only [Act.put, List.setIfInBounds_toArray, List.set_cons_zero, List.set_cons_succ])
        | (with_reducible apply rel_askF
           focus (exact rfl)
           all_goals (intro hb; simp only [hb, Act.put, List.setIfInBounds_toArray, List.set_cons_zero, List.set_cons_succ]))
        | (with_reducible apply rel_askT
           focus (exact rfl)
           all_goals (intro hb; simp only [hb, Act.put, List.setIfInBounds_toArray, List.set_cons_zero, List.set_cons_succ]))
        | (with_reducible apply rel_front1)
        | (with_reducible apply rel_front2)
        | (with_reducible apply rel_front3)
        | (with_reducible apply rel_front4)
        | (with_reducible apply rel_front5)
        | (with_reducible apply rel_front6))
      all_goals
        apply rel_nil
        simp only [Exit.then, Exit.inBlock]
        go_wp2
      all_goals first
        | (go_ret
           exact ⟨by rw [HF.out (by unfold wq; simp [*])]; rfl, hx.trans (Ext.drew _)⟩)
        | (have hT := HT.out (by unfold wq; simp [*])
           go_roundw
           case rel => exact ⟨k + 1, by omega, by go_num, hx.trans (Ext.drew _), hT⟩
           case measure => simp [intOf]; omega)
    · have hst' : Hid (all2 wq a b = true) := by
        unfold Hid
        rw [hst.out, List.drop_eq_nil_of_le (by omega), List.drop_eq_nil_of_le (by have := hlen'.out; omega)]
        rfl
      clear hst
      go_wp2
      go_ret
      exact ⟨by rw [hst'.out]; rfl, hx⟩

set_option maxHeartbeats 1000000 in
theorem sumR_calls (l : List Ch) (A : Option Addr) (c : Nat) (w : World) (hl : l.length ≤ 64) (hc : ∀ x ∈ l, -1000000000 ≤ x.cents ∧ x.cents ≤ 1000000000)
    (hE : RowsOf w 5 Ch.cells A l) :
    Calls Try.prog 24 #[.slice A l.length c] w fun e w' => e = .returned (.int .i64 (cs l)) ∧ Ext w w' := by
  have HC := Lib.hid hc
  clear hc
  go_enter Try.func24, Try.ntmps24
  go_wp2_with fail
  go_loopw [3, 4] (fun s i wr => ∃ k : Nat, k ≤ l.length ∧ i = .int .i64 k ∧ s = .int .i64 (cs (l.take k)) ∧ Ext w wr) (fun _ i _ => l.length - (intOf i).toNat)
  case atStart => exact ⟨0, Nat.zero_le _, rfl, by simp [cs], Ext.refl w⟩
  case round =>
    obtain ⟨k, hk, rfl, rfl, hx⟩ := hrel
    by_cases hlt : k < l.length
    · have hxk : l[k]? = some l[k] := List.getElem?_eq_getElem hlt
      have hst := cs_take hxk
      have hb1 := cs_bound (l := l.take k) (fun x hx => HC.out x (List.mem_of_mem_take hx))
      have hb2 := HC.out l[k] (List.getElem_mem hlt)
      have hlen : (l.take k).length ≤ 64 := by simp; omega
      generalize l[k] = x at *
      obtain ⟨ad, rfl, hld⟩ := rows_five hE hxk
      obtain ⟨h0, h1, h2, h3, h4⟩ := hld wr hx
      have b1 : -64000000000 ≤ cs (l.take k) := by omega
      have b2 : cs (l.take k) ≤ 64000000000 := by omega
      obtain ⟨b3, b4⟩ := hb2
      have HS := Lib.hid hst
      clear hld hxk hst hb1 hlen
      go_wp2
      go_roundw
      case rel => exact ⟨k + 1, by omega, by go_num, by rw [HS.out], hx⟩
      case measure => simp [intOf]; omega
    · have hk' : l.take k = l := List.take_of_length_le (by omega)
      rw [hk']
      clear hk'
      go_wp2
      go_ret
      exact ⟨rfl, hx⟩

def withinV (a b : List Ch) : Value := if !charges a || !charges b || !all2 hq a b then .tuple #[.bool false, .int .i64 1] else .tuple #[.bool (all2 wq a b), .int .i64 0]

theorem all2_eq_len {p : Ch → Ch → Bool} {a b : List Ch} (h : all2 p a b = true) : a.length = b.length := by
  by_cases hl : a.length = b.length
  · exact hl
  · rw [all2_len p a b hl] at h
    cases h

set_option maxHeartbeats 1000000 in
theorem WithinR_calls (a b : List Ch) (A B : Option Addr) (c d : Nat) (w : World) (ha : a.length ≤ 9223372036854775807) (hb : b.length ≤ 9223372036854775807)
    (hA : RowsOf w 5 Ch.cells A a) (hB : RowsOf w 5 Ch.cells B b) :
    Calls Try.prog 15 #[.slice A a.length c, .slice B b.length d] w fun e w' => e = .returned (withinV a b) ∧ Ext w w' := by
  have HV : Hid (withinV a b = if !charges a || !charges b || !all2 hq a b then .tuple #[.bool false, .int .i64 1] else .tuple #[.bool (all2 wq a b), .int .i64 0]) := rfl
  have c1 := fun W (h : Ext w W) => chargesR_calls a A c W ha (hA.ext h)
  have c2 := fun W (h : Ext w W) => chargesR_calls b B d W hb (hB.ext h)
  have c3 := fun W (h : Ext w W) => homesR_calls a b A B c d W ha hb (hA.ext h) (hB.ext h)
  by_cases hall : (!charges a || !charges b || !all2 hq a b) = true
  · have HV2 : Hid (withinV a b = .tuple #[.bool false, .int .i64 1]) := by unfold Hid; rw [HV.out, hall]; rfl
    have HA := Lib.hid hall
    clear hall HV
    go_enter Try.func15, Try.ntmps15
    go_wp2_with fail
    refine (c1 w (Ext.refl w)).mono ?_
    rintro e w1 ⟨rfl, hx1⟩
    go_wp2_with fail
    refine (c2 w1 hx1).mono ?_
    rintro e w2 ⟨rfl, hx2⟩
    have hx12 := hx1.trans hx2
    have c3' := c3 w2 hx12
    cases h1 : charges a <;> cases h2 : charges b
    all_goals (go_wp2_with (go_at_call 27; refine c3'.mono ?_; rintro e w3 ⟨rfl, hx3⟩))
    all_goals first
      | (go_ret2; exact ⟨by rw [HV2.out]; rfl, hx12⟩)
      | (go_ret2; exact ⟨by rw [HV2.out]; rfl, hx12.trans hx3⟩)
      | (exfalso; have := HA.out; simp_all)
  · have HA : Hid (charges a = true ∧ charges b = true ∧ all2 hq a b = true) := by unfold Hid; simpa [and_assoc] using hall
    have HV2 : Hid (withinV a b = .tuple #[.bool (all2 wq a b), .int .i64 0]) := by unfold Hid; rw [HV.out, if_neg hall]
    have hlen := all2_eq_len HA.out.2.2
    have c4 := fun W (h : Ext w W) => withinR_calls a b A B c d W ha hb (hA.ext h) (hB.ext h) hlen
    rw [HA.out.1] at c1
    rw [HA.out.2.1] at c2
    rw [HA.out.2.2] at c3
    clear hall HV hlen
    go_enter Try.func15, Try.ntmps15
    go_wp2_with fail
    refine (c1 w (Ext.refl w)).mono ?_
    rintro e w1 ⟨rfl, hx1⟩
    go_wp2_with fail
    refine (c2 w1 hx1).mono ?_
    rintro e w2 ⟨rfl, hx2⟩
    have hx12 := hx1.trans hx2
    go_wp2_with fail
    refine (c3 w2 hx12).mono ?_
    rintro e w3 ⟨rfl, hx3⟩
    have hx13 := hx12.trans hx3
    go_wp2_with fail
    refine (c4 w3 hx13).mono ?_
    rintro e w4 ⟨rfl, hx4⟩
    go_wp2_with fail
    go_ret2
    exact ⟨by rw [HV2.out]; rfl, hx13.trans hx4⟩

set_option maxHeartbeats 1000000 in
theorem TotalR_calls (l : List Ch) (A : Option Addr) (c : Nat) (w : World) (hl : l.length ≤ 9223372036854775807) (hE : RowsOf w 5 Ch.cells A l) :
    Calls Try.prog 13 #[.slice A l.length c] w fun e w' => e = .returned (totalV l) ∧ Ext w w' := by
  have hch := chargesR_calls l A c w hl hE
  cases hc : charges l with
  | false =>
    have HV : Hid (totalV l = .tuple #[.int .i64 0, .int .i64 1]) := by unfold Hid totalV; rw [hc]; rfl
    rw [hc] at hch
    clear hc
    go_enter Try.func13, Try.ntmps13
    go_wp2_with (go_at_call 17; refine hch.mono ?_; rintro e w' ⟨rfl, hx⟩)
    go_ret2
    exact ⟨by rw [HV.out]; rfl, hx⟩
  | true =>
    have HV : Hid (totalV l = if amt (cs l) then .tuple #[.int .i64 (cs l), .int .i64 0] else .tuple #[.int .i64 0, .int .i64 3]) := by unfold Hid totalV addV; rw [hc]; rfl
    obtain ⟨h64, hr⟩ := charges_right hc
    have hsum := fun W (h : Ext w W) => sumR_calls l A c W h64 (fun x hx => by have := hr x hx; unfold chRight at this; omega) (hE.ext h)
    rw [hc] at hch
    clear hc hr
    have ham := fun W => amountR_calls (cs l) W
    cases ha : amt (cs l) with
    | true =>
      have HV2 : Hid (totalV l = .tuple #[.int .i64 (cs l), .int .i64 0]) := by unfold Hid; rw [HV.out, ha]; rfl
      rw [ha] at ham
      clear HV ha
      go_enter Try.func13, Try.ntmps13
      go_wp2_with fail
      refine hch.mono ?_
      rintro e w1 ⟨rfl, hx1⟩
      go_wp2_with fail
      refine (hsum w1 hx1).mono ?_
      rintro e w2 ⟨rfl, hx2⟩
      go_wp2_with fail
      refine (ham w2).mono ?_
      rintro e w3 ⟨rfl, rfl⟩
      go_wp2_with fail
      go_ret2
      exact ⟨by rw [HV2.out]; rfl, hx1.trans hx2⟩
    | false =>
      have HV2 : Hid (totalV l = .tuple #[.int .i64 0, .int .i64 3]) := by unfold Hid; rw [HV.out, ha]; rfl
      rw [ha] at ham
      clear HV ha
      go_enter Try.func13, Try.ntmps13
      go_wp2_with fail
      refine hch.mono ?_
      rintro e w1 ⟨rfl, hx1⟩
      go_wp2_with fail
      refine (hsum w1 hx1).mono ?_
      rintro e w2 ⟨rfl, hx2⟩
      go_wp2_with fail
      refine (ham w2).mono ?_
      rintro e w3 ⟨rfl, rfl⟩
      go_wp2_with fail
      go_ret2
      exact ⟨by rw [HV2.out]; rfl, hx1.trans hx2⟩
end Go.Proofs.Ytffbomfhihhmhaa.Settle
