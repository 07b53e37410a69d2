/- The walks of package settle: pairs of lists, sums. -/
import Derived.Test.YtffbomfhihhmhaaSettle1
set_option linter.unusedSimpArgs false
set_option linter.unusedVariables false
namespace Go.Proofs.Ytffbomfhihhmhaa.Settle
open Go Go.RowKit Go.Shelf Go.Proofs.Ytffbomfhihhmhaa.Ord Go.Proofs.Ytffbomfhihhmhaa.Base

def Ch.val (x : Ch) : Value := .agg #[.int .i64 x.home, .int .i64 x.cents, .int .i64 x.lo, .int .i64 x.hi, .bool x.sure]

theorem pairs1_calls (x y : Ch) (w : World) :
    Calls Try.prog 30 #[x.val, y.val] w fun e w' => e = .returned (.bool (x.home == y.home)) ∧ Ext w w' := by
  unfold Ch.val
  go_enter Try.func30, Try.ntmps30
  go_wp2
  go_ret
  exact ⟨rfl, (Ext.alloc _ _).trans (Ext.alloc _ _)⟩

def all2 {α β : Type} (p : α → β → Bool) : List α → List β → Bool
  | [], [] => true
  | x :: a, y :: b => p x y && all2 p a b
  | _, _ => false
theorem all2_len {α β : Type} (p : α → β → Bool) : ∀ (a : List α) (b : List β), a.length ≠ b.length → all2 p a b = false
  | [], [], h => absurd rfl h
  | [], _ :: _, _ => rfl
  | _ :: _, [], _ => rfl
  | x :: a, y :: b, h => by
    rw [all2, all2_len p a b (by simpa using h), Bool.and_false]

theorem rows_five {w : World} {A : Option Addr} {l : List Ch} (h : RowsOf w 5 Ch.cells A l) {k : Nat} {x : Ch} (hk : l[k]? = some x) : ∃ ad, A = some ad ∧ ∀ W, Ext w W →
    W.cell? (ad.add (k * 5)) = some (.int .i64 x.home) ∧ W.cell? ⟨(ad.add (k * 5)).block, (ad.add (k * 5)).off + 1, none⟩ = some (.int .i64 x.cents) ∧ W.cell? ⟨(ad.add (k * 5)).block, (ad.add (k * 5)).off + 2, none⟩ = some (.int .i64 x.lo) ∧
    W.cell? ⟨(ad.add (k * 5)).block, (ad.add (k * 5)).off + 3, none⟩ = some (.int .i64 x.hi) ∧ W.cell? ⟨(ad.add (k * 5)).block, (ad.add (k * 5)).off + 4, none⟩ = some (.bool x.sure) := by
  obtain ⟨ad, hA, hl⟩ := h k x hk
  exact ⟨ad, hA, fun W hW => ⟨hl W hW 0 _ rfl, hl W hW 1 _ rfl, hl W hW 2 _ rfl, hl W hW 3 _ rfl, hl W hW 4 _ rfl⟩⟩
set_option maxHeartbeats 1000000 in
theorem equalFunc_calls {g : Nat} {cap : Array Value} {p : Ch → Ch → Bool} (a b : List Ch) (A B : Option Addr) (c d : Nat) (w : World) (ha : a.length ≤ 9223372036854775807) (hb : b.length ≤ 9223372036854775807)
    (hA : RowsOf w 5 Ch.cells A a) (hB : RowsOf w 5 Ch.cells B b) (hp : ∀ x y W, Ext w W → Calls Try.prog g (#[x.val, y.val] ++ cap) W fun e W' => e = .returned (.bool (p x y)) ∧ Ext W W')
    (eg : ∀ args w, (callFunc g args).run Try.prog w = .ok (.enter g args) w) :
    Calls Try.prog 31 #[.slice A a.length c, .slice B b.length d, .func (.func g) #[] cap] w fun e w' => e = .returned (.bool (all2 p a b)) ∧ Ext w w' := by
  by_cases hlen : a.length = b.length
  · have hl0 : ((a.length : Int) != (b.length : Int)) = false := by simp [hlen]
    have hlen' := Lib.hid hlen
    clear hlen
    go_enter Try.func31, Try.ntmps31
    go_wp2_with fail
    go_loopw [17] (fun i wr => ∃ k : Nat, k ≤ a.length ∧ i = .int .i64 k ∧ Ext w wr ∧ Hid (all2 p a b = all2 p (a.drop k) (b.drop k))) (fun i _ => a.length - (intOf i).toNat)
    case atStart => exact ⟨0, Nat.zero_le _, rfl, Ext.refl w, rfl⟩
    case round =>
      obtain ⟨k, hk, rfl, hx, hst⟩ := hrel
      by_cases hlt : k < a.length
      · have hltb : k < b.length := by have := hlen'.out; omega
        have hxk : a[k]? = some a[k] := List.getElem?_eq_getElem hlt
        have hyk : b[k]? = some b[k] := List.getElem?_eq_getElem hltb
        have hst' : Hid (all2 p a b = (p a[k] b[k] && all2 p (a.drop (k + 1)) (b.drop (k + 1)))) := by
          unfold Hid
          rw [hst.out, List.drop_eq_getElem_cons hlt, List.drop_eq_getElem_cons hltb]
          rfl
        generalize a[k] = x at *
        generalize b[k] = y at *
        obtain ⟨ad, rfl, hld⟩ := rows_five hA hxk
        obtain ⟨bd, rfl, hlb⟩ := rows_five hB hyk
        obtain ⟨h0, h1, h2, h3, h4⟩ := hld wr hx
        obtain ⟨g0, g1, g2, g3, g4⟩ := hlb _ (hx.trans (Ext.alloc wr (.cells #[.int .i64 x.home, .int .i64 x.cents, .int .i64 x.lo, .int .i64 x.hi, .bool x.sure] 36)))
        clear hld hlb hxk hyk hst
        have hltb' : (k : Int) < (b.length : Int) := by omega
        have hc := fun W (h : Ext wr W) => hp x y W (hx.trans h)
        unfold Ch.val at hc
        cases hpx : p x y with
        | true =>
          rw [hpx] at hc hst'
          go_wp2_with fail
          refine (hc _ ((Ext.alloc _ _).trans (Ext.alloc _ _))).mono ?_
          rintro e w' ⟨rfl, hx'⟩
          go_wp2
          go_roundw
          case rel => exact ⟨k + 1, by omega, by go_num, hx.trans (((Ext.alloc _ _).trans (Ext.alloc _ _)).trans hx'), hst'⟩
          case measure => simp [intOf]; omega
        | false =>
          rw [hpx] at hc hst'
          go_wp2_with fail
          refine (hc _ ((Ext.alloc _ _).trans (Ext.alloc _ _))).mono ?_
          rintro e w' ⟨rfl, hx'⟩
          go_wp2
          go_ret
          exact ⟨by rw [hst'.out]; rfl, hx.trans (((Ext.alloc _ _).trans (Ext.alloc _ _)).trans hx')⟩
      · have hst' : Hid (all2 p a b = true) := by
          unfold Hid
          rw [hst.out, List.drop_eq_nil_of_le (by omega), List.drop_eq_nil_of_le (by have := hlen'.out; omega)]
          rfl
        clear hst
        go_wp2
        go_ret
        exact ⟨by rw [hst'.out]; rfl, hx⟩
  · have hl0 : ((a.length : Int) != (b.length : Int)) = true := by simp; omega
    have hr := all2_len p a b hlen
    have HR := Lib.hid hr
    clear hr hlen
    go_enter Try.func31, Try.ntmps31
    go_wp2
    go_ret
    exact ⟨by rw [HR.out]; rfl, Ext.refl w⟩
end Go.Proofs.Ytffbomfhihhmhaa.Settle
