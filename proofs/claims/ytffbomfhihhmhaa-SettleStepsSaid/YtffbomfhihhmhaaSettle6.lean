/- The walks of the reference of settle: the settlement. -/
import Derived.Test.YtffbomfhihhmhaaSettle5
set_option linter.unusedSimpArgs false
set_option linter.unusedVariables false
namespace Go.Proofs.Ytffbomfhihhmhaa.Settle
open Go Go.RowKit Go.Shelf Go.Proofs.Ytffbomfhihhmhaa.Ord Go.Proofs.Ytffbomfhihhmhaa.Base

def chEq (x y : Ch) : Bool := x.home == y.home && (x.cents == y.cents && ((x.lo == y.lo && x.hi == y.hi) && x.sure == y.sure))
theorem chEq_iff (x y : Ch) : chEq x y = true ↔ x = y := by
  obtain ⟨a, b, c, d, e⟩ := x
  obtain ⟨a', b', c', d', e'⟩ := y
  simp [chEq, and_assoc]

@[go_sem] theorem guard36 : Try.prog.eqGuardType Try.prog.depth 36 = false := by kernel_rfl
theorem eqs34 (d : Nat) (w : World) (x0 y0 x1 y1 : Int) : (Op.equalIn (d + 2) 34 (.agg #[.int .i64 x0, .int .i64 x1]) (.agg #[.int .i64 y0, .int .i64 y1])).run Try.prog w = .ok (x0 == y0 && x1 == y1) w := by
  refine st_of Try.underlying34 (by kernel_rfl) ?_
  refine st_cons (by rfl) (by go_simp; rfl) (by go_simp; rfl) (by go_simp) ?_
  exact st_last (by rfl) (by go_simp; rfl) (by go_simp; rfl) (by go_simp)
theorem eq36 (x y : Ch) (w : World) : (Op.equalIn 10000 36 (.agg #[.int .i64 x.home, .int .i64 x.cents, .int .i64 x.lo, .int .i64 x.hi, .bool x.sure]) (.agg #[.int .i64 y.home, .int .i64 y.cents, .int .i64 y.lo, .int .i64 y.hi, .bool y.sure])).run Try.prog w = .ok (chEq x y) w := by
  unfold chEq
  refine st_of (d := 9999) Try.underlying36 (by kernel_rfl) ?_
  refine st_cons (by rfl) (by go_simp; rfl) (by go_simp; rfl) (by go_simp) ?_
  refine st_cons (by rfl) (by go_simp; rfl) (by go_simp; rfl) (by go_simp) ?_
  refine st_cons (by rfl) (by go_simp) (by go_simp) (eqs34 9997 w _ _ _ _) ?_
  exact st_last (by rfl) (by go_simp; rfl) (by go_simp; rfl) (by go_simp)
@[go_sem ↓] theorem neq36 (x y : Ch) (w : World) : (binOp .neq 36 (.agg #[.int .i64 x.home, .int .i64 x.cents, .int .i64 x.lo, .int .i64 x.hi, .bool x.sure]) (.agg #[.int .i64 y.home, .int .i64 y.cents, .int .i64 y.lo, .int .i64 y.hi, .bool y.sure])).run Try.prog w = .ok (.bool (!chEq x y)) w := by
  rw [run_neq_struct, eq36]
  rfl

set_option maxHeartbeats 1000000 in
theorem SameR_calls (a b : List Ch) (A B : Option Addr) (c d : Nat) (w : World) (ha : a.length ≤ 9223372036854775807) (hb : b.length ≤ 9223372036854775807)
    (hA : RowsOf w 5 Ch.cells A a) (hB : RowsOf w 5 Ch.cells B b) :
    Calls Try.prog 11 #[.slice A a.length c, .slice B b.length d] w fun e w' => e = .returned (.bool (all2 chEq a b)) ∧ Ext w w' := by
  by_cases hlen : a.length = b.length
  · have hl0 : ((a.length : Int) != (b.length : Int)) = false := by simp [hlen]
    have hlen' := Lib.hid hlen
    clear hlen
    go_enter Try.func11, Try.ntmps11
    go_wp2_with fail
    go_loopw [5] (fun i wr => ∃ k : Nat, k ≤ a.length ∧ i = .int .i64 k ∧ Ext w wr ∧ Hid (all2 chEq a b = all2 chEq (a.drop k) (b.drop k))) (fun i _ => a.length - (intOf i).toNat)
    case atStart => exact ⟨0, Nat.zero_le _, rfl, Ext.refl w, rfl⟩
    case round =>
      obtain ⟨k, hk, rfl, hx, hst⟩ := hrel
      by_cases hlt : k < a.length
      · have hltb : k < b.length := by have := hlen'.out; omega
        have hxk : a[k]? = some a[k] := List.getElem?_eq_getElem hlt
        have hyk : b[k]? = some b[k] := List.getElem?_eq_getElem hltb
        have hst' : Hid (all2 chEq a b = (chEq a[k] b[k] && all2 chEq (a.drop (k + 1)) (b.drop (k + 1)))) := by
          unfold Hid
          rw [hst.out, all2_drop hxk hyk]
        generalize a[k] = x at *
        generalize b[k] = y at *
        obtain ⟨ad, rfl, hld⟩ := rows_five hA hxk
        obtain ⟨bd, rfl, hlb⟩ := rows_five hB hyk
        have ck := fun W (hW : Held (Ext wr) W) => hld W (hx.trans hW)
        have ci := fun W (hW : Held (Ext wr) W) => hlb W (hx.trans hW)
        have hltb' : (k : Int) < (b.length : Int) := by omega
        have HF : Hid (chEq x y = false → all2 chEq a b = false) := fun h => by rw [hst'.out, h]; rfl
        have HT : Hid (chEq x y = true → all2 chEq a b = all2 chEq (a.drop (k + 1)) (b.drop (k + 1))) := fun h => by rw [hst'.out, h]; rfl
        clear hld hlb hxk hyk hst hst'
        go_wp2_with fail
        refine wp_region_auto (Ext wr) ((0, none, none) :: (0, none, none) :: (0, none, none) :: (0, none, none) :: (0, none, none) :: (0, none, none) :: (0, none, none) :: (0, none, none) :: (0, none, none) :: []) (by kernel_rfl) (by kernel_rfl) (fun _ _ d _ _ h => by cases d <;> exact h) (Ext.drew _) ?_
        repeat' (first
          | (with_reducible apply rel_pass
             focus (intro W hW; first | (go_simp; exact rfl) | go_simp)
             simp only [Act.put, List.setIfInBounds_toArray, List.set_cons_zero, List.set_cons_succ])
          | (with_reducible apply rel_yes
             focus (exact rfl))
          | (with_reducible apply rel_no
             focus (exact rfl)
             simp only [Act.put, List.setIfInBounds_toArray, List.set_cons_zero, List.set_cons_succ])
          | (with_reducible apply rel_askF
             focus (exact rfl)
             all_goals (intro hb; simp only [hb, Act.put, List.setIfInBounds_toArray, List.set_cons_zero, List.set_cons_succ]))
          | (with_reducible apply rel_askT
             focus (exact rfl)
             all_goals (intro hb; simp only [hb, Act.put, List.setIfInBounds_toArray, List.set_cons_zero, List.set_cons_succ]))
          | (with_reducible apply rel_front1)
          | (with_reducible apply rel_front2)
          | (with_reducible apply rel_front3)
          | (with_reducible apply rel_front4)
          | (with_reducible apply rel_front5)
          | (with_reducible apply rel_front6))
        apply rel_nil
        simp only [Exit.then, Exit.inBlock]
        cases hpx : chEq x y with
        | true =>
          have hT := HT.out hpx
          have HT2 := Lib.hid hT
          clear hT hpx
          go_wp2
          go_roundw
          case rel => exact ⟨k + 1, by omega, by go_num, hx.trans (Ext.drew _), HT2.out⟩
          case measure => simp [intOf]; omega
        | false =>
          have hF := HF.out hpx
          have HF2 := Lib.hid hF
          clear hF hpx
          go_wp2
          go_ret
          exact ⟨by rw [HF2.out]; rfl, hx.trans (Ext.drew _)⟩
      · have hst' : Hid (all2 chEq a b = true) := by
          unfold Hid
          rw [hst.out, List.drop_eq_nil_of_le (by omega), List.drop_eq_nil_of_le (by have := hlen'.out; omega)]
          rfl
        clear hst
        go_wp2
        go_ret
        exact ⟨by rw [hst'.out]; rfl, hx⟩
  · have hl0 : ((a.length : Int) != (b.length : Int)) = true := by simp; omega
    have hr := all2_len chEq a b hlen
    have HR := Lib.hid hr
    clear hr hlen
    go_enter Try.func11, Try.ntmps11
    go_wp2
    go_ret
    exact ⟨by rw [HR.out]; rfl, Ext.refl w⟩

/-- What is settled of one charge. -/
def dif (x y : Ch) : Ch := ⟨y.home, y.cents - x.cents, y.lo - x.cents, y.hi - x.cents, y.sure⟩
def difOk (x y : Ch) : Bool := amt (y.cents - x.cents) && amt (y.lo - x.cents) && amt (y.hi - x.cents)
def difs : List Ch → List Ch → List Ch
  | x :: a, y :: b => dif x y :: difs a b
  | _, _ => []
structure SetR where
  l : List Ch
  house : Int
  e : Int
/-- Settle. -/
def settleS (a b : List Ch) (ho hn : Int) : SetR :=
  if !charges a || !charges b || !all2 hq a b || !amt ho || !amt hn then ⟨[], 0, 1⟩
  else if !all2 wq a b then ⟨[], 0, 3⟩
  else if cs a + ho != cs b + hn then ⟨[], 0, 32⟩
  else if !(all2 difOk a b && amt (hn - ho)) then ⟨[], 0, 3⟩
  else ⟨difs a b, hn - ho, 0⟩
/-- A settlement that was handed back. -/
def SetPost (w : World) (r : SetR) (e : Ending) (w' : World) : Prop :=
  ∃ v, e = .returned (.tuple #[v, .int .i64 r.house, .int .i64 r.e]) ∧ w'.ownsRow w.heap.size 36 5 v r.l.length (r.l.flatMap Ch.cells) ∧ Ext w w'

theorem info36 : (Try.prog.info? 36).map (fun i => (i.zero, i.size, i.bytes)) = some (some (.agg #[.int .i64 0, .int .i64 0, .int .i64 0, .int .i64 0, .bool false]), 5, 40) := by kernel_rfl
end Go.Proofs.Ytffbomfhihhmhaa.Settle
