/- The iterators of package settle. -/
import Derived.Test.YtffbomfhihhmhaaSettle6
import Derived.Test.YtffbomfhihhmhaaOrdI
import Derived.RangeFuncNested
import Derived.RangeFuncBound
import Derived.RangeFuncCalls
import Derived.RangeFuncLeaves
import Derived.Shelf.RegionOpen
import Derived.OwnWalkIn
import Derived.TacticsInMore
import Derived.LoopNIn
import Derived.LoopIn
set_option linter.unusedSimpArgs false
set_option linter.unusedVariables false
namespace Go.Proofs.Ytffbomfhihhmhaa.Settle
open Go Go.RowKit Go.Shelf Go.Proofs.Ytffbomfhihhmhaa.Ord Go.Proofs.Ytffbomfhihhmhaa.OrdI Go.Proofs.Ytffbomfhihhmhaa.Base
attribute [local go_sem] Oper.semAt_some

/-- A pair of charges. -/
def pairV (x : Ch × Ch) : Value := .agg #[.int .i64 x.1.home, .int .i64 x.1.cents, .int .i64 x.1.lo, .int .i64 x.1.hi, .bool x.1.sure, .int .i64 x.2.home, .int .i64 x.2.cents, .int .i64 x.2.lo, .int .i64 x.2.hi, .bool x.2.sure]

theorem zip_take_succ {a b : List Ch} {k : Nat} {x y : Ch} (h : a[k]? = some x) (h' : b[k]? = some y) : (a.zip b).take (k + 1) = (a.zip b).take k ++ [(x, y)] := by
  rw [List.take_add_one]
  rw [show (a.zip b)[k]? = some (x, y) from List.getElem?_zip_eq_some.2 ⟨h, h'⟩]
  rfl

set_option maxRecDepth 100000 in
set_option maxHeartbeats 2000000 in
theorem iter_in (F : Fence) (hF : ∀ f, F.fn f) (hro : F.round = none) (n : Nat) (hn : 1 ≤ n) (l Bo Bn n₀ : Nat) (u : World) (hu : u.heap.size ≤ n₀) (A B : Option Addr) (c d : Nat) (a b : List Ch) (hlen : a.length = b.length) (la : a.length ≤ 64)
    (hA : RowsOf u 5 Ch.cells A a) (hB : RowsOf u 5 Ch.cells B b) (hBo : Bo < n₀) (hBn : Bn < n₀) (J Jx : List (Ch × Ch) → World → Prop)
    (hY : ∀ pre x W, J pre W → pre.length < a.length → YieldAt F (n - 1) Try.prog l #[pairV x] W fun e W' =>
      (e = .returned (.bool true) ∧ J (pre ++ [x]) W' ∧ Below n₀ W W') ∨ (e = .returned (.bool false) ∧ Jx (pre ++ [x]) W'))
    (W : World) (hx : Ext u W) (ho : W.cell? ⟨Bo, 0, none⟩ = some (.slice A a.length c)) (hw : W.cell? ⟨Bn, 0, none⟩ = some (.slice B b.length d)) (hJd : AbidesFrom W.heap.size J) (h0 : J [] W) :
    CallsIn F n Try.prog 32 #[.func (.yield l) #[] #[], .pointer (some ⟨Bo, 0, none⟩), .pointer (some ⟨Bn, 0, none⟩)] W fun e W' => (∃ v, e = .returned v) ∧
      ((∃ ys, ys = a.zip b ∧ J ys W') ∨ (∃ pre, pre <+: a.zip b ∧ Jx pre W')) := by
  have hfi := hF 32
  refine callsIn_of_wp Try.func32 rfl hfi ?_ hro
  simp only [Try.ntmps32, List.size_toArray, List.length_cons, List.length_nil, Nat.reduceAdd, Nat.reduceSub, Array.replicate_succ, Array.replicate_zero, List.push_toArray, List.append_toArray, List.nil_append, List.cons_append]
  gi_wp2
  gi_loopw [7] (fun i wr => ∃ k : Nat, k ≤ a.length ∧ i = .int .i64 k ∧ J ((a.zip b).take k) wr ∧ Below n₀ W wr)
    (fun i _ => a.length - (intOf i).toNat)
  case atStart => exact ⟨0, Nat.zero_le _, rfl, h0, Below.refl _ _⟩
  case round =>
    obtain ⟨k, hk, rfl, hJs, hnx⟩ := hrel
    by_cases hlt : k < a.length
    · have hltb : k < b.length := by omega
      have hxk : a[k]? = some a[k] := List.getElem?_eq_getElem hlt
      have hyk : b[k]? = some b[k] := List.getElem?_eq_getElem hltb
      have hz := zip_take_succ hxk hyk
      obtain ⟨fn, tmps, assign, body, hy, hR⟩ := hY _ (a[k], b[k]) wr.drew (hJd _ _ _ none hJs (grownBy_drew wr none) (fun r e => by cases e)) (by simp; omega)
      dsimp only [pairV] at hy
      generalize a[k] = x at *
      generalize b[k] = y at *
      obtain ⟨ad, rfl, hld⟩ := rows_five hA hxk
      obtain ⟨bd, rfl, hlb⟩ := rows_five hB hyk
      have hxr : Ext u wr := Below.trans hx (Below.mono hnx hu)
      have ck := fun W (hW : Held (Below n₀ wr) W) => hld W (Below.trans hxr (Below.mono hW hu))
      have ci := fun W (hW : Held (Below n₀ wr) W) => hlb W (Below.trans hxr (Below.mono hW hu))
      have co := fun W1 (hW : Held (Below n₀ wr) W1) => (Below.cell (p := ⟨Bo, 0, none⟩) hW hBo).trans ((hnx.cell (p := ⟨Bo, 0, none⟩) hBo).trans ho)
      have cw := fun W1 (hW : Held (Below n₀ wr) W1) => (Below.cell (p := ⟨Bn, 0, none⟩) hW hBn).trans ((hnx.cell (p := ⟨Bn, 0, none⟩) hBn).trans hw)
      gi_wp2
      refine wpIn_region_auto (Below n₀ wr) ((0, none, none) :: (0, none, none) :: (0, none, none) :: (0, none, none) :: (0, none, none) :: (0, none, none) :: (0, none, none) :: (0, none, none) :: (0, none, none) :: (0, none, none) :: (0, none, some false) :: (0, none, some false) :: []) hF (by kernel_rfl) (by kernel_rfl) (fun _ _ d _ _ h => by cases d <;> exact h) ((Below.refl _ wr).drew) ?_
      repeat' (first
        | (with_reducible apply relI_pass
           focus (intro W hW; first | (go_simp; exact rfl) | go_simp)
           simp only [Act.put, List.setIfInBounds_toArray, List.set_cons_zero, List.set_cons_succ])
        | (with_reducible apply relI_yes
           focus (exact rfl))
        | (with_reducible apply relI_no
           focus (exact rfl)
           simp only [Act.put, List.setIfInBounds_toArray, List.set_cons_zero, List.set_cons_succ])
        | (with_reducible apply relI_askF
           focus (exact rfl)
           all_goals (intro hb; simp only [hb, Act.put, List.setIfInBounds_toArray, List.set_cons_zero, List.set_cons_succ]))
        | (with_reducible apply relI_askT
           focus (exact rfl)
           all_goals (intro hb; simp only [hb, Act.put, List.setIfInBounds_toArray, List.set_cons_zero, List.set_cons_succ]))
        | (with_reducible apply relI_front1)
        | (with_reducible apply relI_front2)
        | (with_reducible apply relI_front3)
        | (with_reducible apply relI_front4)
        | (with_reducible apply relI_front5)
        | (with_reducible apply relI_front6))
      apply relI_act hF rfl
      intro K hK
      go_simp
      refine hR.mono ?_
      rintro e W3 (⟨rfl, hJ3, hk3⟩ | ⟨rfl, hJx3⟩)
      · refine hK _ _ ⟨fun h => (by cases h), ?_⟩
        clear hK K
        try simp only [Act.put, List.setIfInBounds_toArray, List.set_cons_zero, List.set_cons_succ]
        apply relI_act hF rfl
        intro K hK
        go_simp
        refine hK _ _ ⟨fun h => (by cases h), ?_⟩
        clear hK K
        try simp only [Act.put, List.setIfInBounds_toArray, List.set_cons_zero, List.set_cons_succ]
        apply relI_nil
        simp only [Exit.then, Exit.inBlock]
        gi_wp2
        go_roundw
        case rel => exact ⟨k + 1, by omega, by simp, by rw [hz]; exact hJ3, hnx.trans (Below.trans (Below.drew (Below.refl _ wr)) hk3)⟩
        case measure => simp [intOf]; omega
      · refine hK _ _ ⟨fun h => (by cases h), ?_⟩
        clear hK K
        try simp only [Act.put, List.setIfInBounds_toArray, List.set_cons_zero, List.set_cons_succ]
        apply relI_act hF rfl
        intro K hK
        go_simp
        refine hK _ _ ⟨fun h => (by cases h), ?_⟩
        clear hK K
        try simp only [Act.put, List.setIfInBounds_toArray, List.set_cons_zero, List.set_cons_succ]
        apply relI_nil
        simp only [Exit.then, Exit.inBlock]
        gi_wp2
        refine bodyPost_ret (results_none rfl _ _ _) rfl ?_
        exact ⟨⟨_, rfl⟩, .inr ⟨_, hz ▸ List.take_prefix _ _, hJx3⟩⟩
    · obtain rfl : k = a.length := by omega
      rw [List.take_of_length_le (by simp [hlen])] at hJs
      gi_wp2
      go_end0
      exact ⟨⟨_, rfl⟩, .inl ⟨_, rfl, hJs⟩⟩

theorem two_boxes (w : World) (u v : Value) (t : TypeId) : ∃ W0, (w.alloc (.cells #[u] t)).alloc (.cells #[v] t) = W0 ∧ Ext w W0 ∧ W0.heap.size = w.heap.size + 2 ∧ (∀ W, Ext W0 W → W.cell? ⟨w.heap.size, 0, none⟩ = some u) ∧ (∀ W, Ext W0 W → W.cell? ⟨w.heap.size + 1, 0, none⟩ = some v) := by
  refine ⟨_, rfl, (Ext.alloc _ _).trans (Ext.alloc _ _), by simp, fun W h => ?_, fun W h => ?_⟩
  · exact (Below.cell (p := ⟨w.heap.size, 0, none⟩) h (by simp; omega)).trans ((Boxed.new w t u).alloc _).cell
  · have h1 := (Boxed.new (w.alloc (.cells #[u] t)) t v).cell
    rw [World.size_alloc] at h1
    exact (Below.cell (p := ⟨w.heap.size + 1, 0, none⟩) h (by simp)).trans h1

set_option maxHeartbeats 1000000 in
theorem pairs_no (a b : List Ch) (A B : Option Addr) (c d : Nat) (w : World) (ha : a.length ≤ 9223372036854775807) (hb : b.length ≤ 9223372036854775807)
    (hA : RowsOf w 5 Ch.cells A a) (hB : RowsOf w 5 Ch.cells B b) (hall : (!charges a || !charges b || !all2 hq a b) = true) :
    Calls Try.prog 19 #[.slice A a.length c, .slice B b.length d] w fun e w' => e = .returned (.tuple #[.nilFunc, .bool false]) ∧ Ext w w' := by
  obtain ⟨W0, e0, x0, s0, k0, k1⟩ := two_boxes w (.slice A a.length c) (.slice B b.length d) 22
  have c1 := fun W (h : Ext w W) => f25 a A c W ha (hA.ext h)
  have c2 := fun W (h : Ext w W) => f25 b B d W hb (hB.ext h)
  have c3 := fun W (h : Ext w W) => equalFunc_calls (p := hq) (cap := #[]) a b A B c d W ha hb (hA.ext h) (hB.ext h) (fun x y W1 _ => pairs1_calls x y W1) (enters_of Try.func30 (by kernel_rfl) rfl)
  have HA := Lib.hid hall
  clear hall
  have q0 := k0 W0 (Ext.refl _)
  go_enter Try.func19, Try.ntmps19
  go_wp2_with fail
  refine (c1 W0 x0).mono ?_
  rintro e w1 ⟨rfl, hx1⟩
  have q1 := k1 w1 hx1
  have q2 := k0 w1 hx1
  cases h1 : charges a
  · go_wp2_with fail
    go_ret2
    exact ⟨rfl, x0.trans hx1⟩
  · go_wp2_with fail
    refine (c2 w1 (x0.trans hx1)).mono ?_
    rintro e w2 ⟨rfl, hx2⟩
    have q3 := k1 w2 (hx1.trans hx2)
    have q4 := k0 w2 (hx1.trans hx2)
    cases h2 : charges b
    · go_wp2_with fail
      go_ret2
      exact ⟨rfl, x0.trans (hx1.trans hx2)⟩
    · go_wp2_with fail
      refine (c3 w2 (x0.trans (hx1.trans hx2))).mono ?_
      rintro e w3 ⟨rfl, hx3⟩
      have h3 : all2 hq a b = false := by have := HA.out; simpa [h1, h2] using this
      rw [h3]
      go_wp2_with fail
      go_ret2
      exact ⟨rfl, x0.trans (hx1.trans (hx2.trans hx3))⟩

set_option maxHeartbeats 1000000 in
theorem pairs_yes (a b : List Ch) (A B : Option Addr) (c d : Nat) (w : World) (ha : a.length ≤ 9223372036854775807) (hb : b.length ≤ 9223372036854775807)
    (hA : RowsOf w 5 Ch.cells A a) (hB : RowsOf w 5 Ch.cells B b) (h1 : charges a = true) (h2 : charges b = true) (h3 : all2 hq a b = true) :
    Calls Try.prog 19 #[.slice A a.length c, .slice B b.length d] w fun e w' => e = .returned (.tuple #[.func (.func 32) #[] #[.pointer (some ⟨w.heap.size, 0, none⟩), .pointer (some ⟨w.heap.size + 1, 0, none⟩)], .bool true]) ∧
      Ext w w' ∧ w.heap.size + 2 ≤ w'.heap.size ∧ w'.cell? ⟨w.heap.size, 0, none⟩ = some (.slice A a.length c) ∧ w'.cell? ⟨w.heap.size + 1, 0, none⟩ = some (.slice B b.length d) := by
  obtain ⟨W0, e0, x0, s0, k0, k1⟩ := two_boxes w (.slice A a.length c) (.slice B b.length d) 22
  have c1 := fun W (h : Ext w W) => f25 a A c W ha (hA.ext h)
  have c2 := fun W (h : Ext w W) => f25 b B d W hb (hB.ext h)
  have c3 := fun W (h : Ext w W) => equalFunc_calls (p := hq) (cap := #[]) a b A B c d W ha hb (hA.ext h) (hB.ext h) (fun x y W1 _ => pairs1_calls x y W1) (enters_of Try.func30 (by kernel_rfl) rfl)
  rw [h1] at c1
  rw [h2] at c2
  rw [h3] at c3
  clear h1 h2 h3
  have q0 := k0 W0 (Ext.refl _)
  go_enter Try.func19, Try.ntmps19
  go_wp2_with fail
  refine (c1 W0 x0).mono ?_
  rintro e w1 ⟨rfl, hx1⟩
  have q1 := k1 w1 hx1
  have q2 := k0 w1 hx1
  go_wp2_with fail
  refine (c2 w1 (x0.trans hx1)).mono ?_
  rintro e w2 ⟨rfl, hx2⟩
  have q3 := k1 w2 (hx1.trans hx2)
  have q4 := k0 w2 (hx1.trans hx2)
  go_wp2_with fail
  refine (c3 w2 (x0.trans (hx1.trans hx2))).mono ?_
  rintro e w3 ⟨rfl, hx3⟩
  go_wp2_with fail
  go_ret2
  exact ⟨rfl, x0.trans (hx1.trans (hx2.trans hx3)), by have := (hx1.trans (hx2.trans hx3)).size; omega, k0 w3 (hx1.trans (hx2.trans hx3)), k1 w3 (hx1.trans (hx2.trans hx3))⟩

/-- The iterator's contract, at a wide fence. -/
theorem iter_stops (a b : List Ch) (A B : Option Addr) (c d Bo Bn : Nat) (u w : World) (hlen : a.length = b.length) (la : a.length ≤ 64) (hA : RowsOf u 5 Ch.cells A a) (hB : RowsOf u 5 Ch.cells B b)
    (hx : Ext u w) (lo : Bo < w.heap.size) (lw : Bn < w.heap.size) (ho : w.cell? ⟨Bo, 0, none⟩ = some (.slice A a.length c)) (hw : w.cell? ⟨Bn, 0, none⟩ = some (.slice B b.length d)) :
    SeqStopsK Fence.wide 2 Try.prog 32 #[.pointer (some ⟨Bo, 0, none⟩), .pointer (some ⟨Bn, 0, none⟩)] (fun x => #[pairV x]) (Below w.heap.size) (fun ys => ys = a.zip b) (fun pre => pre <+: a.zip b) a.length w :=
  fun l J Jx W hW hJ hJx hY h0 => iter_in Fence.wide (fun _ => trivial) rfl 2 (by omega) l Bo Bn w.heap.size u hx.size A B c d a b hlen la hA hB lo lw J Jx hY W (hx.trans hW)
    ((hW.cell (p := ⟨Bo, 0, none⟩) lo).trans ho) ((hW.cell (p := ⟨Bn, 0, none⟩) lw).trans hw) hJ h0
end Go.Proofs.Ytffbomfhihhmhaa.Settle
