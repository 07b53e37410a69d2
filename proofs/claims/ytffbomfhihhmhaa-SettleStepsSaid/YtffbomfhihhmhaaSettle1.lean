/- The walks of package settle: amounts, and what charges are. -/
import Derived.Test.YtffbomfhihhmhaaProg
import Derived.Test.YtffbomfhihhmhaaBase
set_option linter.unusedSimpArgs false
set_option linter.unusedVariables false
namespace Go.Proofs.Ytffbomfhihhmhaa.Settle
open Go Go.RowKit Go.Shelf Go.Proofs.Ytffbomfhihhmhaa.Ord Go.Proofs.Ytffbomfhihhmhaa.Base

theorem f34 (x : Int) (w : World) :
    Calls Try.prog 34 #[.int .i64 x] w fun e w' => e = .returned (.bool (decide (x < -1000000000) || decide (x > 1000000000))) ∧ w = w' := by
  go_enter Try.func34, Try.ntmps34
  go_wp2
  all_goals (go_ret; simp_all)

set_option maxHeartbeats 1000000 in
theorem f36 {g : Nat} {cap : Array Value} {p : Int → Bool} (l : List Int) (A : Option Addr) (c : Nat) (w : World) (hl : l.length ≤ 9223372036854775807)
    (hE : Elems w A (l.map (Value.int .i64))) (hp : Pred Try.prog w g cap (Value.int .i64) p)
    (eg : ∀ args w, (callFunc g args).run Try.prog w = .ok (.enter g args) w) :
    Calls Try.prog 36 #[.slice A l.length c, .func (.func g) #[] cap] w fun e w' => e = .returned (.int .i64 (idxI p l)) ∧ Ext w w' := by
  go_enter Try.func36, Try.ntmps36
  go_wp2_with fail
  go_loopw [8] (fun i wr => ∃ k : Nat, k ≤ l.length ∧ i = .int .i64 k ∧ Ext w wr ∧ ∀ (j : Nat) (y : Int), j < k → l[j]? = some y → p y = false) (fun i _ => l.length - (intOf i).toNat)
  case atStart => exact ⟨0, Nat.zero_le _, rfl, Ext.refl w, fun j y hj => absurd hj (Nat.not_lt_zero _)⟩
  case round =>
    obtain ⟨k, hk, rfl, hx, hno⟩ := hrel
    by_cases hlt : k < l.length
    · obtain ⟨x, hxk⟩ : ∃ x, l[k]? = some x := ⟨l[k], List.getElem?_eq_getElem hlt⟩
      obtain ⟨ad, rfl, hld⟩ := hE k (.int .i64 x) (by simp [hxk])
      have hld := hld wr hx
      have hc := hp x wr hx
      have HK := Lib.hid hno
      clear hno
      cases hpx : p x with
      | true =>
        rw [hpx] at hc
        have hres := idxI_hit p l k x hxk hpx HK.out
        have HR := Lib.hid hres
        clear hres
        go_wp2_with fail
        refine hc.mono ?_
        rintro e w' ⟨rfl, hx'⟩
        go_wp2
        go_ret
        exact ⟨by simp [HR.out], hx.trans hx'⟩
      | false =>
        rw [hpx] at hc
        go_wp2_with fail
        refine hc.mono ?_
        rintro e w' ⟨rfl, hx'⟩
        go_wp2
        go_roundw
        case rel =>
          refine ⟨k + 1, by omega, by go_num, hx.trans hx', fun j y hj hy => ?_⟩
          by_cases hjk : j = k
          · subst hjk
            rw [hxk] at hy
            cases hy
            exact hpx
          · exact HK.out j y (by omega) hy
        case measure => simp [intOf]; omega
    · have hres := idxI_miss p l (fun j y hy => hno j y (by have := (List.getElem?_eq_some_iff.1 hy).1; omega) hy)
      have HR := Lib.hid hres
      clear hres hno
      go_wp2
      go_ret
      exact ⟨by simp [HR.out], hx⟩

set_option maxHeartbeats 1000000 in
theorem f33 {g : Nat} {cap : Array Value} {p : Int → Bool} (l : List Int) (A : Option Addr) (c : Nat) (w : World) (hl : l.length ≤ 9223372036854775807)
    (hE : Elems w A (l.map (Value.int .i64))) (hp : Pred Try.prog w g cap (Value.int .i64) p)
    (eg : ∀ args w, (callFunc g args).run Try.prog w = .ok (.enter g args) w) :
    Calls Try.prog 33 #[.slice A l.length c, .func (.func g) #[] cap] w fun e w' => e = .returned (.bool (l.any p)) ∧ Ext w w' := by
  have hn := idxI_nonneg p l
  have HN := Lib.hid hn
  clear hn
  go_enter Try.func33, Try.ntmps33
  go_wp2_with (go_at_call 36; refine (f36 l A c _ hl hE hp eg).mono ?_; rintro e w' ⟨rfl, hx⟩)
  go_ret
  exact ⟨by rw [← HN.out]; rfl, hx⟩

def amt (n : Int) : Bool := decide (-1000000000 ≤ n) && decide (n ≤ 1000000000)
theorem amt_not (n : Int) : (decide (n < -1000000000) || decide (n > 1000000000)) = !amt n := by
  unfold amt
  by_cases h1 : -1000000000 ≤ n <;> by_cases h2 : n ≤ 1000000000 <;> simp [h1, h2] <;> omega

set_option maxHeartbeats 1000000 in
theorem f20 (l : List Int) (A : Option Addr) (c : Nat) (w : World) (hl : l.length ≤ 9223372036854775807) (hE : Elems w A (l.map (Value.int .i64))) :
    Calls Try.prog 20 #[.slice A l.length c] w fun e w' => e = .returned (.bool (l.all amt)) ∧ Ext w w' := by
  have hp : Pred Try.prog w 34 #[] (Value.int .i64) (fun n => !amt n) := fun x W _ => (f34 x W).mono fun e W' h => ⟨by rw [h.1, amt_not], h.2 ▸ Ext.refl W⟩
  have hn : (!l.any fun n => !amt n) = l.all amt := by
    clear hE
    induction l with
    | nil => rfl
    | cons x r ih =>
      have ih := ih (by simp at hl; omega)
      rw [List.any_cons, List.all_cons, ← ih]
      cases amt x <;> simp
  have HN := Lib.hid hn
  clear hn
  go_enter Try.func20, Try.ntmps20
  go_wp2_with (go_at_call 33; go_loud (refine (f33 l A c _ hl hE hp (enters_of Try.func34 (by kernel_rfl) rfl)).mono ?_); rintro e w' ⟨rfl, hx⟩)
  go_ret
  exact ⟨by rw [← HN.out]; rfl, hx⟩
structure Ch where
  home : Int
  cents : Int
  lo : Int
  hi : Int
  sure : Bool
deriving DecidableEq

def Ch.cells (x : Ch) : List Value := [.int .i64 x.home, .int .i64 x.cents, .int .i64 x.lo, .int .i64 x.hi, .bool x.sure]

@[go_sem] theorem guard34 : Try.prog.eqGuardType Try.prog.depth 34 = false := by kernel_rfl
theorem eq34 (a b c d : Int) (w : World) : (Op.equalIn 10000 34 (.agg #[.int .i64 a, .int .i64 b]) (.agg #[.int .i64 c, .int .i64 d])).run Try.prog w = .ok (a == c && b == d) w := by
  have u3 := Try.underlying3
  have a3 := Try.isAgg3
  have z3 := Try.sizeOf3
  have hS : Try.prog.underlying 34 = some (.struct (Try.prog.fieldsOf 34)) := by kernel_rfl
  have hp : Try.prog.stoodInHeld 34 = false := by kernel_rfl
  rw [show (10000 : Nat) = 9999 + 1 from rfl, run_equalIn_agg w 9999 34 _ _ hS hp]
  simp only [Program.fieldsOf, Try.underlying34]
  go_simp
  by_cases h1 : a = c <;> by_cases h2 : b = d <;> simp [h1, h2]
@[go_sem ↓] theorem eql34 (a b c d : Int) (w : World) : (binOp .eql 34 (.agg #[.int .i64 a, .int .i64 b]) (.agg #[.int .i64 c, .int .i64 d])).run Try.prog w = .ok (.bool (a == c && b == d)) w := by
  rw [run_eql_struct, eq34]
  rfl
@[go_sem] theorem build34 (a b : Int) (w : World) : (Instr.build 34 #[(0, .int .i64 a), (1, .int .i64 b)]).run Try.prog w = .ok (.agg #[.int .i64 a, .int .i64 b]) w := run_build w 34 _ _ (by kernel_rfl)
/-- What is wrong with a charge, as the code asks. -/
def chBad (ks : List Int) (x : Ch) : Bool := decide (x.home < 1) || decide (x.home > 64) || ks.contains x.home || !([x.lo, x.hi].all amt) || decide (x.cents < x.lo) || decide (x.cents > x.hi) || (!x.sure == (x.hi == x.lo))
theorem chBad_not {ks : List Int} {x : Ch} (h : chBad ks x = false) : ks.contains x.home = false := by
  unfold chBad at h
  simp only [Bool.or_eq_false_iff] at h
  exact h.1.1.1.1.2
def chGo : List Int → List Ch → Bool
  | _, [] => true
  | ks, x :: r => !chBad ks x && chGo (ks ++ [x.home]) r
def charges (l : List Ch) : Bool := chGo [] l && decide (l.length ≤ 64)

theorem lookup_ne {x : Int} {w : World} {m : Nat} {ks : List Int} (h : IntSet w m ks) : (Instr.lookup 59 (.map (some m)) (.int .i64 x) false).run Try.prog w = .ok (.bool (ks.contains x)) w :=
  run_lookup_set Try.underlying59 Try.underlying3 (fun w => Try.zeroValue4 w) h x

set_option maxHeartbeats 1000000 in
theorem f25 (l : List Ch) (A : Option Addr) (c : Nat) (w : World) (hl : l.length ≤ 9223372036854775807)
    (hE : RowsOf w 5 Ch.cells A l) :
    Calls Try.prog 25 #[.slice A l.length c] w fun e w' => e = .returned (.bool (charges l)) ∧ Ext w w' := by
  have hmm := @run_makeMap Try.prog
  go_enter Try.func25, Try.ntmps25
  go_wp2_with fail
  go_loopw [10] (fun i wr => ∃ k : Nat, k ≤ l.length ∧ i = .int .i64 k ∧ Ext w wr ∧ IntSet wr w.heap.size ((l.take k).map Ch.home) ∧ Hid (chGo [] l = chGo ((l.take k).map Ch.home) (l.drop k))) (fun i _ => l.length - (intOf i).toNat)
  case atStart => exact ⟨0, Nat.zero_le _, rfl, Ext.alloc _ _, IntSet.new w, rfl⟩
  case round =>
    obtain ⟨k, hk, rfl, hx, hm, hgo⟩ := hrel
    by_cases hlt : k < l.length
    · obtain ⟨x, hxk⟩ : ∃ x, l[k]? = some x := ⟨l[k], List.getElem?_eq_getElem hlt⟩
      obtain ⟨ad, rfl, hld⟩ := hE k x hxk
      have hld := hld wr hx
      have h0 : wr.cell? (ad.add (k * 5)) = some (.int .i64 x.home) := hld 0 _ rfl
      have h1 : wr.cell? ⟨(ad.add (k * 5)).block, (ad.add (k * 5)).off + 1, none⟩ = some (.int .i64 x.cents) := hld 1 _ rfl
      have h2 : wr.cell? ⟨(ad.add (k * 5)).block, (ad.add (k * 5)).off + 2, none⟩ = some (.int .i64 x.lo) := hld 2 _ rfl
      have h3 : wr.cell? ⟨(ad.add (k * 5)).block, (ad.add (k * 5)).off + 3, none⟩ = some (.int .i64 x.hi) := hld 3 _ rfl
      have h4 : wr.cell? ⟨(ad.add (k * 5)).block, (ad.add (k * 5)).off + 4, none⟩ = some (.bool x.sure) := hld 4 _ rfl
      clear hld
      obtain ⟨ks, hks⟩ : ∃ ks, ks = (l.take k).map Ch.home := ⟨_, rfl⟩
      rw [← hks] at hm hgo
      have hstep : Hid (chGo [] l = (!chBad ks x && chGo (ks ++ [x.home]) (l.drop (k + 1)))) := by
        unfold Hid at *
        rw [hgo, List.drop_eq_getElem_cons hlt]
        have : l[k] = x := by rw [List.getElem?_eq_getElem hlt] at hxk; exact Option.some.inj hxk
        rw [this]
        rfl
      have HF : Hid (chBad ks x = true → charges l = false) := fun h => by
        unfold charges
        rw [hstep.out, h]
        rfl
      have hks' : Hid (ks ++ [x.home] = (l.take (k + 1)).map Ch.home) := by
        unfold Hid
        rw [List.take_add_one, hxk, hks]
        simp
      clear hgo hks hxk
      go_wp2_with fail
      obtain ⟨w6, hw6⟩ : ∃ w6, w6 = ((wr.alloc (.cells #[Value.int IntKind.i64 x.home, Value.int IntKind.i64 x.cents, Value.int IntKind.i64 x.lo, Value.int IntKind.i64 x.hi, Value.bool x.sure] 36)).alloc (.cells #[.int .i64 x.lo, .int .i64 x.hi] 34)) := ⟨_, rfl⟩
      rw [← hw6]
      obtain ⟨S, hS⟩ : ∃ S : World → Prop, S = fun W => Ext w6 W := ⟨_, rfl⟩
      have hz6 : w6.heap.size = wr.heap.size + 2 := by rw [hw6]; simp
      have c0 : ∀ W, Held S W → W.cell? ⟨wr.heap.size, 0, none⟩ = some (.int .i64 x.home) := fun W hW => by rw [hS] at hW; exact (Below.cell (p := ⟨wr.heap.size, 0, none⟩) hW (by simp; omega)).trans (by rw [hw6]; simp)
      have c1 : ∀ W, Held S W → W.cell? ⟨wr.heap.size, 1, none⟩ = some (.int .i64 x.cents) := fun W hW => by rw [hS] at hW; exact (Below.cell (p := ⟨wr.heap.size, 1, none⟩) hW (by simp; omega)).trans (by rw [hw6]; simp)
      have c3 : ∀ W, Held S W → W.cell? ⟨wr.heap.size, 4, none⟩ = some (.bool x.sure) := fun W hW => by rw [hS] at hW; exact (Below.cell (p := ⟨wr.heap.size, 4, none⟩) hW (by simp; omega)).trans (by rw [hw6]; simp)
      have d0 : ∀ W, Held S W → W.cell? ⟨wr.heap.size + 1, 0, none⟩ = some (.int .i64 x.lo) := fun W hW => by rw [hS] at hW; exact (Below.cell (p := ⟨wr.heap.size + 1, 0, none⟩) hW (by simp; omega)).trans (by rw [hw6]; simp)
      have d1 : ∀ W, Held S W → W.cell? ⟨wr.heap.size + 1, 1, none⟩ = some (.int .i64 x.hi) := fun W hW => by rw [hS] at hW; exact (Below.cell (p := ⟨wr.heap.size + 1, 1, none⟩) hW (by simp; omega)).trans (by rw [hw6]; simp)
      have hmS : ∀ W, Held S W → IntSet W w.heap.size ks := fun W hW => by
        rw [hS] at hW
        have := hm.lt
        exact hm.same ((hW.block _ (by omega)).trans (by rw [hw6]; exact (((Ext.alloc wr _).trans (Ext.alloc _ _)).block _ this)))
      have hlk : ∀ W, Held S W → (Instr.lookup 59 (.map (some w.heap.size)) (.int .i64 x.home) false).run Try.prog W = .ok (.bool (ks.contains x.home)) W := fun W hW => lookup_ne (hmS W hW)
      obtain ⟨W0, hW0⟩ : ∃ W0, W0 = w6.drew := ⟨_, rfl⟩
      have hS0 : S W0 := by rw [hS, hW0]; exact Ext.drew _
      have hSx : ∀ W, S W → Ext wr W := by
        rw [hS, hw6]
        exact fun W h => ((Ext.alloc _ _).trans (Ext.alloc _ _)).trans h
      have hSE : ∀ W W', S W → Ext W W' → S W' := by rw [hS]; exact fun W W' h1 h2 => Ext.trans h1 h2
      clear hS h0 h1 h2 h3 h4 hw6
      refine wp_region_auto S ((0, none, none) :: (0, none, none) :: (0, none, none) :: (0, none, none) :: (0, some (19, false), none) :: (0, some (19, false), none) :: (0, some (19, false), none) :: (0, none, none) :: (0, none, none) :: (0, some (24, false), none) :: (0, some (24, false), none) :: (0, some (24, false), none) :: (0, some (24, false), none) :: (0, none, none) :: (0, none, none) :: (0, some (30, false), none) :: (0, some (30, false), none) :: (0, some (30, false), none) :: (0, some (30, false), none) :: (0, some (30, false), some true) :: (0, some (30, false), some true) :: (0, some (30, false), none) :: (0, none, none) :: (0, none, none) :: (0, some (39, false), none) :: (0, some (39, false), none) :: (0, some (39, false), none) :: (0, some (39, false), none) :: (0, some (39, false), none) :: (0, none, none) :: (0, none, none) :: (0, some (46, false), none) :: (0, some (46, false), none) :: (0, some (46, false), none) :: (0, some (46, false), none) :: (0, some (46, false), none) :: (0, none, none) :: (0, none, none) :: (0, some (53, false), none) :: (0, some (53, false), none) :: (0, some (53, false), none) :: (0, some (53, false), none) :: (0, some (53, false), none) :: (0, some (53, false), none) :: (0, some (53, false), none) :: (0, some (53, false), none) :: (0, some (53, false), none) :: (0, some (53, false), none) :: (0, none, none) :: []) (by kernel_rfl) (by kernel_rfl) (fun _ _ d _ _ h => by cases d <;> exact h) (hW0 ▸ hS0) ?_
      rw [← hW0]
      clear hW0
      repeat' (first
        | (with_reducible apply rel_pass
           focus (intro W hW; first | (go_simp; exact rfl) | go_simp)
           simp only [Act.put, List.setIfInBounds_toArray, List.set_cons_zero, List.set_cons_succ])
        | (with_reducible apply rel_yes
           focus (exact rfl))
        | (with_reducible apply rel_no
           focus (exact rfl)
           simp only [Act.put, List.setIfInBounds_toArray, List.set_cons_zero, List.set_cons_succ])
        | (with_reducible apply rel_askF
           focus (exact rfl)
           all_goals (intro hb; simp only [hb, Act.put, List.setIfInBounds_toArray, List.set_cons_zero, List.set_cons_succ]))
        | (with_reducible apply rel_askT
           focus (exact rfl)
           all_goals (intro hb; simp only [hb, Act.put, List.setIfInBounds_toArray, List.set_cons_zero, List.set_cons_succ]))
        | (with_reducible apply rel_front1)
        | (with_reducible apply rel_front2)
        | (with_reducible apply rel_front3)
        | (with_reducible apply rel_front4)
        | (with_reducible apply rel_front5)
        | (with_reducible apply rel_front6))
      · with_reducible apply rel_act
        intro K hK
        go_simp
        refine hK _ _ ⟨fun _ => hSE _ _ hS0 (Ext.alloc _ _), ?_⟩
        clear hK K
        try simp only [Act.put, List.setIfInBounds_toArray, List.set_cons_zero, List.set_cons_succ]
        repeat' (first
          | (with_reducible apply rel_pass
             focus (intro W hW; first | (go_simp; exact rfl) | go_simp)
             simp only [Act.put, List.setIfInBounds_toArray, List.set_cons_zero, List.set_cons_succ])
          | (with_reducible apply rel_yes
             focus (exact rfl))
          | (with_reducible apply rel_no
             focus (exact rfl)
             simp only [Act.put, List.setIfInBounds_toArray, List.set_cons_zero, List.set_cons_succ])
          | (with_reducible apply rel_askF
             focus (exact rfl)
             all_goals (intro hb; simp only [hb, Act.put, List.setIfInBounds_toArray, List.set_cons_zero, List.set_cons_succ]))
          | (with_reducible apply rel_askT
             focus (exact rfl)
             all_goals (intro hb; simp only [hb, Act.put, List.setIfInBounds_toArray, List.set_cons_zero, List.set_cons_succ]))
          | (with_reducible apply rel_front1)
          | (with_reducible apply rel_front2)
          | (with_reducible apply rel_front3)
          | (with_reducible apply rel_front4)
          | (with_reducible apply rel_front5)
          | (with_reducible apply rel_front6))
        with_reducible apply rel_act
        intro K hK
        go_simp
        go_at_call 20
        refine (f20 [x.lo, x.hi] _ _ _ (by simp) (cell_two _ _ _ _)).mono ?_
        rintro e W' ⟨rfl, hx'⟩
        refine hK _ _ ⟨fun _ => hSE _ _ (hSE _ _ hS0 (Ext.alloc _ _)) hx', ?_⟩
        clear hK K
        try simp only [Act.put, List.setIfInBounds_toArray, List.set_cons_zero, List.set_cons_succ]
        repeat' (first
          | (with_reducible apply rel_pass
             focus (intro W hW; first | (go_simp; exact rfl) | go_simp)
             simp only [Act.put, List.setIfInBounds_toArray, List.set_cons_zero, List.set_cons_succ])
          | (with_reducible apply rel_yes
             focus (exact rfl))
          | (with_reducible apply rel_no
             focus (exact rfl)
             simp only [Act.put, List.setIfInBounds_toArray, List.set_cons_zero, List.set_cons_succ])
          | (with_reducible apply rel_askF
             focus (exact rfl)
             all_goals (intro hb; simp only [hb, Act.put, List.setIfInBounds_toArray, List.set_cons_zero, List.set_cons_succ]))
          | (with_reducible apply rel_askT
             focus (exact rfl)
             all_goals (intro hb; simp only [hb, Act.put, List.setIfInBounds_toArray, List.set_cons_zero, List.set_cons_succ]))
          | (with_reducible apply rel_front1)
          | (with_reducible apply rel_front2)
          | (with_reducible apply rel_front3)
          | (with_reducible apply rel_front4)
          | (with_reducible apply rel_front5)
          | (with_reducible apply rel_front6))
        · apply rel_nil
          simp only [Exit.then, Exit.inBlock]
          have hSW : S W' := hSE _ _ (hSE _ _ hS0 (Ext.alloc _ _)) hx'
          have e0 := c0 _ hSW
          have hmW := hmS _ hSW
          have hxW := hx.trans (hSx _ hSW)
          have hmul := hm.lt
          clear c0 c1 c3 d0 d1 hmS hlk hSE hSx hx' hSW
          go_wp2_with (at_mapUpdate; refine wpList_update_set rfl _ _ _ rfl Try.underlying59 Try.underlying3 rfl hmW _ rfl rfl ?_; intro W2 hm2 hg2)
          · go_ret
            exact ⟨by rw [HF.out (by unfold chBad; simp [*])]; rfl, hxW⟩
          · have hnb : chBad ks x = false := by unfold chBad; simp [*]
            have hc : ks.contains x.home = false := chBad_not hnb
            rw [hc] at hm2
            go_roundw
            case rel =>
              exact ⟨k + 1, by omega, by go_num, hxW.grown hg2 hxW.size (fun j e => by cases e; exact Nat.le_refl _), by rw [← hks'.out]; exact hm2, by
                unfold Hid
                rw [hstep.out, hnb, ← hks'.out]
                rfl⟩
            case measure => simp [intOf]; omega
        · apply rel_nil
          simp only [Exit.then, Exit.inBlock]
          go_wp2_with fail
          go_ret
          exact ⟨by rw [HF.out (by unfold chBad; simp [*])]; rfl, hx.trans (hSx _ (hSE _ _ (hSE _ _ hS0 (Ext.alloc _ _)) hx'))⟩
        · apply rel_nil
          simp only [Exit.then, Exit.inBlock]
          go_wp2_with fail
          go_ret
          exact ⟨by rw [HF.out (by unfold chBad; simp [*])]; rfl, hx.trans (hSx _ (hSE _ _ (hSE _ _ hS0 (Ext.alloc _ _)) hx'))⟩
        · apply rel_nil
          simp only [Exit.then, Exit.inBlock]
          go_wp2_with fail
          go_ret
          exact ⟨by rw [HF.out (by unfold chBad; simp [*])]; rfl, hx.trans (hSx _ (hSE _ _ (hSE _ _ hS0 (Ext.alloc _ _)) hx'))⟩
      all_goals
        apply rel_nil
        simp only [Exit.then, Exit.inBlock]
        go_wp2_with fail
        go_ret
        exact ⟨by rw [HF.out (by unfold chBad; simp [*])]; rfl, hx.trans (hSx _ hS0)⟩
    · have hk' : k = l.length := by omega
      have HR : Hid (charges l = decide (l.length ≤ 64)) := by
        unfold charges
        rw [hgo.out, hk', List.drop_length]
        rfl
      clear hgo hm hmm
      go_wp2
      go_ret
      exact ⟨by rw [HR.out]; exact ret_bool (by rw [Bool.eq_iff_iff]; simp; omega), hx⟩
end Go.Proofs.Ytffbomfhihhmhaa.Settle
