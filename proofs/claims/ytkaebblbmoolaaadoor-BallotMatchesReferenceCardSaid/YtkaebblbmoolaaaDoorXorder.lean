/- ballot.distinct, its closure, and ballot.order. -/
import Derived.Test.YtkaebblbmoolaaaDoorXf
import Derived.Test.YtkaebblbmoolaaaDoorBk
import Derived.Shelf.Abstract
import Derived.Laws.EntriesVeiled
set_option linter.unusedSimpArgs false
set_option linter.unusedVariables false
namespace Go.Proofs.YtkaebblbmoolaaaDoor.P
open Go Go.RowKit Go.Shelf Go.Proofs.YtkaebblbmoolaaaDoorW.PrintWords Go.Proofs.YtkaebblbmoolaaaDoorW.PrintLast Go.Proofs.YtkaebblbmoolaaaDoorW.PrintMore

theorem distinct_calls (n : Int) (w : World) : Calls Tryd.prog 49 #[.int .i64 n] w fun e w' => e = .returned (.func (.func 65) #[] #[.pointer (some ⟨w.heap.size, 0, none⟩), .pointer (some ⟨w.heap.size + 2, 0, none⟩)]) ∧
    w' = ((w.alloc (.cells #[.int .i64 n] 3)).alloc (.map #[] 0)).alloc (.cells #[.map (some (w.heap.size + 1))] 87) := by
  have hmm := @run_makeMap Tryd.prog
  go_enter Tryd.func49, Tryd.ntmps49
  go_wp2_with fail
  go_ret
  exact ⟨rfl, rfl⟩
/-- The state of a function that 'distinct' has made. -/
structure Dist (W : World) (B : Nat) (n : Int) (ks : List Int) : Prop where
  n : Blk W B 3 [.int .i64 n]
  m : Blk W (B + 2) 87 [.map (some (B + 1))]
  s : IntSet W (B + 1) ks
def okD (n : Int) (ks : List Int) (x : Int) : Bool := decide (0 ≤ x) && (decide (x < n) && !ks.contains x)
def ksD (n : Int) (ks : List Int) (x : Int) : List Int := if okD n ks x then ks ++ [x] else ks
theorem Dist.grown {W W' : World} {B : Nat} {n : Int} {ks ks' : List Int} (h : Dist W B n ks) (hg : W.grownBy W' (some (B + 1))) (hs : IntSet W' (B + 1) ks') : Dist W' B n ks' :=
  ⟨h.n.grown hg (by simp), h.m.grown hg (by simp), hs⟩
theorem Dist.below {W W' : World} {B k : Nat} {n : Int} {ks : List Int} (h : Dist W B n ks) (hb : Below k W W') (hk : B + 2 < k) : Dist W' B n ks :=
  ⟨h.n.below hb (by omega), h.m.below hb hk, h.s.same (hb.block _ (by omega))⟩
theorem Dist.new (n : Int) (w : World) : Dist (((w.alloc (.cells #[.int .i64 n] 3)).alloc (.map #[] 0)).alloc (.cells #[.map (some (w.heap.size + 1))] 87)) w.heap.size n [] := by
  have h1 := Blk.new w 3 [.int .i64 n]
  have h2 := IntSet.new (w.alloc (.cells #[.int .i64 n] 3))
  have h3 := Blk.new ((w.alloc (.cells #[.int .i64 n] 3)).alloc (.map #[] 0)) 87 [.map (some (w.heap.size + 1))]
  have e1 : (w.alloc (.cells #[.int .i64 n] 3)).heap.size = w.heap.size + 1 := World.size_alloc _ _
  have e2 : ((w.alloc (.cells #[.int .i64 n] 3)).alloc (.map #[] 0)).heap.size = w.heap.size + 2 := by rw [World.size_alloc, e1]
  rw [e1] at h2
  rw [e2] at h3
  refine ⟨(h1.alloc _).alloc _, h3, h2.same ?_⟩
  exact ((World.grownBy_alloc _ _ none).block _ (by rw [e2]; omega) (by simp))

set_option maxHeartbeats 1000000 in
set_option maxRecDepth 100000 in
theorem dist_step (x : Int) (W : World) (B : Nat) (n : Int) (ks : List Int) (h : Dist W B n ks) :
    Calls Tryd.prog 65 #[.int .i64 x, .pointer (some ⟨B, 0, none⟩), .pointer (some ⟨B + 2, 0, none⟩)] W fun e W' => e = .returned (.bool (okD n ks x)) ∧ Dist W' B n (ksD n ks x) ∧ W.grownBy W' (some (B + 1)) := by
  have c0 := h.n.cell 0 _ rfl
  have c2 := h.m.cell 0 _ rfl
  have hlk := run_lookup_set Tryd.underlying87 Tryd.underlying3 (fun w => Tryd.zeroValue4 w) h.s x
  have HD := Lib.hid h
  clear h
  unfold ksD okD
  by_cases h0 : 0 ≤ x
  · have d0 : decide (x < 0) = false := decide_eq_false (by omega)
    rw [decide_eq_true h0, Bool.true_and]
    by_cases h1 : x < n
    · have d1 : decide (n ≤ x) = false := decide_eq_false (by omega)
      rw [decide_eq_true h1, Bool.true_and]
      clear h0 h1
      cases hc : ks.contains x with
      | true =>
        rw [hc] at hlk
        clear hc
        go_enter Tryd.func65, Tryd.ntmps65
        go_wp2_with fail
        go_ret
        exact ⟨rfl, HD.out, ⟨rfl, rfl, rfl, Nat.le_refl _, fun _ _ _ => rfl⟩⟩
      | false =>
        rw [hc] at hlk
        have HC := Lib.hid hc
        clear hc
        go_enter Tryd.func65, Tryd.ntmps65
        go_wp2_with (at_mapUpdate; refine wpList_update_set rfl _ _ _ rfl Tryd.underlying87 Tryd.underlying3 rfl HD.out.s _ rfl rfl ?_; intro W2 hm2 hg2; rw [HC.out] at hm2; have HK := Lib.hid (And.intro (HD.out.grown hg2 hm2) hg2); clear hm2 hg2)
        go_ret
        exact ⟨rfl, HK.out.1, HK.out.2⟩
    · have d1 : decide (n ≤ x) = true := decide_eq_true (by omega)
      rw [decide_eq_false h1, Bool.false_and]
      clear h0 h1
      go_enter Tryd.func65, Tryd.ntmps65
      go_wp2_with fail
      go_ret
      exact ⟨rfl, HD.out, ⟨rfl, rfl, rfl, Nat.le_refl _, fun _ _ _ => rfl⟩⟩
  · have d0 : decide (x < 0) = true := decide_eq_true (by omega)
    rw [decide_eq_false h0, Bool.false_and]
    clear h0
    go_enter Tryd.func65, Tryd.ntmps65
    go_wp2_with fail
    go_ret
    exact ⟨rfl, HD.out, ⟨rfl, rfl, rfl, Nat.le_refl _, fun _ _ _ => rfl⟩⟩

theorem enters_dist : ∀ (args : Array Value) (w : World), (callFunc 65 args).run Tryd.prog w = .ok (.enter 65 args) w := enters_of Tryd.func65 (by kernel_rfl) rfl
theorem enters_ord : ∀ (args : Array Value) (w : World), (callFunc 63 args).run Tryd.prog w = .ok (.enter 63 args) w := enters_of Tryd.func63 (by kernel_rfl) rfl
theorem order_pred (x : Int) (W : World) (B : Nat) (n : Int) (ks : List Int) (h : Dist W B n ks) (hb : Blk W (B + 3) 62 [.func (.func 65) #[] #[.pointer (some ⟨B, 0, none⟩), .pointer (some ⟨B + 2, 0, none⟩)]]) :
    Calls Tryd.prog 63 #[.int .i64 x, .pointer (some ⟨B + 3, 0, none⟩)] W fun e W' => e = .returned (.bool (!okD n ks x)) ∧ Dist W' B n (ksD n ks x) ∧ W.grownBy W' (some (B + 1)) := by
  have c0 := hb.cell 0 _ rfl
  have C := Lib.hid (dist_step x W B n ks h)
  have eg := enters_dist
  clear h hb
  go_enter Tryd.func63, Tryd.ntmps63
  go_wp2_with fail
  refine C.out.mono ?_
  rintro e w' ⟨rfl, hd, hg⟩
  have HK := Lib.hid (And.intro hd hg)
  clear hd hg
  go_wp2_with fail
  go_ret
  exact ⟨rfl, HK.out.1, HK.out.2⟩
def ordF (n : Int) : List Int → List Int → Bool
  | _, [] => true
  | ks, x :: r => okD n ks x && ordF n (ks ++ [x]) r
theorem hasQ_ord (n : Int) : ∀ (r : List Int) (ks : List Int) (q : Nat → Bool) (k : Nat), (∀ j x, r[j]? = some x → q (k + j) = !okD n ((r.take j).foldl (ksD n) ks) x) → hasQ q r.length k = !ordF n ks r
  | [], ks, q, k, h => rfl
  | x :: r, ks, q, k, h => by
    have h0 := h 0 x rfl
    rw [Nat.add_zero, List.take_zero, List.foldl_nil] at h0
    show (q k || hasQ q r.length (k + 1)) = !(okD n ks x && ordF n (ks ++ [x]) r)
    rw [h0]
    cases hx : okD n ks x with
    | false => rfl
    | true =>
      have ih := hasQ_ord n r (ks ++ [x]) q (k + 1) (fun j y hy => by
        have h1 := h (j + 1) y (by simpa using hy)
        rw [List.take_succ_cons, List.foldl_cons, show ksD n ks x = ks ++ [x] from by unfold ksD; rw [if_pos hx]] at h1
        rwa [show k + (j + 1) = k + 1 + j from by omega] at h1)
      simpa using ih
def orderB (l : List Int) (n : Int) : Bool := decide ((l.length : Int) = n) && ordF n [] l
def ballot_order.f (l0 : List Int) (a1 : Int) : Option (Bool) := some (orderB l0 a1)
set_option maxRecDepth 100000 in
theorem ballot_order.calls (A0 : Option Addr) (c0 : Nat) (l0 : List Int) (a1 : Int) (r : Bool) (w : World) (hr0 : Kd.C (Kd.int .i64) w A0 l0.length l0) (hc0 : l0.length ≤ c0) (h : ballot_order.f l0 a1 = some r) :
    Calls Tryd.prog 42 #[.slice A0 l0.length c0, .int .i64 a1] w fun e w' => e = .returned (.bool r) ∧ Below w.heap.size w w' := by
  obtain rfl := Option.some.inj h
  clear h
  obtain ⟨q, hqd⟩ : ∃ q : Nat → Bool, q = fun k => !(l0[k]?.map (okD a1 ((l0.take k).foldl (ksD a1) []))).getD false := ⟨_, rfl⟩
  have hh : hasQ q l0.length 0 = !ordF a1 [] l0 := hasQ_ord a1 l0 [] q 0 (by
    intro j x hx
    rw [hqd]
    simp [hx])
  have C := fun (w4 : World) (hb4 : Below w.heap.size w w4) (hd4 : Dist w4 w.heap.size a1 []) (hx4 : Blk w4 (w.heap.size + 3) 62 [.func (.func 65) #[] #[.pointer (some ⟨w.heap.size, 0, none⟩), .pointer (some ⟨w.heap.size + 2, 0, none⟩)]]) =>
    contains_int (g := 63) (cap := #[.pointer (some ⟨w.heap.size + 3, 0, none⟩)]) q l0 A0 c0 w4 (fun k W => Below w.heap.size w W ∧ Dist W w.heap.size a1 ((l0.take k).foldl (ksD a1) []) ∧ Blk W (w.heap.size + 3) 62 [.func (.func 65) #[] #[.pointer (some ⟨w.heap.size, 0, none⟩), .pointer (some ⟨w.heap.size + 2, 0, none⟩)]]) hr0.2.1
      (fun k W x hk hi => read_int hr0 hi.1 k x hk)
      (fun k x W hk hi => by
        refine (order_pred x W w.heap.size a1 _ hi.2.1 hi.2.2).mono ?_
        rintro e w' ⟨rfl, hd, hg⟩
        refine ⟨by rw [hqd]; simp [hk], hi.1.grown hg hi.1.size (fun k_ hk_ => by cases hk_; omega), ?_, hi.2.2.grown hg (by simp)⟩
        have e1 : l0.take (k + 1) = l0.take k ++ [x] := by rw [List.take_add_one, hk]; rfl
        rw [e1, List.foldl_append, List.foldl_cons, List.foldl_nil]
        exact hd) enters_ord ⟨hb4, hd4, hx4⟩
  rw [hh] at C
  have C := Lib.hid C
  clear hh hr0
  unfold orderB
  by_cases hn : (l0.length : Int) = a1
  · subst hn
    rw [show decide ((l0.length : Int) = (l0.length : Int)) = true from decide_eq_true rfl, Bool.true_and]
    clear hqd
    go_enter Tryd.func42, Tryd.ntmps42
    go_wp2_with fail
    refine (distinct_calls _ w).mono ?_
    rintro e w3 ⟨rfl, hw3⟩
    have hd3 := Dist.new (l0.length : Int) w
    have hb3 := (((Below.refl _ w).alloc (Nat.le_refl _) (.cells #[.int .i64 (l0.length : Int)] 3)).alloc (by simp) (.map #[] 0)).alloc (by simp; omega) (.cells #[.map (some (w.heap.size + 1))] 87)
    have hs3 : w3.heap.size = w.heap.size + 3 := by rw [hw3]; simp
    rw [← hw3] at hd3 hb3
    have HD := Lib.hid (And.intro hd3 (And.intro hb3 hs3))
    clear hw3 hd3 hb3 hs3
    go_wp2_with fail
    obtain ⟨hx4, hs4, hb4⟩ := Blk.box w3 62 [Value.func (Fn.func 65) #[] #[Value.pointer (some { block := w.heap.size, off := 0 }), Value.pointer (some { block := w.heap.size + 2, off := 0 })]]
    rw [show (List.toArray [Value.func (Fn.func 65) #[] #[Value.pointer (some { block := w.heap.size, off := 0 }), Value.pointer (some { block := w.heap.size + 2, off := 0 })]]) = #[Value.func (Fn.func 65) #[] #[Value.pointer (some { block := w.heap.size, off := 0 }), Value.pointer (some { block := w.heap.size + 2, off := 0 })]] from rfl] at hx4 hs4 hb4
    generalize w3.alloc (Obj.cells #[Value.func (Fn.func 65) #[] #[Value.pointer (some { block := w.heap.size, off := 0 }), Value.pointer (some { block := w.heap.size + 2, off := 0 })]] 62) = w4 at hx4 hs4 hb4 ⊢
    obtain ⟨hd3, hb3, hs3⟩ := HD.out
    have C2 := C.out w4 (hb3.trans (Below.mono hb4 hb3.size)) (hd3.below hb4 (by omega)) (by rw [← hs3]; exact hx4)
    rw [← hs3] at C2
    have C2 := Lib.hid C2
    clear hd3 hb3 hs3 hx4 hs4 hb4 C HD
    refine C2.out.mono ?_
    rintro e w5 ⟨rfl, k, hi⟩
    have HI := Lib.hid hi.1
    clear hi
    go_wp2_with fail
    go_ret
    exact ⟨by simp, HI.out⟩
  · have d2 : ((l0.length : Int) == a1) = false := by simpa using hn
    rw [decide_eq_false hn, Bool.false_and]
    clear hn hqd C
    go_enter Tryd.func42, Tryd.ntmps42
    go_wp2_with fail
    refine (distinct_calls _ w).mono ?_
    rintro e w3 ⟨rfl, hw3⟩
    have hd3 := Dist.new a1 w
    have hb3 := (((Below.refl _ w).alloc (Nat.le_refl _) (.cells #[.int .i64 a1] 3)).alloc (by simp) (.map #[] 0)).alloc (by simp; omega) (.cells #[.map (some (w.heap.size + 1))] 87)
    have hs3 : w3.heap.size = w.heap.size + 3 := by rw [hw3]; simp
    rw [← hw3] at hd3 hb3
    have HD := Lib.hid (And.intro hd3 (And.intro hb3 hs3))
    clear hw3 hd3 hb3 hs3
    go_wp2_with fail
    have hb4 := (HD.out.2.1).alloc (HD.out.2.1).size (Obj.cells #[Value.func (Fn.func 65) #[] #[Value.pointer (some { block := w.heap.size, off := 0 }), Value.pointer (some { block := w.heap.size + 2, off := 0 })]] 62)
    go_ret
    exact ⟨rfl, hb4⟩
end Go.Proofs.YtkaebblbmoolaaaDoor.P
