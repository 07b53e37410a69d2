/- sort.Search for a predicate that writes nothing that was there; keys.behind. -/
import Derived.Test.YtcnkenknbmmglaaDoorGen
import Derived.Test.YtcnkenknbmmglaaDoorBk
import Derived.Test.YtcnkenknbmmglaaDoorOrd
import Derived.Test.YtcnkenknbmmglaaDoorPx6
import Derived.Shelf.Abstract
set_option linter.unusedSimpArgs false
set_option linter.unusedVariables false
namespace Go.Proofs.YtcnkenknbmmglaaDoor.P
open Go Go.RowKit Go.Proofs.YtcnkenknbmmglaaDoorW.PrintWords Go.Proofs.YtcnkenknbmmglaaDoorW.PrintLast Go.Proofs.YtcnkenknbmmglaaDoorW.PrintMore Go.Proofs.YtcnkenknbmmglaaDoor.Ord

theorem obs {α β : Type} (a : α) (f : α → Option β) : (some a).bind f = f a := (Option.bind_some a f).trans (Eq.refl _)
theorem rd_getK {l : List S49} {k : Nat} (h : k < l.length) : rd_T49 l (k : Int) = l[k] := by unfold rd_T49; simp [List.getD_eq_getElem?_getD, List.getElem?_eq_getElem h]
/-- Binary search, in at most so many rounds. -/
def bsV (p : Nat → Bool) : Nat → Nat → Nat → Nat
  | 0, i, _ => i
  | f + 1, i, j => if i < j then (if p ((i + j) / 2) then bsV p f i ((i + j) / 2) else bsV p f ((i + j) / 2 + 1) j) else i
theorem bsV_end (p : Nat → Bool) (f i j : Nat) (h : ¬ i < j) : bsV p f i j = i := by
  cases f with
  | zero => rfl
  | succ f => rw [bsV, if_neg h]
theorem bsV_le (p : Nat → Bool) : ∀ (f i j : Nat), i ≤ j → i ≤ bsV p f i j ∧ bsV p f i j ≤ j
  | 0, i, j, h => ⟨Nat.le_refl _, h⟩
  | f + 1, i, j, h => by
    unfold bsV
    split
    · split
      · have := bsV_le p f i ((i + j) / 2) (by omega)
        omega
      · have := bsV_le p f ((i + j) / 2 + 1) j (by omega)
        omega
    · omega
/-- Where p holds from one place on, and not before, the search finds this place. -/
theorem bsV_spec (p : Nat → Bool) : ∀ (f i j r : Nat), j - i ≤ f → i ≤ r → r ≤ j → (∀ k, i ≤ k → k < r → p k = false) → (∀ k, r ≤ k → k < j → p k = true) → bsV p f i j = r
  | 0, i, j, r, hf, h1, h2, _, _ => by
    show i = r
    omega
  | f + 1, i, j, r, hf, h1, h2, h3, h4 => by
    unfold bsV
    by_cases hij : i < j
    · rw [if_pos hij]
      by_cases hr : (i + j) / 2 < r
      · rw [h3 _ (by omega) hr, if_neg (by decide)]
        exact bsV_spec p f _ j r (by omega) (by omega) h2 (fun k a b => h3 k (by omega) b) h4
      · rw [h4 _ (by omega) (by omega), if_pos rfl]
        exact bsV_spec p f i _ r (by omega) h1 (by omega) h3 (fun k a b => h4 k a (by omega))
    · rw [if_neg hij]
      omega
theorem half_u (i j : Nat) (h : i + j < 4611686018427387904) : IntKind.i64.wrap (shr .u64 (IntKind.u64.wrap ((i : Int) + (j : Int))) 1) = (((i + j) / 2 : Nat) : Int) := by
  have e : IntKind.u64.wrap ((i : Int) + (j : Int)) = (((i + j : Nat)) : Int) := by
    show ((i : Int) + (j : Int)) % 18446744073709551616 = _
    omega
  rw [e, IntKind.wrap_i64]
  have e2 : shr .u64 (((i + j : Nat)) : Int) 1 = (((i + j) / 2 : Nat) : Int) := by
    show ((((i + j : Nat)) : Int) / 2 ^ 1) = _
    omega
  rw [e2]
  omega
set_option maxHeartbeats 2000000 in
theorem search_calls {g : Nat} {cap : Array Value} (p : Nat → Bool) (n : Nat) (w : World) (hn : n < 1000000)
    (hp : ∀ i W, i < n → Below w.heap.size w W → Calls Tryd.prog g (#[.int .i64 (i : Int)] ++ cap) W fun e W' => e = .returned (.bool (p i)) ∧ Below W.heap.size W W')
    (eg : ∀ args w, (callFunc g args).run Tryd.prog w = .ok (.enter g args) w) :
    Calls Tryd.prog 59 #[.int .i64 (n : Int), .func (.func g) #[] cap] w fun e w' => e = .returned (.int .i64 (bsV p n 0 n : Nat)) ∧ Below w.heap.size w w' := by
  have HP := Lib.hid hp
  clear hp
  go_enter Tryd.func59, Tryd.ntmps59
  go_wp2_with fail
  go_loopw [5, 6] (fun u v wr => ∃ i j f : Nat, i ≤ j ∧ j ≤ n ∧ u = .int .i64 (i : Int) ∧ v = .int .i64 (j : Int) ∧ Hid (j - i ≤ f) ∧ Hid (bsV p f i j = bsV p n 0 n) ∧ Hid (Below w.heap.size w wr)) (fun u v _ => (intOf v).toNat - (intOf u).toNat)
  case atStart => exact ⟨0, n, n, by omega, by omega, rfl, rfl, by unfold Hid; omega, rfl, Below.refl _ _⟩
  case round =>
    obtain ⟨i, j, f, hij, hjn, rfl, rfl, hf, hs, hB⟩ := hrel
    by_cases hlt : i < j
    · have hff := hf.out
      obtain ⟨f, rfl⟩ : ∃ m, f = m + 1 := ⟨f - 1, by omega⟩
      have hss := hs.out
      rw [bsV, if_pos hlt] at hss
      have hh := half_u i j (by omega)
      have HS := Lib.hid hss
      have hff' : j - (i + 1) ≤ f := by omega
      have hm1 : i ≤ (i + j) / 2 := by omega
      have hm2 : (i + j) / 2 < j := by omega
      have hsum : IntKind.i64.wrap ((i : Int) + (j : Int)) = (i : Int) + (j : Int) := by rw [IntKind.wrap_i64]; omega
      clear hss hs hff hf
      go_wp2_with fail
      obtain ⟨h, hh2⟩ : ∃ h, (i + j) / 2 = h := ⟨_, rfl⟩
      rw [show ((i : Int) + (j : Int)) / 2 = (h : Int) from by omega]
      have hc := HP.out h wr (by omega) hB.out
      have HSS := HS.out
      rw [hh2] at HSS hm1 hm2
      clear HS hh hh2
      cases hp : p h with
      | true =>
        rw [hp] at hc
        rw [hp, if_pos rfl] at HSS
        have HS := Lib.hid HSS
        clear HSS hp
        refine hc.mono ?_
        rintro e w2 ⟨rfl, hb⟩
        have HB2 := Lib.hid (hB.out.trans (Below.mono hb hB.out.size))
        clear hb hc hB
        go_wp2_with fail
        refine ⟨⟨i, h, f, hm1, by omega, rfl, rfl, by unfold Hid; omega, HS.out, HB2.out⟩, ?_⟩
        simp only [intOf]
        omega
      | false =>
        rw [hp] at hc
        rw [hp, if_neg (by decide)] at HSS
        have HS := Lib.hid HSS
        have hw : IntKind.i64.wrap ((h : Int) + 1) = (h : Int) + 1 := by rw [IntKind.wrap_i64]; omega
        clear HSS hp
        refine hc.mono ?_
        rintro e w2 ⟨rfl, hb⟩
        have HB2 := Lib.hid (hB.out.trans (Below.mono hb hB.out.size))
        clear hb hc hB
        go_wp2_with fail
        refine ⟨⟨h + 1, j, f, by omega, hjn, congrArg (Value.int .i64) (by omega), rfl, by unfold Hid; omega, HS.out, HB2.out⟩, ?_⟩
        simp only [intOf]
        omega
    · have e := hs.out
      rw [bsV_end p f i j hlt] at e
      have HE := Lib.hid e
      clear e hs hf
      go_wp2_with fail
      go_ret
      exact ⟨by rw [← HE.out]; rfl, hB.out⟩
/-- How keys are ordered: by household, then by day. -/
def cmpV (a b : S49) : Int := if a.f0 < b.f0 then -1 else if b.f0 < a.f0 then 1 else if a.f2 < b.f2 then -1 else if b.f2 < a.f2 then 1 else 0
theorem compareInt_f (a b : Int) : cmp_Compare_int.f a b = some (if a < b then -1 else if b < a then 1 else 0) := by
  unfold cmp_Compare_int.f cmp_isNaN_int.f
  simp
  by_cases h1 : a < b
  · rw [if_pos h1, if_pos h1]
  · rw [if_neg h1, if_neg h1]
    by_cases h2 : b < a
    · rw [if_pos h2, if_pos h2]
    · rw [if_neg h2, if_neg h2]
theorem compare_f (a b : S49) (k : Nat) (hk : 5 ≤ k) : keys_compare.f k a.f0 a.f1 a.f2 b.f0 b.f1 b.f2 = some (cmpV a b) := by
  obtain ⟨k, rfl⟩ : ∃ n, k = n + 3 := ⟨k - 3, by omega⟩
  unfold keys_compare.f
  rw [compareInt_f, compareInt_f]
  simp only [obs]
  unfold cmp_Or_int.f cmpV
  by_cases h1 : a.f0 < b.f0
  · rw [if_pos h1, if_pos h1]; rfl
  · rw [if_neg h1, if_neg h1]
    by_cases h2 : b.f0 < a.f0
    · rw [if_pos h2, if_pos h2]; rfl
    · rw [if_neg h2, if_neg h2]
      by_cases h3 : a.f2 < b.f2
      · rw [if_pos h3]; simp [cmp_Or_int.l0, rd, wrap64]
      · rw [if_neg h3]
        by_cases h4 : b.f2 < a.f2
        · rw [if_pos h4]; simp [cmp_Or_int.l0, rd, wrap64]
        · rw [if_neg h4]; simp [cmp_Or_int.l0, rd, wrap64]
set_option maxHeartbeats 2000000 in
theorem beh1_pred (i : Nat) (B X : Nat) (A : Option Addr) (c : Nat) (l : List S49) (x : S49) (W : World) (hi : i < l.length) (hB : W.cell? ⟨B, 0, none⟩ = some (.slice A l.length c)) (hX : Blk W X 49 [.int .i64 x.f0, .int .i64 x.f1, .int .i64 x.f2]) (hl : Kd.C k49 W A l.length l) :
    Calls Tryd.prog 60 #[.int .i64 (i : Int), .pointer (some ⟨B, 0, none⟩), .pointer (some ⟨X, 0, none⟩)] W fun e W' => e = .returned (.bool (decide (cmpV l[i] x > 0))) ∧ Below W.heap.size W W' := by
  have HC := Lib.hid (fun W => keys_compare.calls 5 l[i].f0 l[i].f1 l[i].f2 x.f0 x.f1 x.f2 (cmpV l[i] x) W (compare_f _ _ _ (by omega)))
  obtain ⟨ad, rfl, h0, h1, h2⟩ := at_T49 hl (i : Int) (by omega) (by omega)
  rw [rd_getK hi] at h0 h1 h2
  simp only [Int.toNat_natCast] at h0 h1 h2
  generalize l[i] = y at *
  obtain ⟨y0, y1, y2⟩ := y
  obtain ⟨x0, x1, x2⟩ := x
  simp only at *
  have HW := Lib.hid (And.intro hB (And.intro hX (And.intro h0 (And.intro h1 h2))))
  have hS : ∀ V, Held (fun V => Below W.heap.size W V) V → V.cell? ⟨B, 0, none⟩ = some (.slice (some ad) l.length c) ∧ V.cell? ⟨X, 0, none⟩ = some (.int .i64 x0) ∧ V.cell? ⟨X, 1, none⟩ = some (.int .i64 x1) ∧ V.cell? ⟨X, 2, none⟩ = some (.int .i64 x2) ∧ V.cell? (ad.add (i * 3)) = some (.int .i64 y0) ∧ V.cell? ⟨(ad.add (i * 3)).block, (ad.add (i * 3)).off + 1, none⟩ = some (.int .i64 y1) ∧ V.cell? ⟨(ad.add (i * 3)).block, (ad.add (i * 3)).off + 2, none⟩ = some (.int .i64 y2) := fun V hV => by
    have hV' : Below W.heap.size W V := hV
    have hx := HW.out.2.1.below hV' HW.out.2.1.lt
    exact ⟨(hV'.cell (World.block_lt_of_cell? W _ HW.out.1)).trans HW.out.1, hx.cell 0 _ rfl, hx.cell 1 _ rfl, hx.cell 2 _ rfl, (hV'.cell (World.block_lt_of_cell? W _ HW.out.2.2.1)).trans HW.out.2.2.1, (hV'.cell (World.block_lt_of_cell? W _ HW.out.2.2.2.1)).trans HW.out.2.2.2.1, (hV'.cell (World.block_lt_of_cell? W _ HW.out.2.2.2.2)).trans HW.out.2.2.2.2⟩
  have hii : (i : Int) < (l.length : Int) := by omega
  clear hB hX hl h0 h1 h2
  go_enter Tryd.func60, Tryd.ntmps60
  go_wp2_with fail
  refine wp_region_auto (fun V => Below W.heap.size W V) ((0, none, none) :: (0, none, none) :: (0, none, none) :: (0, none, none) :: (0, none, none) :: (0, none, some true) :: (0, none, none) :: (0, none, none) :: []) (by kernel_rfl) (by kernel_rfl) (fun _ _ d _ _ h => by cases d <;> exact h) ((Below.refl _ W).drew) ?_
  repeat' (first
    | (with_reducible apply rel_pass
       focus (intro W hW; first | (go_simp; exact rfl) | go_simp)
       simp only [Act.put, List.setIfInBounds_toArray, List.set_cons_zero, List.set_cons_succ])
    | (with_reducible apply rel_yes
       focus (exact rfl))
    | (with_reducible apply rel_no
       focus (exact rfl)
       simp only [Act.put, List.setIfInBounds_toArray, List.set_cons_zero, List.set_cons_succ])
    | (with_reducible apply rel_askF
       focus (exact rfl)
       all_goals (intro hb; simp only [hb, Act.put, List.setIfInBounds_toArray, List.set_cons_zero, List.set_cons_succ]))
    | (with_reducible apply rel_askT
       focus (exact rfl)
       all_goals (intro hb; simp only [hb, Act.put, List.setIfInBounds_toArray, List.set_cons_zero, List.set_cons_succ]))
    | (with_reducible apply rel_front1)
    | (with_reducible apply rel_front2)
    | (with_reducible apply rel_front3)
    | (with_reducible apply rel_front4)
    | (with_reducible apply rel_front5)
    | (with_reducible apply rel_front6))
  with_reducible apply rel_act
  intro K hK
  go_simp
  refine (HC.out _).mono ?_
  rintro e w2 ⟨rfl, hb⟩
  have HB2 := Lib.hid (show Below W.heap.size W w2 from (Below.refl _ W).drew.trans hb)
  clear hb
  refine hK _ _ ⟨fun _ => HB2.out, ?_⟩
  clear hK K
  try simp only [Act.put, List.setIfInBounds_toArray, List.set_cons_zero, List.set_cons_succ]
  repeat' (first
    | (with_reducible apply rel_pass
       focus (intro W hW; first | (go_simp; exact rfl) | go_simp)
       simp only [Act.put, List.setIfInBounds_toArray, List.set_cons_zero, List.set_cons_succ])
    | (with_reducible apply rel_yes
       focus (exact rfl))
    | (with_reducible apply rel_no
       focus (exact rfl)
       simp only [Act.put, List.setIfInBounds_toArray, List.set_cons_zero, List.set_cons_succ])
    | (with_reducible apply rel_askF
       focus (exact rfl)
       all_goals (intro hb; simp only [hb, Act.put, List.setIfInBounds_toArray, List.set_cons_zero, List.set_cons_succ]))
    | (with_reducible apply rel_askT
       focus (exact rfl)
       all_goals (intro hb; simp only [hb, Act.put, List.setIfInBounds_toArray, List.set_cons_zero, List.set_cons_succ]))
    | (with_reducible apply rel_front1)
    | (with_reducible apply rel_front2)
    | (with_reducible apply rel_front3)
    | (with_reducible apply rel_front4)
    | (with_reducible apply rel_front5)
    | (with_reducible apply rel_front6))
  apply rel_nil
  simp only [Exit.then, Exit.inBlock]
  clear hS
  go_wp2_with fail
  go_ret
  exact ⟨rfl, HB2.out⟩
/-- The first place behind the keys of a household up to a day. -/
def behP (l : List S49) (home day : Int) (i : Nat) : Bool := decide (cmpV (rd_T49 l (i : Int)) ⟨home, 0, day⟩ > 0)
def behV (l : List S49) (home day : Int) : Nat := bsV (behP l home day) l.length 0 l.length
def keys_behind.f (l0 : List (S49)) (a1 : Int) (a2 : Int) : Option (Int) := if l0.length < 1000000 then some ((behV l0 a1 a2 : Nat) : Int) else none
set_option maxHeartbeats 2000000 in
theorem keys_behind.calls (A0 : Option Addr) (c0 : Nat) (l0 : List (S49)) (a1 : Int) (a2 : Int) (r : Int) (w : World) (hr0 : Kd.C k49 w A0 l0.length l0) (hc0 : l0.length ≤ c0) (h : keys_behind.f l0 a1 a2 = some r) :
    Calls Tryd.prog 35 #[.slice A0 l0.length c0, .int .i64 a1, .int .i64 a2] w fun e w' => e = .returned (.int .i64 r) ∧ Below w.heap.size w w' := by
  have hn : l0.length < 1000000 := by
    unfold keys_behind.f at h
    by_cases hh : l0.length < 1000000
    · exact hh
    · rw [if_neg hh] at h; cases h
  unfold keys_behind.f at h
  rw [if_pos hn] at h
  obtain rfl := Option.some.inj h
  have HR := Lib.hid hr0
  have HN := Lib.hid hn
  clear h hr0 hn
  go_enter Tryd.func35, Tryd.ntmps35
  go_wp2_with fail
  obtain ⟨hx1, hs1, hb1⟩ := Blk.box w 22 [Value.slice A0 l0.length c0]
  rw [show (List.toArray [Value.slice A0 l0.length c0]) = #[Value.slice A0 l0.length c0] from rfl] at hx1 hs1 hb1
  have e1 : (w.alloc (Obj.cells #[Value.slice A0 l0.length c0] 22)).heap.size = w.heap.size + 1 := hs1
  generalize w.alloc (Obj.cells #[Value.slice A0 l0.length c0] 22) = w1 at hx1 hs1 hb1 e1 ⊢
  obtain ⟨hx2, hs2, hb2⟩ := Blk.box w1 49 [Value.int .i64 a1, Value.int .i64 0, Value.int .i64 a2]
  rw [show (List.toArray [Value.int .i64 a1, Value.int .i64 0, Value.int .i64 a2]) = #[Value.int .i64 a1, Value.int .i64 0, Value.int .i64 a2] from rfl] at hx2 hs2 hb2
  rw [e1] at hx2 hb2
  generalize w1.alloc (Obj.cells #[Value.int .i64 a1, Value.int .i64 0, Value.int .i64 a2] 49) = w2 at hx2 hs2 hb2 ⊢
  have hB2 : Below w.heap.size w w2 := hb1.trans (Below.mono hb2 (by omega))
  have hx1' := hx1.below hb2 (by omega)
  have hc := search_calls (g := 60) (cap := #[.pointer (some ⟨w.heap.size, 0, none⟩), .pointer (some ⟨w.heap.size + 1, 0, none⟩)]) (behP l0 a1 a2) l0.length w2 HN.out (fun i W hi hW => by
    have hp := beh1_pred i w.heap.size (w.heap.size + 1) A0 c0 l0 ⟨a1, 0, a2⟩ W hi ((hx1'.below hW hx1'.lt).cell 0 _ rfl) (hx2.below hW hx2.lt) (Kd.C_below HR.out (hB2.trans (Below.mono hW hB2.size)))
    rw [show behP l0 a1 a2 i = decide (cmpV l0[i] ⟨a1, 0, a2⟩ > 0) from by unfold behP; rw [rd_getK hi]]
    exact hp) (enters_of Tryd.func60 (by kernel_rfl) rfl)
  refine hc.mono ?_
  rintro e w3 ⟨rfl, hb⟩
  have HB3 := Lib.hid (hB2.trans (Below.mono hb hB2.size))
  clear hx1 hs1 hb1 e1 hx2 hs2 hb2 hB2 hx1' hc hb
  go_wp2_with fail
  go_ret
  exact ⟨rfl, HB3.out⟩
end Go.Proofs.YtcnkenknbmmglaaDoor.P
