/- The reference's numbers and Asked: rows that a call hands to the next one. -/
import Derived.Test.YtkaebblbmoolaaaDoorXf
import Derived.Test.YtkaebblbmoolaaaDoorBk
import Derived.Test.YtkaebblbmoolaaaDoorPh
import Derived.Deep.RegionHeld3
import Derived.Deep.AppendLies
import Derived.Deep.DrawnRows
import Derived.Test.YtkaebblbmoolaaaDoorPx6
import Derived.Test.YtkaebblbmoolaaaDoorPx6
set_option linter.unusedSimpArgs false
set_option linter.unusedVariables false
namespace Go.Proofs.YtkaebblbmoolaaaDoor.P
open Go Go.RowKit Go.Proofs.YtkaebblbmoolaaaDoorW.PrintWords Go.Proofs.YtkaebblbmoolaaaDoorW.PrintLast Go.Proofs.YtkaebblbmoolaaaDoorW.PrintMore
attribute [local go_sem ↓] Go.wp_at_zero Go.wp_at_succ

/-- The numbers of encrypted votes. -/
def flatC : List S23 → List Int
  | [] => []
  | x :: r => x.f0 :: x.f1 :: flatC r
theorem flatC_len (l : List S23) : (flatC l).length = 2 * l.length := by
  induction l with
  | nil => rfl
  | cons x r ih => simp [flatC, ih]; omega
theorem flatC_app (l m : List S23) : flatC (l ++ m) = flatC l ++ flatC m := by
  induction l with
  | nil => rfl
  | cons x r ih => simp [flatC, ih]
def valsI (l : List Int) : List Value := l.map (Value.int .i64)
theorem flatC_take (l : List S23) (k : Nat) (x : S23) (h : l[k]? = some x) : flatC (l.take (k + 1)) = flatC (l.take k) ++ [x.f0, x.f1] := by
  rw [List.take_add_one, h]
  simp [flatC_app, flatC]

theorem info_n : (Tryd.prog.info? 3).map (fun i => (i.zero, i.size, i.bytes)) = some (some (.int .i64 0), 1, 8) := by kernel_rfl
/-- 'append' of one number that lies in a variable of its own, at a step of a region that draws its order. -/
theorem step_app1 {ops : Array Oper} {o : Oper} {a : Act} {K : Act → World → Prop} {Q : Exit → Act → World → Prop} {E : Prop} {W w0 : World} (base : Nat) (hgd : o.guard = none) (s x : Operand)
    (ho : o.op = .call { callee := .builtin .append, args := #[s, x], argTypes := #[25, 25] }) (v : Value) (zs : List Int) (p : Int) (hs : a.eval s = v) (hown : W.ownsRow base 3 1 v zs.length (valsI zs))
    (B : Nat) (hx : a.eval x = .slice (some ⟨B, 0, none⟩) 1 1) (hc : W.cell? ⟨B, 0, none⟩ = some (.int .i64 p)) (hb : Below base w0 W) (hl : zs.length ≤ 4000000) (hbase : base ≤ W.heap.size)
    (h : ∀ v' w', w'.ownsRow base 3 1 v' (zs ++ [p]).length (valsI (zs ++ [p])) → W.grownBy w' v.ownBlock → Below base w0 w' → base ≤ w'.heap.size → K (a.put o.dst v') w') :
    if Region.wanted o (yielded ops a.tmps) = true then Oper.wp Tryd.prog o a W K Q else E := by
  obtain ⟨i0, hi0, hz0, hz1, hz2⟩ := info_parts info_n
  refine step_append_lies W hgd s x 25 ho base 3 i0 _ 1 8 Tryd.underlying25 hi0 hz0 hz1 hz2 rfl (by omega) v zs.length (valsI zs) hs hown ⟨B, 0, none⟩ 1 1 [.int .i64 p] hx rfl (fun j u hj => ?_) (by simp [Value.oneCell']) (by omega) (by unfold maxLen; omega) (by omega) hbase W.heap.size rfl ?_
  · rcases j with _ | j
    · simp at hj
      subst hj
      simpa [Addr.add] using hc
    · simp at hj
  · intro g cap w' hown' hg _ _
    have hb' : Below base w0 w' := hb.grown hg hbase (fun k hk => (hown.lt k hk).1)
    refine h _ w' ?_ hg hb' (Nat.le_trans hbase hg.size)
    rw [show (zs ++ [p]).length = zs.length + 1 from by simp, show valsI (zs ++ [p]) = valsI zs ++ [.int .i64 p] from by simp [valsI]]
    exact hown'
theorem keepC {base : Nat} {w0 W : World} {p q : Addr} {u v : Value} (hw0 : w0.heap.size ≤ base) (h : w0.cell? p = some u ∧ w0.cell? q = some v) (hb : Below base w0 W) : W.cell? p = some u ∧ W.cell? q = some v :=
  ⟨(hb.cell (Nat.lt_of_lt_of_le (World.block_lt_of_cell? w0 _ h.1) hw0)).trans h.1, (hb.cell (Nat.lt_of_lt_of_le (World.block_lt_of_cell? w0 _ h.2) hw0)).trans h.2⟩
set_option maxRecDepth 100000 in
set_option maxHeartbeats 4000000 in
theorem nums_calls (base : Nat) (v : Value) (xs : List Int) (A : Option Addr) (c : Nat) (l : List S23) (w0 w : World) (hr : Kd.C k23 w0 A l.length l) (hw0 : w0.heap.size ≤ base) (hb : Below base w0 w) (hbase : base ≤ w.heap.size)
    (ho : w.ownsRow base 3 1 v xs.length (valsI xs)) (hx : xs.length ≤ 1000000) (hl : l.length ≤ 1000000) :
    Calls Tryd.prog 40 #[v, .slice A l.length c] w fun e w' => ∃ v', e = .returned v' ∧ w'.ownsRow base 3 1 v' (xs ++ flatC l).length (valsI (xs ++ flatC l)) ∧ Below base w0 w' := by
  obtain ⟨i0, hi0, hz0, hz1, hz2⟩ := info_parts info_n
  have HR := Lib.hid hr
  have HI := Lib.hid (And.intro hi0 (And.intro hz0 (And.intro hz1 hz2)))
  have HO := Lib.hid ho
  have HB := Lib.hid hb
  have HS := Lib.hid hbase
  clear hr ho hb hbase hi0 hz0 hz1 hz2
  go_enter Tryd.func40, Tryd.ntmps40
  go_wp2_with fail
  go_loopw [0, 5] (fun v' i wr => ∃ k : Nat, k ≤ l.length ∧ i = .int .i64 k ∧ wr.ownsRow base 3 1 v' (xs ++ flatC (l.take k)).length (valsI (xs ++ flatC (l.take k))) ∧ Below base w0 wr ∧ base ≤ wr.heap.size) (fun _ i _ => l.length - (intOf i).toNat)
  case atStart => exact ⟨0, Nat.zero_le _, rfl, by simpa [flatC] using HO.out, HB.out, HS.out⟩
  case round =>
    obtain ⟨k, hk, rfl, hown, hbr, hsr⟩ := hrel
    by_cases hlt : k < l.length
    · obtain ⟨x, hxk⟩ : ∃ x, l[k]? = some x := ⟨l[k], List.getElem?_eq_getElem hlt⟩
      obtain ⟨ad, rfl, hl0, hl1⟩ := read_c HR.out (Below.refl _ _) k x hxk
      have hc0 := (hbr.cell (p := ad.add (k * 2)) (Nat.lt_of_lt_of_le (World.block_lt_of_cell? w0 _ hl0) hw0)).trans hl0
      have hc1 := (hbr.cell (p := ⟨(ad.add (k * 2)).block, (ad.add (k * 2)).off + 1, none⟩) (Nat.lt_of_lt_of_le (World.block_lt_of_cell? w0 _ hl1) hw0)).trans hl1
      have HL := Lib.hid (And.intro hl0 hl1)
      clear hl0 hl1
      have i0' : (0 : Int) ≤ (k : Int) := Int.natCast_nonneg _
      have i1' : (k : Int) < (l.length : Int) := by omega
      have hlen : (xs ++ flatC (l.take k)).length ≤ 3100000 := by
        have := flatC_len (l.take k)
        rw [List.length_append, this, List.length_take]
        omega
      obtain ⟨zs, hzs⟩ : ∃ zs, zs = xs ++ flatC (l.take k) := ⟨_, rfl⟩
      rw [← hzs] at hown hlen
      have HZ := Lib.hid hzs
      clear hzs
      have hlo := hown.lt
      go_wp2_with fail
      go_region_held3 (fun W => W.cell? (ad.add (k * 2)) = some (.int .i64 x.f0) ∧ W.cell? ⟨(ad.add (k * 2)).block, (ad.add (k * 2)).off + 1, none⟩ = some (.int .i64 x.f1))
        (first | go_keep | exact keepC hw0 HL.out hb2 | exact keepC hw0 HL.out hb1)
        (first
          | (refine step_app1 (w0 := w0) base rfl (.tmp 12) (.tmp 18) (by rfl) _ zs x.f0 (by rfl) (by repeat (first | exact hown | refine World.ownsRow.alloc ?_ _ | refine World.ownsRow.drew ?_)) _ (by rfl) (by simp) (by repeat (first | exact hbr | refine Below.alloc ?_ (by first | exact hsr | (simp; omega)) _ | refine Below.drew ?_)) (by omega) (by simp; omega) ?_; intro v1 w1 hown1 hgrow1 hb1 hs1)
          | (refine step_app1 (w0 := w0) base rfl (.tmp 19) (.tmp 25) (by rfl) _ (zs ++ [x.f0]) x.f1 (by rfl) (by repeat (first | exact hown1 | refine World.ownsRow.alloc ?_ _ | refine World.ownsRow.drew ?_)) _ (by rfl) (by first | (simp; done) | exact (hgrow1.cell_far ⟨_, 0, none⟩ (by first | (simp; done) | (simp; omega)) (fun e => by have := (hlo _ e.symm).2; simp at this; try omega)).trans (by simp)) (by repeat (first | exact hb1 | refine Below.alloc ?_ (by first | exact hs1 | (simp; omega)) _ | refine Below.drew ?_)) (by simp; omega) (by first | exact hs1 | (simp; omega)) ?_; intro v2 w2 hown2 hgrow2 hb2 hs2))
      all_goals
        have e2 : zs ++ [x.f0] ++ [x.f1] = xs ++ flatC (l.take (k + 1)) := by
          rw [flatC_take l k x hxk, HZ.out, List.append_assoc, List.append_assoc]
          rfl
        rw [e2] at hown2
        have HK := Lib.hid (And.intro hown2 (And.intro hb2 hs2))
        clear hown2 hb2 hs2 hown1 hgrow1 hb1 hs1 hgrow2 hown hbr hsr hlo hc0 hc1 e2
        go_wp2_with fail
        go_roundw
        case rel => exact ⟨k + 1, by omega, by go_num, HK.out.1, HK.out.2.1, HK.out.2.2⟩
        case measure => simp [intOf]; omega
    · obtain rfl : k = l.length := by omega
      rw [List.take_length] at hown
      have HK := Lib.hid (And.intro hown hbr)
      clear hown hbr
      go_wp2_with fail
      go_ret
      exact ⟨_, rfl, HK.out.1, HK.out.2⟩

def bitsL : Nat → Int → List Bool
  | 0, _ => []
  | d + 1, n => (n % 2 == 1) :: bitsL d (n / 2)
def askNums (l0 l1 l2 : List S23) : List Int := (((l0.length : Int) :: flatC l0) ++ flatC l1) ++ flatC l2
def cohousingref40_Asked.f (k : Nat) (l0 : List (S23)) (l1 : List (S23)) (l2 : List (S23)) : Option (List Bool × Int) :=
  (cohousingref40_Ciphers.f k l0).bind fun a => (cohousingref40_Ciphers.f k l1).bind fun b => (cohousingref40_Ciphers.f k l2).bind fun c =>
    if (a && (b && (c && (decide (l1.length = l0.length) && decide (l2.length = l0.length))))) = true then
      (if l0.length ≤ 64 then (cohousingref06_Ints.f k (askNums l0 l1 l2)).bind fun n => if 0 ≤ n ∧ n < 18446744073709551616 then some (bitsL l0.length n, 0) else none else none)
    else some ([], 1)
theorem cohousingref40_Asked.mono (l0 : List (S23)) (l1 : List (S23)) (l2 : List (S23)) (k : Nat) : LeO (cohousingref40_Asked.f k l0 l1 l2) (cohousingref40_Asked.f (k + 1) l0 l1 l2) := by
  unfold cohousingref40_Asked.f
  exact LeO.bind (cohousingref40_Ciphers.mono _ _) fun a => LeO.bind (cohousingref40_Ciphers.mono _ _) fun b => LeO.bind (cohousingref40_Ciphers.mono _ _) fun c => LeO.ite (LeO.ite (LeO.bind (cohousingref06_Ints.mono _ _) fun n => LeO.refl _) (LeO.refl _)) (LeO.refl _)

theorem info_b : (Tryd.prog.info? 4).map (fun i => (i.zero, i.size, i.bytes)) = some (some (.bool false), 1, 1) := by kernel_rfl
theorem bitsL_snoc : ∀ (j : Nat) (n : Int), bitsL (j + 1) n = bitsL j n ++ [(n / 2 ^ j) % 2 == 1]
  | 0, n => by simp [bitsL]
  | j + 1, n => by
    rw [bitsL, bitsL_snoc j (n / 2), bitsL, List.cons_append]
    rw [Int.ediv_ediv_of_nonneg (by omega), show (2 : Int) * 2 ^ j = 2 ^ (j + 1) from by rw [Int.pow_succ]; omega]
theorem bitsL_len : ∀ (j : Nat) (n : Int), (bitsL j n).length = j
  | 0, n => rfl
  | j + 1, n => by simp [bitsL, bitsL_len j]
set_option maxRecDepth 100000 in
set_option maxHeartbeats 4000000 in
theorem cohousingref40_Asked.calls (k : Nat) (A0 : Option Addr) (c0 : Nat) (l0 : List (S23)) (A1 : Option Addr) (c1 : Nat) (l1 : List (S23)) (A2 : Option Addr) (c2 : Nat) (l2 : List (S23)) (r1 : List Bool) (r2 : Int) (w : World) (hr0 : Kd.C k23 w A0 l0.length l0) (hc0 : l0.length ≤ c0) (hr1 : Kd.C k23 w A1 l1.length l1) (hc1 : l1.length ≤ c1) (hr2 : Kd.C k23 w A2 l2.length l2) (hc2 : l2.length ≤ c2) (h : cohousingref40_Asked.f k l0 l1 l2 = some (r1, r2)) :
    Calls Tryd.prog 15 #[.slice A0 l0.length c0, .slice A1 l1.length c1, .slice A2 l2.length c2] w fun e w' => ∃ v0_ : Value, e = .returned (.tuple #[v0_, .int .i64 r2]) ∧ Kd.R Kd.bool 4 w' w.heap.size (fun _ => True) v0_ r1 ∧ Below w.heap.size w w' := by
  unfold cohousingref40_Asked.f at h
  obtain ⟨a, ha, h⟩ := Option.bind_eq_some_iff.1 h
  obtain ⟨b, hb, h⟩ := Option.bind_eq_some_iff.1 h
  obtain ⟨c, hc, h⟩ := Option.bind_eq_some_iff.1 h
  have CA := Lib.hid (fun W (hB : Below w.heap.size w W) => cohousingref40_Ciphers.calls k A0 c0 l0 a W (Kd.C_below hr0 hB) hc0 ha)
  have CB := Lib.hid (fun W (hB : Below w.heap.size w W) => cohousingref40_Ciphers.calls k A1 c1 l1 b W (Kd.C_below hr1 hB) hc1 hb)
  have CC := Lib.hid (fun W (hB : Below w.heap.size w W) => cohousingref40_Ciphers.calls k A2 c2 l2 c W (Kd.C_below hr2 hB) hc2 hc)
  have HR := Lib.hid (And.intro hr0 (And.intro hr1 hr2))
  have H := Lib.hid h
  clear ha hb hc hr0 hr1 hr2 h
  go_enter Tryd.func15, Tryd.ntmps15
  go_wp2_with fail
  refine (CA.out w (Below.refl _ _)).mono ?_
  rintro e w1 ⟨rfl, hb1⟩
  have HB1 := Lib.hid hb1
  clear hb1
  go_wp2_with fail
  refine (CB.out w1 HB1.out).mono ?_
  rintro e w2 ⟨rfl, hb2⟩
  have HB2 := Lib.hid (HB1.out.trans (Below.mono hb2 HB1.out.size))
  clear hb2
  go_wp2_with fail
  refine (CC.out w2 HB2.out).mono ?_
  rintro e w3 ⟨rfl, hb3⟩
  have HB3 := Lib.hid (HB2.out.trans (Below.mono hb3 HB2.out.size))
  clear hb3 CA CB CC HB1 HB2
  by_cases hg : (a && (b && (c && (decide (l1.length = l0.length) && decide (l2.length = l0.length))))) = true
  · simp only [Bool.and_eq_true, decide_eq_true_eq] at hg
    obtain ⟨rfl, rfl, rfl, e1, e2⟩ := hg
    have d1 : ((l1.length : Int) != (l0.length : Int)) = false := by simp; omega
    have d2 : ((l2.length : Int) != (l0.length : Int)) = false := by simp; omega
    have HE := Lib.hid (And.intro e1 e2)
    clear e1 e2
    have hres := H.out
    rw [if_pos (by have := HE.out; simp; omega)] at hres
    split at hres
    · rename_i hl64
      obtain ⟨n, hn, hres⟩ := Option.bind_eq_some_iff.1 hres
      split at hres
      · rename_i hn64
        simp only [Option.some.injEq, Prod.mk.injEq] at hres
        obtain ⟨rfl, rfl⟩ := hres
        have HN := Lib.hid hn
        have HL := Lib.hid hl64
        have H64 := Lib.hid hn64
        clear hn hl64 hn64 H
        go_wp2_with fail
        have hx4 := heap_alloc_new w3 (Obj.cells #[Value.int IntKind.i64 (l0.length : Int)] 3)
        have hs4 := World.size_alloc w3 (Obj.cells #[Value.int IntKind.i64 (l0.length : Int)] 3)
        have hb4 := (Below.refl w3.heap.size w3).alloc (Nat.le_refl _) (Obj.cells #[Value.int IntKind.i64 (l0.length : Int)] 3)
        generalize w3.alloc (Obj.cells #[Value.int IntKind.i64 (l0.length : Int)] 3) = w4 at hx4 hs4 hb4 ⊢
        have ho4 : w4.ownsRow w3.heap.size 3 1 (.slice (some ⟨w3.heap.size, 0, none⟩) 1 1) [(l0.length : Int)].length (valsI [(l0.length : Int)]) := ⟨rfl, Or.inr ⟨w3.heap.size, 1, _, rfl, Nat.le_refl _, hx4, Nat.le_refl _, by unfold maxLen; omega, rfl, rfl⟩⟩
        refine (nums_calls w3.heap.size _ [(l0.length : Int)] A0 c0 l0 w3 w4 (Kd.C_below HR.out.1 HB3.out) (Nat.le_refl _) hb4 (by omega) ho4 (by simp) (by have := HL.out; omega)).mono ?_
        rintro e w5 ⟨v5, rfl, ho5, hb5⟩
        have HO5 := Lib.hid (And.intro ho5 hb5)
        clear hx4 hs4 hb4 ho4 ho5 hb5
        go_wp2_with fail
        refine (nums_calls w3.heap.size v5 _ A1 c1 l1 w3 w5 (Kd.C_below HR.out.2.1 HB3.out) (Nat.le_refl _) HO5.out.2 HO5.out.2.size HO5.out.1 (by have := flatC_len l0; have := HL.out; simp; omega) (by have := HL.out; have := HE.out; omega)).mono ?_
        rintro e w6 ⟨v6, rfl, ho6, hb6⟩
        have HO6 := Lib.hid (And.intro ho6 hb6)
        clear ho6 hb6 HO5
        go_wp2_with fail
        refine (nums_calls w3.heap.size v6 _ A2 c2 l2 w3 w6 (Kd.C_below HR.out.2.2 HB3.out) (Nat.le_refl _) HO6.out.2 HO6.out.2.size HO6.out.1 (by have := flatC_len l0; have := flatC_len l1; have := HL.out; have := HE.out; simp; omega) (by have := HL.out; have := HE.out; omega)).mono ?_
        rintro e w7 ⟨v7, rfl, ho7, hb7⟩
        have hO7 : Kd.R (Kd.int .i64) 3 w7 w3.heap.size (fun _ => True) v7 (askNums l0 l1 l2) := Kd.R_of_own (enc := Value.int .i64) ho7 (fun _ _ => trivial)
        obtain ⟨Ag, cg, rfl, hq2, hq3⟩ := Kd.R_reads hO7
        have HQ := Lib.hid (And.intro hq2 hq3)
        have HB7 := Lib.hid (HB3.out.trans (Below.mono hb7 HB3.out.size))
        clear ho7 hb7 hO7 hq2 hq3 HO6
        go_wp2_with fail
        refine (cohousingref06_Ints.calls k Ag cg (askNums l0 l1 l2) n w7 HQ.out.2 HQ.out.1 HN.out).mono ?_
        rintro e w8 ⟨rfl, hb8⟩
        have HB8 := Lib.hid (HB7.out.trans (Below.mono hb8 HB7.out.size))
        clear hb8 HQ HB7
        go_wp2_with fail
        go_loopw [11, 12, 13] (fun q v i wr => ∃ (j : Nat) (m : Int), j ≤ l0.length ∧ i = .int .i64 j ∧ q = .int .u64 m ∧ 0 ≤ m ∧ m < 18446744073709551616 ∧ Hid (m = n / 2 ^ j) ∧ Kd.R Kd.bool 4 wr w.heap.size (fun _ => True) v (bitsL j n) ∧ Below w.heap.size w wr) (fun _ _ i _ => l0.length - (intOf i).toNat)
        case atStart => exact ⟨0, n, Nat.zero_le _, rfl, rfl, H64.out.1, H64.out.2, by unfold Hid; simp, Kd.R_of_own (enc := Value.bool) ⟨rfl, Or.inl ⟨rfl, rfl⟩⟩ (fun _ h => by cases h), HB8.out⟩
        case round =>
          obtain ⟨j, m, hj, rfl, rfl, m0, m1, hm, hR, hB⟩ := hrel
          by_cases hlt : j < l0.length
          · have hlj : (j : Int) < (l0.length : Int) := by omega
            have HRR := Lib.hid (And.intro hR hB)
            clear hR hB
            go_wp2_with ((with_reducible refine gate_builtin (b := .append) (xs := #[.tmp 60, .tmp 64]) rfl ?_); at_builtin; refine Kd.R_append Kd.bool (w0 := w) w.heap.size rfl (.tmp 60) (.tmp 64) 34 4 (.bool false) 1 rfl Tryd.underlying34 info_b rfl (by decide) (by omega) _ (bitsL j n) (m % 2 == 1) [.bool (m % 2 == 1)] (fun _ => True) (fun _ => False) rfl (by first | rfl | go_simp) ?aP (fun _ hk => hk.elim) (fun _ _ => trivial) ?aO ?aB ?aS ?aL ?_; (case aP => exact rfl); (case aO => exact HRR.out.1); (case aB => exact HRR.out.2); (case aS => exact HRR.out.2.size); (case aL => rw [bitsL_len]; have := HL.out; omega); intro v9 w9 ho9 hb9 hg hat; have HK := Lib.hid (And.intro ho9 hb9); clear ho9 hb9 hg hat)
            have e1 : bitsL (j + 1) n = bitsL j n ++ [m % 2 == 1] := by rw [bitsL_snoc, hm.out]
            have e2 : m / 2 = n / 2 ^ (j + 1) := by rw [hm.out, Int.ediv_ediv_of_nonneg (Int.le_of_lt (Int.pow_pos (by decide))), Int.pow_succ]
            have HE1 := Lib.hid e1
            have HE2 := Lib.hid e2
            clear e1 e2 hm
            have hl64 := HL.out
            have HWJ := Lib.hid (show wrap64 ((j : Int) + 1) = ((j + 1 : Nat) : Int) by unfold wrap64; omega)
            go_roundw
            case rel => exact ⟨j + 1, m / 2, by omega, by rw [HWJ.out], rfl, by omega, by omega, HE2, by rw [HE1.out]; exact HK.out.1, HK.out.2⟩
            case measure => rw [HWJ.out]; simp only [intOf, Int.toNat_natCast]; omega
          · obtain rfl : j = l0.length := by omega
            have HRR := Lib.hid (And.intro hR hB)
            clear hR hB hm
            go_wp2_with fail
            refine bodyPost_ret (results_tmp2 rfl _ _ _) rfl ?_
            exact ⟨_, rfl, HRR.out.1, HRR.out.2⟩
      · cases hres
    · cases hres
  · have HG := Lib.hid hg
    have hres := H.out
    rw [if_neg hg] at hres
    have hres := Option.some.inj hres
    simp only [Prod.mk.injEq] at hres
    obtain ⟨rfl, rfl⟩ := hres
    have hfin : ∀ v : Value, v = .slice none 0 0 → Kd.R Kd.bool 4 w3 w.heap.size (fun _ => True) v [] := fun v hv => by rw [hv]; exact Kd.R_of_own (enc := Value.bool) ⟨rfl, Or.inl ⟨rfl, rfl⟩⟩ (fun _ h => by cases h)
    have HF := Lib.hid hfin
    clear hfin hg
    by_cases e1 : (l1.length : Int) = (l0.length : Int)
    · have d1 : ((l1.length : Int) != (l0.length : Int)) = false := by simpa using e1
      by_cases e2 : (l2.length : Int) = (l0.length : Int)
      · have d2 : ((l2.length : Int) != (l0.length : Int)) = false := by simpa using e2
        have HE := Lib.hid (And.intro e1 e2)
        clear e1 e2
        cases a <;> cases b <;> cases c
        all_goals try (exact absurd (by have := HE.out; simp; omega) HG.out)
        all_goals go_wp2_with fail
        all_goals (refine bodyPost_ret (results_tmp2 rfl _ _ _) rfl ?_)
        all_goals exact ⟨_, rfl, HF.out _ rfl, HB3.out⟩
      · have d2 : ((l2.length : Int) != (l0.length : Int)) = true := by simpa using e2
        clear e1 e2
        cases a <;> cases b <;> cases c
        all_goals go_wp2_with fail
        all_goals (refine bodyPost_ret (results_tmp2 rfl _ _ _) rfl ?_)
        all_goals exact ⟨_, rfl, HF.out _ rfl, HB3.out⟩
    · have d1 : ((l1.length : Int) != (l0.length : Int)) = true := by simpa using e1
      clear e1
      cases a <;> cases b <;> cases c
      all_goals go_wp2_with fail
      all_goals (refine bodyPost_ret (results_tmp2 rfl _ _ _) rfl ?_)
      all_goals exact ⟨_, rfl, HF.out _ rfl, HB3.out⟩
end Go.Proofs.YtkaebblbmoolaaaDoor.P
