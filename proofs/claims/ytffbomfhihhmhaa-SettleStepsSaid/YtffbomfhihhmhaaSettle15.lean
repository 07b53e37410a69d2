/- The law SettleSums, walked. -/
import Derived.Test.YtffbomfhihhmhaaSettle13
import Derived.Test.YtffbomfhihhmhaaSettle7a
set_option linter.unusedSimpArgs false
set_option linter.unusedVariables false
namespace Go.Proofs.Ytffbomfhihhmhaa.Settle
open Go Go.RowKit Go.Shelf Go.Proofs.Ytffbomfhihhmhaa.Ord Go.Proofs.Ytffbomfhihhmhaa.OrdI Go.Proofs.Ytffbomfhihhmhaa.Base

/-- A settlement that is not refused. -/
structure Good (a b : List Ch) (ho hn : Int) : Prop where
  ca : charges a = true
  cb : charges b = true
  homes : all2 hq a b = true
  ao : amt ho = true
  an : amt hn = true
  within : all2 wq a b = true
  sums : cs a + ho = cs b + hn
  difs : all2 difOk a b = true
  house : amt (hn - ho) = true
theorem settle_or (a b : List Ch) (ho hn : Int) : (∃ e, e ≠ 0 ∧ settleS a b ho hn = ⟨[], 0, e⟩) ∨ (settleS a b ho hn = ⟨difs a b, hn - ho, 0⟩ ∧ Good a b ho hn) := by
  unfold settleS
  by_cases h1 : (!charges a || !charges b || !all2 hq a b || !amt ho || !amt hn) = true
  · rw [if_pos h1]; exact .inl ⟨1, by decide, rfl⟩
  · rw [if_neg h1]
    by_cases h2 : (!all2 wq a b) = true
    · rw [if_pos h2]; exact .inl ⟨3, by decide, rfl⟩
    · rw [if_neg h2]
      by_cases h3 : (cs a + ho != cs b + hn) = true
      · rw [if_pos h3]; exact .inl ⟨32, by decide, rfl⟩
      · rw [if_neg h3]
        by_cases h4 : (!(all2 difOk a b && amt (hn - ho))) = true
        · rw [if_pos h4]; exact .inl ⟨3, by decide, rfl⟩
        · rw [if_neg h4]
          simp at h1 h2 h3 h4
          exact .inr ⟨rfl, h1.1.1.1.1, h1.1.1.1.2, h1.1.1.2, h1.1.2, h1.2, h2, h3, h4.1, h4.2⟩
theorem cs_difs : ∀ (a b : List Ch), a.length = b.length → cs (difs a b) = cs b - cs a
  | [], [], _ => rfl
  | [], _ :: _, h => by simp at h
  | _ :: _, [], h => by simp at h
  | x :: a, y :: b, h => by
    have ih := cs_difs a b (by simpa using h)
    simp only [cs, difs, List.map_cons, List.sum_cons] at ih ⊢
    rw [ih]
    simp only [dif]
    omega

theorem cs_bound2 {l : List Ch} (h : ∀ x ∈ l, -2000000000 ≤ x.cents ∧ x.cents ≤ 2000000000) : -2000000000 * l.length ≤ cs l ∧ cs l ≤ 2000000000 * l.length := by
  induction l with
  | nil => simp [cs]
  | cons x r ih =>
    have h1 := h x (by simp)
    have h2 := ih (fun y hy => h y (by simp [hy]))
    unfold cs at *
    simp only [List.map_cons, List.sum_cons, List.length_cons]
    omega
theorem difs_bound2 : ∀ (a b : List Ch), (∀ x ∈ a, chRight x) → (∀ x ∈ b, chRight x) → ∀ x ∈ difs a b, -2000000000 ≤ x.cents ∧ x.cents ≤ 2000000000
  | [], _, _, _ => by simp [difs]
  | _ :: _, [], _, _ => by simp [difs]
  | x :: a, y :: b, ha, hb => by
    intro z hz
    simp only [difs, List.mem_cons] at hz
    rcases hz with rfl | hz
    · have h1 := ha x (by simp)
      have h2 := hb y (by simp)
      unfold chRight at h1 h2
      simp only [dif]
      omega
    · exact difs_bound2 a b (fun x h => ha x (by simp [h])) (fun x h => hb x (by simp [h])) z hz

set_option maxRecDepth 100000 in
set_option maxHeartbeats 4000000 in
theorem sums_calls (a b : List Ch) (ho hn : Int) (A B : Option Addr) (c d : Nat) (w : World) (ha : a.length ≤ 9223372036854775807) (hb : b.length ≤ 9223372036854775807)
    (hA : RowsOf w 5 Ch.cells A a) (hB : RowsOf w 5 Ch.cells B b) :
    Calls Try.prog 4 #[.slice A a.length c, .slice B b.length d, .int .i64 ho, .int .i64 hn] w fun e w' => e = .returned (.bool true) ∧ Ext w w' := by
  have s1 := fun W (h : Ext w W) => Settle_calls a b ho hn A B c d W ha hb (hA.ext h) (hB.ext h)
  rcases settle_or a b ho hn with ⟨er, he, hs⟩ | ⟨hs, hg⟩
  · rw [hs] at s1
    clear hs
    go_enter Try.func4, Try.ntmps4
    go_wp2_with fail
    refine (head_calls w).mono ?_
    rintro e W1 ⟨rfl, X1⟩
    go_wp2_with fail
    refine (s1 W1 X1).mono ?_
    rintro e W2 ⟨v1, rfl, hown1, hx2⟩
    obtain ⟨A1, c1, rfl, R1⟩ := own_rows cells_len hown1 rfl
    have hne : (er != 0) = true := by simpa using he
    go_wp2_with fail
    go_ret
    exact ⟨rfl, X1.trans hx2⟩
  · rw [hs] at s1
    have hlen := all2_eq_len hg.homes
    obtain ⟨la, ra⟩ := charges_right hg.ca
    obtain ⟨lb, rb⟩ := charges_right hg.cb
    have hdl := difs_len a b hlen
    have t1 := fun W (h : Ext w W) => total_calls a A c W ha (hA.ext h)
    have t2 := fun W (h : Ext w W) => total_calls b B d W hb (hB.ext h)
    have v1 : totalV a = addV (a.map Ch.cents) := by unfold totalV; rw [if_pos hg.ca]
    have v2 : totalV b = addV (b.map Ch.cents) := by unfold totalV; rw [if_pos hg.cb]
    rw [v1] at t1
    rw [v2] at t2
    have hz : cs (difs a b) = cs b - cs a := cs_difs a b hlen
    have HD := Lib.hid (difs_get a b)
    have HQ := Lib.hid hg.homes
    have HS := Lib.hid hg.sums
    have HRA := Lib.hid ra
    have HRB := Lib.hid rb
    have HL := Lib.hid hlen
    have HDL := Lib.hid hdl
    have HZ := Lib.hid hz
    have bo : -1000000000 ≤ ho ∧ ho ≤ 1000000000 := by have := hg.ao; unfold amt at this; simpa using this
    have bn : -1000000000 ≤ hn ∧ hn ≤ 1000000000 := by have := hg.an; unfold amt at this; simpa using this
    obtain ⟨bo1, bo2⟩ := bo
    obtain ⟨bn1, bn2⟩ := bn
    have hlb : (difs a b).length = b.length := by omega
    have ra' := ra
    have rb' := rb
    clear hs v1 v2 ra rb hz hg hlen hdl
    have HLB := Lib.hid (difs_bound2 a b ra' rb')
    generalize difs a b = l at *
    have hll := HDL.out
    go_enter Try.func4, Try.ntmps4
    go_wp2_with fail
    refine (head_calls w).mono ?_
    rintro e W1 ⟨rfl, X1⟩
    go_wp2_with fail
    refine (s1 W1 X1).mono ?_
    rintro e W2 ⟨v1, rfl, hown1, hx2⟩
    obtain ⟨A1, c1, rfl, R1⟩ := own_rows cells_len hown1 rfl
    have X2 := X1.trans hx2
    clear hown1 s1
    have hcn : (l.length != a.length) = false := by simp [hll]
    go_wp2_with fail
    have b0 := cs_bound2 (l := l) (HLB.out)
    go_loopw [9, 13, 64] (fun u s i wr => ∃ k : Nat, k ≤ l.length ∧ u = .bool true ∧ i = .int .i64 k ∧ s = .int .i64 (hn - ho + cs (l.take k)) ∧ Ext W2 wr) (fun _ _ i _ => l.length - (intOf i).toNat)
    case atStart => exact ⟨0, Nat.zero_le _, rfl, rfl, by simp [cs], Ext.refl _⟩
    case round =>
      obtain ⟨k, hk, rfl, rfl, rfl, hx⟩ := hrel
      by_cases hlt : k < l.length
      · have hxl : l[k]? = some l[k] := List.getElem?_eq_getElem hlt
        have hxa : a[k]? = some a[k] := List.getElem?_eq_getElem (by omega)
        have hxb : b[k]? = some b[k] := List.getElem?_eq_getElem (by omega)
        have hxd : l[k] = dif a[k] b[k] := by have := HD.out k _ _ hxa hxb; rw [hxl] at this; simpa using this
        have hhome := all2_get HQ.out hxa hxb
        have hra := HRA.out a[k] (List.getElem_mem (by omega))
        have hrb := HRB.out b[k] (List.getElem_mem (by omega))
        have hst := cs_take hxl
        have hb1 := cs_bound2 (l := l.take k) (fun x hx => HLB.out x (List.mem_of_mem_take hx))
        have hb2 := HLB.out l[k] (List.getElem_mem hlt)
        have hlen : (l.take k).length ≤ 64 := by simp; omega
        generalize l[k] = z at *
        generalize a[k] = x at *
        generalize b[k] = y at *
        have e1 : z.home = x.home := by rw [hxd]; unfold hq at hhome; simp [dif]; simpa using (by simpa using hhome : x.home = y.home).symm
        have e2 : x.cents + z.cents = y.cents := by rw [hxd]; simp [dif]; omega
        have E1 : (z.home == x.home) = true := by simp [e1]
        unfold chRight at hra hrb
        have E2 : IntKind.i64.wrap (x.cents + z.cents) = y.cents := by rw [e2]; simp [IntKind.wrap, IntKind.signed, IntKind.bits, IntKind.min, IntKind.max]; omega
        clear e1 e2
        obtain ⟨zd, rfl, hlz⟩ := rows_five R1 hxl
        obtain ⟨ad, rfl, hla⟩ := rows_five hA hxa
        obtain ⟨bd, rfl, hlb2⟩ := rows_five hB hxb
        obtain ⟨z0, z1, z2, z3, z4⟩ := hlz wr hx
        have cA := fun W (hW : Ext wr W) => hla W ((X2.trans hx).trans hW)
        have cB := fun W (hW : Ext wr W) => hlb2 W ((X2.trans hx).trans hW)
        clear hlz hla hlb2 hxl hxa hxb hxd hhome
        have b1 : -128000000000 ≤ cs (l.take k) := by omega
        have b2 : cs (l.take k) ≤ 128000000000 := by omega
        obtain ⟨b3, b4⟩ := hb2
        obtain ⟨_, _, xa, xb, xc, xd⟩ := hra
        obtain ⟨_, _, ya, yb, yc, yd⟩ := hrb
        have HST := Lib.hid hst
        clear hst hb1 hlen
        go_wp2_with fail
        obtain ⟨W3, hW3⟩ : ∃ W3, wr.alloc (.cells #[.int .i64 z.home, .int .i64 z.cents, .int .i64 z.lo, .int .i64 z.hi, .bool z.sure] 36) = W3 := ⟨_, rfl⟩
        have hx3 : Ext wr W3 := hW3 ▸ Ext.alloc _ _
        have hcz : W3.heap[wr.heap.size]? = some (.cells #[.int .i64 z.home, .int .i64 z.cents, .int .i64 z.lo, .int .i64 z.hi, .bool z.sure] 36 (0, 0)) := hW3 ▸ heap_alloc_new wr _
        have hzs : wr.heap.size < W3.heap.size := (Array.getElem?_eq_some_iff.1 hcz).1
        have cz : ∀ W, Held (Ext W3) W → W.cell? ⟨wr.heap.size, 0, none⟩ = some (.int .i64 z.home) ∧ W.cell? ⟨wr.heap.size, 1, none⟩ = some (.int .i64 z.cents) := fun W hW =>
          ⟨(Below.cell (p := ⟨wr.heap.size, 0, none⟩) hW hzs).trans (cell_of_row _ _ 0 _ _ _ hcz), (Below.cell (p := ⟨wr.heap.size, 1, none⟩) hW hzs).trans (cell_of_row _ _ 1 _ _ _ hcz)⟩
        have cA' : ∀ W, Held (Ext W3) W → W.cell? (ad.add (k * 5)) = some (.int .i64 x.home) ∧ W.cell? ⟨(ad.add (k * 5)).block, (ad.add (k * 5)).off + 1, none⟩ = some (.int .i64 x.cents) := fun W hW => ⟨(cA W (hx3.trans hW)).1, (cA W (hx3.trans hW)).2.1⟩
        have cB' : ∀ W, Held (Ext W3) W → W.cell? ⟨(bd.add (k * 5)).block, (bd.add (k * 5)).off + 1, none⟩ = some (.int .i64 y.cents) := fun W hW => (cB W (hx3.trans hW)).2.1
        rw [hW3]
        have hka : (k : Int) < (a.length : Int) := by omega
        have hkb : (k : Int) < (b.length : Int) := by omega
        clear hcz hzs hW3 cA cB
        refine wp_region_auto (Ext W3) ((0, none, none) :: (0, none, none) :: (0, some (74, true), none) :: (0, some (74, true), none) :: (0, some (74, true), none) :: (0, some (74, true), none) :: (0, some (74, true), none) :: (0, some (74, true), none) :: (0, some (74, true), none) :: (0, some (74, true), none) :: (0, none, none) :: (0, none, none) :: (0, some (84, true), none) :: (0, some (84, true), none) :: (0, some (84, true), none) :: (0, some (84, true), none) :: (0, some (84, true), none) :: (0, some (84, true), none) :: (0, some (84, true), none) :: (0, some (84, true), none) :: (0, some (84, true), none) :: (0, some (84, true), none) :: (0, some (84, true), none) :: (0, some (84, true), none) :: (0, some (84, true), none) :: (0, some (84, true), none) :: (0, none, none) :: (0, none, none) :: []) (by kernel_rfl) (by kernel_rfl) (fun _ _ d _ _ h => by cases d <;> exact h) (Ext.drew _) ?_
        repeat' (first
          | (with_reducible apply rel_pass
             focus (intro W hW; first | (go_simp; exact rfl) | go_simp)
             simp only [Act.put, List.setIfInBounds_toArray, List.set_cons_zero, List.set_cons_succ])
          | (with_reducible apply rel_yes
             focus (exact rfl))
          | (with_reducible apply rel_no
             focus (exact rfl)
             simp only [Act.put, List.setIfInBounds_toArray, List.set_cons_zero, List.set_cons_succ])
          | (with_reducible apply rel_askF
             focus (exact rfl)
             all_goals (intro hb; simp only [hb, Act.put, List.setIfInBounds_toArray, List.set_cons_zero, List.set_cons_succ]))
          | (with_reducible apply rel_askT
             focus (exact rfl)
             all_goals (intro hb; simp only [hb, Act.put, List.setIfInBounds_toArray, List.set_cons_zero, List.set_cons_succ]))
          | (with_reducible apply rel_front1)
          | (with_reducible apply rel_front2)
          | (with_reducible apply rel_front3)
          | (with_reducible apply rel_front4)
          | (with_reducible apply rel_front5)
          | (with_reducible apply rel_front6))
        apply rel_nil
        simp only [Exit.then, Exit.inBlock]
        go_wp2_with fail
        go_roundw
        case rel => exact ⟨k + 1, by omega, rfl, by go_num, by rw [HST.out]; go_num, hx.trans (hx3.trans (Ext.drew _))⟩
        case measure => simp [intOf]; omega
      · have hk' : l.take k = l := List.take_of_length_le (by omega)
        have hz0 : hn - ho + cs l = 0 := by have := HZ.out; have := HS.out; omega
        rw [hk', hz0]
        clear hk' hz0
        have X3 := X2.trans hx
        go_wp2_with fail
        refine (t1 wr X3).mono ?_
        rintro e W4 ⟨rfl, hx4⟩
        have t2' := t2 W4 (X3.trans hx4)
        have ea : isum (a.map Ch.cents) = cs a := rfl
        have eb : isum (b.map Ch.cents) = cs b := rfl
        have ba := cs_bound2 (l := a) (fun x h => by have := HRA.out x h; unfold chRight at this; omega)
        have bb := cs_bound2 (l := b) (fun x h => by have := HRB.out x h; unfold chRight at this; omega)
        have ba1 : -128000000000 ≤ cs a ∧ cs a ≤ 128000000000 := by omega
        have bb1 : -128000000000 ≤ cs b ∧ cs b ≤ 128000000000 := by omega
        obtain ⟨ba1, ba2⟩ := ba1
        obtain ⟨bb1, bb2⟩ := bb1
        have hE : (cs a + ho == cs b + hn) = true := by simp [HS.out]
        unfold addV
        unfold addV at t2'
        rw [ea]
        rw [eb] at t2'
        clear ba bb ea eb t1 t2
        cases m1 : amt (cs a) <;> cases m2 : amt (cs b)
        all_goals
          rw [m2] at t2'
          clear m1 m2
          go_wp2_with (go_at_call 12; refine t2'.mono ?_; rintro e W5 ⟨rfl, hx5⟩)
        all_goals (go_ret; exact ⟨rfl, X3.trans (hx4.trans hx5)⟩)
end Go.Proofs.Ytffbomfhihhmhaa.Settle
