/- The law SettleSure, walked. -/
import Derived.Test.YtffbomfhihhmhaaSettle15
set_option linter.unusedSimpArgs false
set_option linter.unusedVariables false
namespace Go.Proofs.Ytffbomfhihhmhaa.Settle
open Go Go.RowKit Go.Shelf Go.Proofs.Ytffbomfhihhmhaa.Ord Go.Proofs.Ytffbomfhihhmhaa.OrdI Go.Proofs.Ytffbomfhihhmhaa.Base

theorem chBad_sure {ks : List Int} {x : Ch} (h : chBad ks x = false) : x.sure = (x.hi == x.lo) := by
  unfold chBad at h
  simp only [Bool.or_eq_false_iff] at h
  have := h.2
  cases hs : x.sure <;> cases hq : (x.hi == x.lo) <;> simp_all
theorem chGo_sure : ∀ (l : List Ch) (ks : List Int), chGo ks l = true → ∀ x ∈ l, x.sure = (x.hi == x.lo)
  | [], _, _, x, hx => by simp at hx
  | y :: r, ks, h, x, hx => by
    simp only [chGo, Bool.and_eq_true, Bool.not_eq_true'] at h
    rcases List.mem_cons.1 hx with rfl | hx
    · exact chBad_sure h.1
    · exact chGo_sure r _ h.2 x hx
theorem charges_sure {l : List Ch} (h : charges l = true) : ∀ x ∈ l, x.sure = (x.hi == x.lo) := by
  unfold charges at h
  simp only [Bool.and_eq_true] at h
  exact chGo_sure l [] h.1

/-- A sure charge stays what it was. -/
theorem sure_stays {x y : Ch} (hx : chRight x) (hy : chRight y) (sx : x.sure = (x.hi == x.lo)) (sy : y.sure = (y.hi == y.lo)) (hw : wq x y = true) (hs : x.sure = true) : y.cents = x.cents ∧ y.lo = x.cents ∧ y.hi = x.cents ∧ y.sure = true := by
  rw [hs] at sx
  have h1 : x.hi = x.lo := by simpa using sx.symm
  unfold wq at hw
  simp at hw
  unfold chRight at hx hy
  have h2 : y.hi = y.lo := by omega
  exact ⟨by omega, by omega, by omega, by rw [sy]; simpa using h2⟩
theorem all_sure : ∀ (a b : List Ch), (∀ x ∈ a, chRight x) → (∀ x ∈ b, chRight x) → (∀ x ∈ a, x.sure = (x.hi == x.lo)) → (∀ x ∈ b, x.sure = (x.hi == x.lo)) → all2 wq a b = true → a.all (·.sure) = true → cs b = cs a
  | [], [], _, _, _, _, _, _ => rfl
  | [], _ :: _, _, _, _, _, h, _ => by simp [all2] at h
  | _ :: _, [], _, _, _, _, h, _ => by simp [all2] at h
  | x :: a, y :: b, ra, rb, sa, sb, h, hs => by
    simp only [all2, Bool.and_eq_true] at h
    simp only [List.all_cons, Bool.and_eq_true] at hs
    have ih := all_sure a b (fun z hz => ra z (by simp [hz])) (fun z hz => rb z (by simp [hz])) (fun z hz => sa z (by simp [hz])) (fun z hz => sb z (by simp [hz])) h.2 hs.2
    have h1 := (sure_stays (ra x (by simp)) (rb y (by simp)) (sa x (by simp)) (sb y (by simp)) h.1 hs.1).1
    simp only [cs, List.map_cons, List.sum_cons] at ih ⊢
    omega
theorem all_take {a : List Ch} {k : Nat} {x : Ch} (h : a[k]? = some x) : (a.take (k + 1)).all (·.sure) = ((a.take k).all (·.sure) && x.sure) := by
  rw [List.take_add_one, h, List.all_append]
  simp

set_option maxRecDepth 100000 in
set_option maxHeartbeats 4000000 in
theorem sure_calls (a b : List Ch) (ho hn : Int) (A B : Option Addr) (c d : Nat) (w : World) (ha : a.length ≤ 9223372036854775807) (hb : b.length ≤ 9223372036854775807)
    (hA : RowsOf w 5 Ch.cells A a) (hB : RowsOf w 5 Ch.cells B b) :
    Calls Try.prog 7 #[.slice A a.length c, .slice B b.length d, .int .i64 ho, .int .i64 hn] w fun e w' => e = .returned (.bool true) ∧ Ext w w' := by
  have s1 := fun W (h : Ext w W) => Settle_calls a b ho hn A B c d W ha hb (hA.ext h) (hB.ext h)
  rcases settle_or a b ho hn with ⟨er, he, hs⟩ | ⟨hs, hg⟩
  · rw [hs] at s1
    clear hs
    go_enter Try.func7, Try.ntmps7
    go_wp2_with fail
    refine (head_calls w).mono ?_
    rintro e W1 ⟨rfl, X1⟩
    go_wp2_with fail
    refine (s1 W1 X1).mono ?_
    rintro e W2 ⟨v1, rfl, hown1, hx2⟩
    have hne : (er != 0) = true := by simpa using he
    go_wp2_with fail
    go_ret
    exact ⟨rfl, X1.trans hx2⟩
  · rw [hs] at s1
    have hlen := all2_eq_len hg.homes
    obtain ⟨la, ra⟩ := charges_right hg.ca
    obtain ⟨lb, rb⟩ := charges_right hg.cb
    have hdl := difs_len a b hlen
    have hall : a.all (·.sure) = true → hn - ho = 0 := fun h => by
      have h1 := all_sure a b ra rb (charges_sure hg.ca) (charges_sure hg.cb) hg.within h
      have := hg.sums
      omega
    have HALL := Lib.hid hall
    have HST : Hid (∀ (k : Nat) (x y : Ch), a[k]? = some x → b[k]? = some y → x.sure = true → y.cents = x.cents ∧ y.lo = x.cents ∧ y.hi = x.cents ∧ y.sure = true) := fun k x y h1 h2 hs =>
      sure_stays (ra x (List.mem_of_getElem? h1)) (rb y (List.mem_of_getElem? h2)) (charges_sure hg.ca x (List.mem_of_getElem? h1)) (charges_sure hg.cb y (List.mem_of_getElem? h2)) (all2_get hg.within h1 h2) hs
    have HD := Lib.hid (difs_get a b)
    have HL := Lib.hid hlen
    have HDL := Lib.hid hdl
    have hlb : (difs a b).length = b.length := by omega
    clear hs ra rb hg hlen hdl hall
    generalize difs a b = l at *
    have hll := HDL.out
    go_enter Try.func7, Try.ntmps7
    go_wp2_with fail
    refine (head_calls w).mono ?_
    rintro e W1 ⟨rfl, X1⟩
    go_wp2_with fail
    refine (s1 W1 X1).mono ?_
    rintro e W2 ⟨v1, rfl, hown1, hx2⟩
    obtain ⟨A1, c1, rfl, R1⟩ := own_rows cells_len hown1 rfl
    have X2 := X1.trans hx2
    clear hown1 s1
    have hcn : (l.length != a.length) = false := by simp [hll]
    go_wp2_with fail
    go_loopw [9, 13, 42] (fun u s i wr => ∃ k : Nat, k ≤ l.length ∧ u = .bool true ∧ i = .int .i64 k ∧ s = .bool ((a.take k).all (·.sure)) ∧ Ext W2 wr) (fun _ _ i _ => l.length - (intOf i).toNat)
    case atStart => exact ⟨0, Nat.zero_le _, rfl, rfl, by simp, Ext.refl _⟩
    case round =>
      obtain ⟨k, hk, rfl, rfl, rfl, hx⟩ := hrel
      by_cases hlt : k < l.length
      · have hxl : l[k]? = some l[k] := List.getElem?_eq_getElem hlt
        have hxa : a[k]? = some a[k] := List.getElem?_eq_getElem (by omega)
        have hxb : b[k]? = some b[k] := List.getElem?_eq_getElem (by omega)
        have hxd : l[k] = dif a[k] b[k] := by have := HD.out k _ _ hxa hxb; rw [hxl] at this; simpa using this
        have hsy := HST.out k _ _ hxa hxb
        have hta := all_take hxa
        generalize l[k] = z at *
        generalize a[k] = x at *
        generalize b[k] = y at *
        obtain ⟨zd, rfl, hlz⟩ := rows_five R1 hxl
        obtain ⟨ad, rfl, hla⟩ := rows_five hA hxa
        obtain ⟨bd, rfl, hlb2⟩ := rows_five hB hxb
        obtain ⟨a0, a1, a2, a3, a4⟩ := hla wr (X2.trans hx)
        have cZ : ∀ W, Held (Ext wr) W → _ := fun W hW => hlz W (hx.trans hW)
        have cA : ∀ W, Held (Ext wr) W → _ := fun W hW => hla W ((X2.trans hx).trans hW)
        have cB : ∀ W, Held (Ext wr) W → _ := fun W hW => hlb2 W ((X2.trans hx).trans hW)
        obtain ⟨ad0, ad1, ad2, ad3, ad4⟩ := hla wr.drew ((X2.trans hx).trans (Ext.drew _))
        have hka : (k : Int) < (a.length : Int) := by omega
        have hkb : (k : Int) < (b.length : Int) := by omega
        have HTA := Lib.hid hta
        clear hlz hla hlb2 hxl hxa hxb hta
        generalize List.all (List.take k a) (fun x => x.sure) = acc at *
        cases hs : x.sure with
        | false =>
          rw [hs] at a4 ad4
          clear hsy hxd
          go_wp2_with fail
          all_goals exact ⟨⟨k + 1, by omega, rfl, by simp, by rw [HTA.out, hs, Bool.and_false], hx⟩, by simp [intOf]; omega⟩
        | true =>
          obtain ⟨y1, y2, y3, y4⟩ := hsy hs
          have z1 : z.cents = 0 := by rw [hxd]; simp [dif]; omega
          have z2 : z.lo = 0 := by rw [hxd]; simp [dif]; omega
          have z3 : z.hi = 0 := by rw [hxd]; simp [dif]; omega
          have z4 : z.sure = true := by rw [hxd]; simp [dif, y4]
          simp only [hs, z1, z2, z3, z4, y1] at a4 ad4 cA cB cZ
          clear hsy hxd y1 y2 y3 y4 z1 z2 z3 z4
          go_wp2_with fail
          refine wp_region_auto (Ext wr) ((0, none, none) :: (0, none, none) :: (0, some (51, true), none) :: (0, some (51, true), none) :: (0, some (51, true), none) :: (0, some (51, true), none) :: (0, some (51, true), none) :: (0, some (51, true), none) :: (0, none, none) :: (0, none, none) :: (0, some (59, true), none) :: (0, some (59, true), none) :: (0, some (59, true), none) :: (0, some (59, true), none) :: (0, some (59, true), none) :: (0, none, none) :: (0, none, none) :: (0, some (66, true), none) :: (0, some (66, true), none) :: (0, some (66, true), none) :: (0, some (66, true), none) :: (0, some (66, true), none) :: (0, some (66, true), none) :: (0, some (66, true), none) :: (0, none, none) :: (0, none, none) :: (0, some (75, true), none) :: (0, some (75, true), none) :: (0, some (75, true), none) :: (0, some (75, true), none) :: (0, some (75, true), none) :: (0, some (75, true), none) :: (0, some (75, true), none) :: (0, some (75, true), none) :: (0, some (75, true), none) :: (0, some (75, true), none) :: (0, some (75, true), none) :: (0, none, none) :: (0, none, none) :: []) (by kernel_rfl) (by kernel_rfl) (fun _ _ d _ _ h => by cases d <;> exact h) (Ext.drew _) ?_
          repeat' (first
            | (with_reducible apply rel_pass
               focus (intro W hW; first | (go_simp; exact rfl) | go_simp)
               simp only [Act.put, List.setIfInBounds_toArray, List.set_cons_zero, List.set_cons_succ])
            | (with_reducible apply rel_yes
               focus (exact rfl))
            | (with_reducible apply rel_no
               focus (exact rfl)
               simp only [Act.put, List.setIfInBounds_toArray, List.set_cons_zero, List.set_cons_succ])
            | (with_reducible apply rel_askF
               focus (exact rfl)
               all_goals (intro hb; simp only [hb, Act.put, List.setIfInBounds_toArray, List.set_cons_zero, List.set_cons_succ]))
            | (with_reducible apply rel_askT
               focus (exact rfl)
               all_goals (intro hb; simp only [hb, Act.put, List.setIfInBounds_toArray, List.set_cons_zero, List.set_cons_succ]))
            | (with_reducible apply rel_front1)
            | (with_reducible apply rel_front2)
            | (with_reducible apply rel_front3)
            | (with_reducible apply rel_front4)
            | (with_reducible apply rel_front5)
            | (with_reducible apply rel_front6))
          apply rel_nil
          simp only [Exit.then, Exit.inBlock]
          go_wp2_with fail
          all_goals exact ⟨⟨k + 1, by omega, rfl, by simp, by rw [HTA.out, hs]; simp_all, hx.trans (Ext.drew _)⟩, by simp [intOf]; omega⟩
      · have hk' : a.take k = a := List.take_of_length_le (by omega)
        rw [hk']
        clear hk'
        cases hacc : a.all (·.sure) with
        | false =>
          go_wp2_with fail
          go_ret
          exact ⟨rfl, X2.trans hx⟩
        | true =>
          have h0 := HALL.out hacc
          rw [h0]
          clear hacc h0
          go_wp2_with fail
          go_ret
          exact ⟨rfl, X2.trans hx⟩
end Go.Proofs.Ytffbomfhihhmhaa.Settle
