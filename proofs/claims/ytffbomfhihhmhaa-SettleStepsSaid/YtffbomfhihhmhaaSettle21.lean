/- The law SettleSteps, walked. -/
import Derived.Test.YtffbomfhihhmhaaSettle19
set_option linter.unusedSimpArgs false
set_option linter.unusedVariables false
namespace Go.Proofs.Ytffbomfhihhmhaa.Settle
open Go Go.RowKit Go.Shelf Go.Proofs.Ytffbomfhihhmhaa.Ord Go.Proofs.Ytffbomfhihhmhaa.OrdI Go.Proofs.Ytffbomfhihhmhaa.Base

theorem hq_trans (x y z : Ch) (h1 : hq x y = true) (h2 : hq y z = true) : hq x z = true := by
  unfold hq at *; simp at *; omega
theorem wq_trans (x y z : Ch) (h1 : wq x y = true) (h2 : wq y z = true) : wq x z = true := by
  unfold wq at *; simp at *; omega
theorem settle_ac {a b c : List Ch} {ho hm hn : Int} (h1 : Good a b ho hm) (h2 : Good b c hm hn) : settleS a c ho hn = ⟨[], 0, 3⟩ ∨ (settleS a c ho hn = ⟨difs a c, hn - ho, 0⟩ ∧ Good a c ho hn) := by
  have e1 : all2 hq a c = true := all2_trans hq_trans h1.homes h2.homes
  have e2 : all2 wq a c = true := all2_trans wq_trans h1.within h2.within
  have e3 : cs a + ho = cs c + hn := h1.sums.trans h2.sums
  unfold settleS
  rw [if_neg (by simp [h1.ca, h2.cb, e1, h1.ao, h2.an]), if_neg (by simp [e2]), if_neg (by simp [e3])]
  by_cases h4 : (!(all2 difOk a c && amt (hn - ho))) = true
  · rw [if_pos h4]; exact .inl rfl
  · rw [if_neg h4]
    simp at h4
    exact .inr ⟨rfl, h1.ca, h2.cb, e1, h1.ao, h2.an, e2, e3, h4.1, h4.2⟩

/-- What the law asks of a home's three settlements. -/
structure Stp (u t v : Ch) : Prop where
  c : u.cents + t.cents = v.cents
  s : v.sure = t.sure
  h : v.home = u.home
  lo : u.lo ≤ v.cents
  hi : v.cents ≤ u.hi
  l : t.lo + u.cents = v.lo
  r : t.hi + u.cents = v.hi
  b1 : -2000000000 ≤ u.cents ∧ u.cents ≤ 2000000000
  b2 : -2000000000 ≤ t.cents ∧ t.cents ≤ 2000000000
  b3 : -2000000000 ≤ t.lo ∧ t.lo ≤ 2000000000
  b4 : -2000000000 ≤ t.hi ∧ t.hi ≤ 2000000000
theorem stp {x y z : Ch} (hx : chRight x) (hy : chRight y) (hz : chRight z) (h1 : hq y z = true) (h2 : wq y z = true) : Stp (dif x y) (dif y z) (dif x z) := by
  unfold chRight at hx hy hz
  unfold hq at h1
  unfold wq at h2
  simp at h1 h2
  constructor <;> simp only [dif] <;> first | rfl | omega

set_option maxRecDepth 100000 in
set_option maxHeartbeats 4000000 in
theorem steps_calls (a b c : List Ch) (m1 m2 m3 : Int) (A B C : Option Addr) (ca cb cc : Nat) (w : World) (ha : a.length ≤ 9223372036854775807) (hb : b.length ≤ 9223372036854775807) (hc : c.length ≤ 9223372036854775807)
    (hA : RowsOf w 5 Ch.cells A a) (hB : RowsOf w 5 Ch.cells B b) (hC : RowsOf w 5 Ch.cells C c) :
    Calls Try.prog 6 #[.slice A a.length ca, .slice B b.length cb, .slice C c.length cc, .int .i64 m1, .int .i64 m2, .int .i64 m3] w fun e w' => e = .returned (.bool true) ∧ Ext w w' := by
  have s1 := fun W (h : Ext w W) => Settle_calls a b m1 m2 A B ca cb W ha hb (hA.ext h) (hB.ext h)
  have s2 := fun W (h : Ext w W) => Settle_calls b c m2 m3 B C cb cc W hb hc (hB.ext h) (hC.ext h)
  have s3 := fun W (h : Ext w W) => Settle_calls a c m1 m3 A C ca cc W ha hc (hA.ext h) (hC.ext h)
  rcases settle_or a b m1 m2 with ⟨er, he, hs⟩ | ⟨hs, hg⟩
  · rw [hs] at s1
    clear hs s3
    generalize settleS b c m2 m3 = r at *
    go_enter Try.func6, Try.ntmps6
    go_wp2_with fail
    refine (head_calls w).mono ?_
    rintro e W1 ⟨rfl, X1⟩
    go_wp2_with fail
    refine (s1 W1 X1).mono ?_
    rintro e W2 ⟨v1, rfl, hown1, hx2⟩
    have hne : (er != 0) = true := by simpa using he
    go_wp2_with fail
    refine (s2 W2 (X1.trans hx2)).mono ?_
    rintro e W3 ⟨v2, rfl, hown2, hx3⟩
    go_wp2_with fail
    go_ret
    exact ⟨rfl, (X1.trans hx2).trans hx3⟩
  · rcases settle_or b c m2 m3 with ⟨er, he, hs2⟩ | ⟨hs2, hg2⟩
    · rw [hs] at s1
      rw [hs2] at s2
      clear hs s3 hs2 hg
      generalize difs a b = l1 at *
      go_enter Try.func6, Try.ntmps6
      go_wp2_with fail
      refine (head_calls w).mono ?_
      rintro e W1 ⟨rfl, X1⟩
      go_wp2_with fail
      refine (s1 W1 X1).mono ?_
      rintro e W2 ⟨v1, rfl, hown1, hx2⟩
      have hne : (er != 0) = true := by simpa using he
      go_wp2_with fail
      refine (s2 W2 (X1.trans hx2)).mono ?_
      rintro e W3 ⟨v2, rfl, hown2, hx3⟩
      go_wp2_with fail
      go_ret
      exact ⟨rfl, (X1.trans hx2).trans hx3⟩
    · rcases settle_ac hg hg2 with hs3 | ⟨hs3, hg3⟩
      · rw [hs] at s1
        rw [hs2] at s2
        rw [hs3] at s3
        clear hs hs2 hs3 hg hg2
        generalize difs a b = l1 at *
        generalize difs b c = l2 at *
        go_enter Try.func6, Try.ntmps6
        go_wp2_with fail
        refine (head_calls w).mono ?_
        rintro e W1 ⟨rfl, X1⟩
        go_wp2_with fail
        refine (s1 W1 X1).mono ?_
        rintro e W2 ⟨v1, rfl, hown1, hx2⟩
        go_wp2_with fail
        refine (s2 W2 (X1.trans hx2)).mono ?_
        rintro e W3 ⟨v2, rfl, hown2, hx3⟩
        go_wp2_with fail
        refine (s3 W3 ((X1.trans hx2).trans hx3)).mono ?_
        rintro e W4 ⟨v3, rfl, hown3, hx4⟩
        go_wp2_with fail
        go_ret
        exact ⟨rfl, ((X1.trans hx2).trans hx3).trans hx4⟩
      · rw [hs] at s1
        rw [hs2] at s2
        rw [hs3] at s3
        have n1 := all2_eq_len hg.homes
        have n2 := all2_eq_len hg2.homes
        have d1 := difs_len a b n1
        have d2 := difs_len b c n2
        have d3 := difs_len a c (n1.trans n2)
        obtain ⟨la, ra⟩ := charges_right hg.ca
        obtain ⟨lb, rb⟩ := charges_right hg.cb
        obtain ⟨lc, rc⟩ := charges_right hg2.cb
        have HK : Hid (∀ (k : Nat) (u t v : Ch), (difs a b)[k]? = some u → (difs b c)[k]? = some t → (difs a c)[k]? = some v → Stp u t v) := by
          intro k u t v hu ht hv
          have hk : k < a.length := by have := (List.getElem?_eq_some_iff.1 hu).1; omega
          have xa : a[k]? = some a[k] := List.getElem?_eq_getElem hk
          have xb : b[k]? = some b[k] := List.getElem?_eq_getElem (by omega)
          have xc : c[k]? = some c[k] := List.getElem?_eq_getElem (by omega)
          rw [difs_get a b k _ _ xa xb] at hu
          rw [difs_get b c k _ _ xb xc] at ht
          rw [difs_get a c k _ _ xa xc] at hv
          cases hu
          cases ht
          cases hv
          exact stp (ra _ (List.mem_of_getElem? xa)) (rb _ (List.mem_of_getElem? xb)) (rc _ (List.mem_of_getElem? xc)) (all2_get hg2.homes xb xc) (all2_get hg2.within xb xc)
        have bo : -1000000000 ≤ m1 ∧ m1 ≤ 1000000000 := by have := hg.ao; unfold amt at this; simpa using this
        have bm : -1000000000 ≤ m2 ∧ m2 ≤ 1000000000 := by have := hg.an; unfold amt at this; simpa using this
        have bn : -1000000000 ≤ m3 ∧ m3 ≤ 1000000000 := by have := hg2.an; unfold amt at this; simpa using this
        obtain ⟨bo1, bo2⟩ := bo
        obtain ⟨bm1, bm2⟩ := bm
        obtain ⟨bn1, bn2⟩ := bn
        clear hs hs2 hs3 hg hg2 hg3 ra rb rc
        generalize difs a b = l1 at *
        generalize difs b c = l2 at *
        generalize difs a c = l3 at *
        have hm : (m3 - m1 != m2 - m1 + (m3 - m2)) = false := by simp; omega
        have e1 : l1.length = l3.length := by omega
        have e2 : l2.length = l3.length := by omega
        have e3 : a.length = l3.length := by omega
        have l64 : l3.length ≤ 64 := by omega
        have HE1 := Lib.hid e1
        have HE2 := Lib.hid e2
        have HE3 := Lib.hid e3
        clear d1 d2 d3 n1 n2 la lb lc e1 e2 e3
        go_enter Try.func6, Try.ntmps6
        go_wp2_with fail
        refine (head_calls w).mono ?_
        rintro e W1 ⟨rfl, X1⟩
        go_wp2_with fail
        refine (s1 W1 X1).mono ?_
        rintro e W2 ⟨v1, rfl, hown1, hx2⟩
        obtain ⟨A1, c1, rfl, R1⟩ := own_rows cells_len hown1 rfl
        go_wp2_with fail
        refine (s2 W2 (X1.trans hx2)).mono ?_
        rintro e W3 ⟨v2, rfl, hown2, hx3⟩
        obtain ⟨A2, c2, rfl, R2⟩ := own_rows cells_len hown2 rfl
        go_wp2_with fail
        refine (s3 W3 ((X1.trans hx2).trans hx3)).mono ?_
        rintro e W4 ⟨v3, rfl, hown3, hx4⟩
        obtain ⟨A3, c3, rfl, R3⟩ := own_rows cells_len hown3 rfl
        have X4 := ((X1.trans hx2).trans hx3).trans hx4
        have R1 := R1.ext (hx3.trans hx4)
        have R2 := R2.ext hx4
        clear hown1 hown2 hown3 s1 s2 s3
        have e1 := HE1.out
        have e2 := HE2.out
        have e3 := HE3.out
        go_wp2_with fail
        clear e1 e2 e3
        go_loopw [13, 94] (fun uu i wr => ∃ k : Nat, k ≤ l3.length ∧ uu = .bool true ∧ i = .int .i64 k ∧ Ext W4 wr) (fun _ i _ => l3.length - (intOf i).toNat)
        case atStart => exact ⟨0, Nat.zero_le _, rfl, rfl, Ext.refl _⟩
        case round =>
          obtain ⟨k, hk, rfl, rfl, hx⟩ := hrel
          by_cases hlt : k < l3.length
          · have hlt1 : k < l1.length := by have := HE1.out; omega
            have hlt2 : k < l2.length := by have := HE2.out; omega
            have x1 : l1[k]? = some l1[k] := List.getElem?_eq_getElem hlt1
            have x2 : l2[k]? = some l2[k] := List.getElem?_eq_getElem hlt2
            have x3 : l3[k]? = some l3[k] := List.getElem?_eq_getElem hlt
            have hst := HK.out k _ _ _ x1 x2 x3
            generalize l1[k] = u at *
            generalize l2[k] = t at *
            generalize l3[k] = v at *
            obtain ⟨d1, rfl, hl1⟩ := rows_five R1 x1
            obtain ⟨d2, rfl, hl2⟩ := rows_five R2 x2
            obtain ⟨d3, rfl, hl3⟩ := rows_five R3 x3
            have c1' : ∀ W, Held (Ext wr) W → _ := fun W hW => hl1 W (hx.trans hW)
            have c2' : ∀ W, Held (Ext wr) W → _ := fun W hW => hl2 W (hx.trans hW)
            have c3' : ∀ W, Held (Ext wr) W → _ := fun W hW => hl3 W (hx.trans hW)
            obtain ⟨a0, a1, a2, a3, a4⟩ := hl1 wr.drew (hx.trans (Ext.drew _))
            obtain ⟨p0, p1, p2, p3, p4⟩ := hl2 wr.drew (hx.trans (Ext.drew _))
            obtain ⟨q0, q1, q2, q3, q4⟩ := hl3 wr.drew (hx.trans (Ext.drew _))
            obtain ⟨sc, ss, sh, slo, shi, sl, sr, ⟨b1, b1'⟩, ⟨b2, b2'⟩, ⟨b3, b3'⟩, ⟨b4, b4'⟩⟩ := hst
            have w1 : IntKind.i64.wrap (u.cents + t.cents) = v.cents := by rw [← sc]; simp [IntKind.wrap, IntKind.signed, IntKind.bits, IntKind.min, IntKind.max]; omega
            simp only [ss, sh] at c3' q0 q4
            have wl : IntKind.i64.wrap v.lo = v.lo := by rw [← sl]; simp [IntKind.wrap, IntKind.signed, IntKind.bits, IntKind.min, IntKind.max]; omega
            have wh : IntKind.i64.wrap v.hi = v.hi := by rw [← sr]; simp [IntKind.wrap, IntKind.signed, IntKind.bits, IntKind.min, IntKind.max]; omega
            have hk1 : (k : Int) < (l1.length : Int) := by omega
            have hk2 : (k : Int) < (l2.length : Int) := by omega
            have hk3 : (k : Int) < (l3.length : Int) := by omega
            have SC := Lib.hid sc
            clear hl1 hl2 hl3 x1 x2 x3 ss sh sc
            go_wp2_with fail
            refine wp_region_auto (Ext wr) ((0, none, none) :: (0, none, none) :: (0, some (98, true), none) :: (0, some (98, true), none) :: (0, some (98, true), none) :: (0, some (98, true), none) :: (0, some (98, true), none) :: (0, some (98, true), none) :: (0, some (98, true), none) :: (0, some (98, true), none) :: (0, some (98, true), none) :: (0, some (98, true), none) :: (0, some (98, true), none) :: (0, some (98, true), none) :: (0, some (98, true), none) :: (0, some (98, true), none) :: (0, some (98, true), none) :: (0, some (98, true), none) :: (0, some (98, true), none) :: (0, none, none) :: (0, none, none) :: (0, some (117, true), none) :: (0, some (117, true), none) :: (0, some (117, true), none) :: (0, some (117, true), none) :: (0, some (117, true), none) :: (0, some (117, true), none) :: (0, some (117, true), none) :: (0, some (117, true), none) :: (0, some (117, true), none) :: (0, some (117, true), none) :: (0, some (117, true), none) :: (0, none, none) :: (0, none, none) :: (0, some (130, true), none) :: (0, some (130, true), none) :: (0, some (130, true), none) :: (0, some (130, true), none) :: (0, some (130, true), none) :: (0, some (130, true), none) :: (0, some (130, true), none) :: (0, some (130, true), none) :: (0, some (130, true), none) :: (0, some (130, true), none) :: (0, some (130, true), none) :: (0, none, none) :: (0, none, none) :: []) (by kernel_rfl) (by kernel_rfl) (fun _ _ d _ _ h => by cases d <;> exact h) (Ext.drew _) ?_
            repeat' (first
              | (with_reducible apply rel_pass
                 focus (intro W hW; first | (go_simp; exact rfl) | go_simp)
                 simp only [Act.put, List.setIfInBounds_toArray, List.set_cons_zero, List.set_cons_succ])
              | (with_reducible apply rel_yes
                 focus (exact rfl))
              | (with_reducible apply rel_no
                 focus (exact rfl)
                 simp only [Act.put, List.setIfInBounds_toArray, List.set_cons_zero, List.set_cons_succ])
              | (with_reducible apply rel_askF
                 focus (exact rfl)
                 all_goals (intro hb; simp only [hb, Act.put, List.setIfInBounds_toArray, List.set_cons_zero, List.set_cons_succ]))
              | (with_reducible apply rel_askT
                 focus (exact rfl)
                 all_goals (intro hb; simp only [hb, Act.put, List.setIfInBounds_toArray, List.set_cons_zero, List.set_cons_succ]))
              | (with_reducible apply rel_front1)
              | (with_reducible apply rel_front2)
              | (with_reducible apply rel_front3)
              | (with_reducible apply rel_front4)
              | (with_reducible apply rel_front5)
              | (with_reducible apply rel_front6))
            apply rel_nil
            simp only [Exit.then, Exit.inBlock]
            go_wp2_with fail
            simp only [List.append_eq, List.cons_append, List.nil_append]
            go_wp2_with fail
            refine wp_region_auto (Ext wr) ((0, none, none) :: (0, none, none) :: (0, some (144, true), none) :: (0, some (144, true), none) :: (0, some (144, true), none) :: (0, some (144, true), none) :: (0, some (144, true), none) :: (0, some (144, true), none) :: (0, some (144, true), none) :: (0, some (144, true), none) :: (0, some (144, true), none) :: (0, some (144, true), none) :: (0, some (144, true), none) :: (0, some (144, true), none) :: (0, none, none) :: (0, none, none) :: (0, some (158, true), none) :: (0, some (158, true), none) :: (0, some (158, true), none) :: (0, some (158, true), none) :: (0, some (158, true), none) :: (0, some (158, true), none) :: (0, some (158, true), none) :: (0, some (158, true), none) :: (0, some (158, true), none) :: (0, some (158, true), none) :: (0, some (158, true), none) :: (0, some (158, true), none) :: (0, none, none) :: (0, none, none) :: (0, some (172, true), none) :: (0, some (172, true), none) :: (0, some (172, true), none) :: (0, some (172, true), none) :: (0, some (172, true), none) :: (0, some (172, true), none) :: (0, some (172, true), none) :: (0, some (172, true), none) :: (0, some (172, true), none) :: (0, some (172, true), none) :: (0, some (172, true), none) :: (0, some (172, true), none) :: (0, some (172, true), none) :: (0, some (172, true), none) :: (0, some (172, true), none) :: (0, some (172, true), none) :: (0, some (172, true), none) :: (0, some (172, true), none) :: (0, some (172, true), none) :: (0, none, none) :: (0, none, none) :: (0, some (193, true), none) :: (0, some (193, true), none) :: (0, some (193, true), none) :: (0, some (193, true), none) :: (0, some (193, true), none) :: (0, some (193, true), none) :: (0, some (193, true), none) :: (0, some (193, true), none) :: (0, some (193, true), none) :: (0, some (193, true), none) :: (0, some (193, true), none) :: (0, some (193, true), none) :: (0, some (193, true), none) :: (0, some (193, true), none) :: (0, some (193, true), none) :: (0, some (193, true), none) :: (0, some (193, true), none) :: (0, some (193, true), none) :: (0, some (193, true), none) :: (0, none, none) :: (0, none, none) :: []) (by kernel_rfl) (by kernel_rfl) (fun _ _ d _ _ h => by cases d <;> exact h) ((Ext.drew _).trans (Ext.drew _)) ?_
            repeat' (first
              | (with_reducible apply rel_pass
                 focus (intro W hW; first | (go_simp; exact rfl) | go_simp)
                 simp only [Act.put, List.setIfInBounds_toArray, List.set_cons_zero, List.set_cons_succ])
              | (with_reducible apply rel_yes
                 focus (exact rfl))
              | (with_reducible apply rel_no
                 focus (exact rfl)
                 simp only [Act.put, List.setIfInBounds_toArray, List.set_cons_zero, List.set_cons_succ])
              | (with_reducible apply rel_askF
                 focus (exact rfl)
                 all_goals (intro hb; simp only [hb, Act.put, List.setIfInBounds_toArray, List.set_cons_zero, List.set_cons_succ]))
              | (with_reducible apply rel_askT
                 focus (exact rfl)
                 all_goals (intro hb; simp only [hb, Act.put, List.setIfInBounds_toArray, List.set_cons_zero, List.set_cons_succ]))
              | (with_reducible apply rel_front1)
              | (with_reducible apply rel_front2)
              | (with_reducible apply rel_front3)
              | (with_reducible apply rel_front4)
              | (with_reducible apply rel_front5)
              | (with_reducible apply rel_front6))
            apply rel_nil
            simp only [Exit.then, Exit.inBlock]
            go_wp2_with fail
            exact ⟨⟨k + 1, by omega, rfl, by simp, hx.trans ((Ext.drew _).trans (Ext.drew _))⟩, by simp [intOf]; omega⟩
          · go_wp2_with fail
            go_ret
            exact ⟨rfl, X4.trans hx⟩
end Go.Proofs.Ytffbomfhihhmhaa.Settle
