/- The law SettleOrder, walked. -/
import Derived.Test.YtffbomfhihhmhaaSettle17
set_option linter.unusedSimpArgs false
set_option linter.unusedVariables false
namespace Go.Proofs.Ytffbomfhihhmhaa.Settle
open Go Go.RowKit Go.Shelf Go.Proofs.Ytffbomfhihhmhaa.Ord Go.Proofs.Ytffbomfhihhmhaa.OrdI Go.Proofs.Ytffbomfhihhmhaa.Base

def wl (a b : List Ch) : Bool := charges a && charges b && all2 hq a b && all2 wq a b
theorem all2_self {p : Ch → Ch → Bool} (h : ∀ x, p x x = true) : ∀ (l : List Ch), all2 p l l = true
  | [] => rfl
  | x :: l => by simp [all2, h, all2_self h l]
theorem wl_self (a : List Ch) : wl a a = charges a := by
  unfold wl
  rw [all2_self (fun x => by simp [hq]) a, all2_self (fun x => by simp [wq]) a]
  simp
theorem all2_trans {p : Ch → Ch → Bool} (h : ∀ x y z, p x y = true → p y z = true → p x z = true) : ∀ {a b c : List Ch}, all2 p a b = true → all2 p b c = true → all2 p a c = true
  | [], [], [], _, _ => rfl
  | [], [], _ :: _, _, h2 => by simp [all2] at h2
  | [], _ :: _, _, h1, _ => by simp [all2] at h1
  | _ :: _, [], _, h1, _ => by simp [all2] at h1
  | _ :: _, _ :: _, [], _, h2 => by simp [all2] at h2
  | x :: a, y :: b, z :: c, h1, h2 => by
    simp only [all2, Bool.and_eq_true] at h1 h2 ⊢
    exact ⟨h _ _ _ h1.1 h2.1, all2_trans h h1.2 h2.2⟩
theorem wl_trans {a b c : List Ch} (h1 : wl a b = true) (h2 : wl b c = true) : wl a c = true := by
  unfold wl at *
  simp only [Bool.and_eq_true] at *
  refine ⟨⟨⟨h1.1.1.1, h2.1.1.2⟩, all2_trans (fun x y z e1 e2 => ?_) h1.1.2 h2.1.2⟩, all2_trans (fun x y z e1 e2 => ?_) h1.2 h2.2⟩
  · unfold hq at *; simp at *; omega
  · unfold wq at *; simp at *; omega

theorem wl_anti {a b : List Ch} (h1 : wl a b = true) (h2 : wl b a = true) : a.length = b.length ∧ ∀ (k : Nat) (x y : Ch), a[k]? = some x → b[k]? = some y → x.lo = y.lo ∧ x.hi = y.hi ∧ x.home = y.home := by
  unfold wl at *
  simp only [Bool.and_eq_true] at *
  refine ⟨all2_eq_len h1.1.2, fun k x y hx hy => ?_⟩
  have e1 := all2_get h1.1.2 hx hy
  have e2 := all2_get h1.2 hx hy
  have e3 := all2_get h2.2 hy hx
  unfold hq at e1
  unfold wq at e2 e3
  simp at e1 e2 e3
  omega

set_option maxRecDepth 100000 in
set_option maxHeartbeats 4000000 in
theorem order_calls (a b c : List Ch) (A B C : Option Addr) (ca cb cc : Nat) (w : World) (ha : a.length ≤ 9223372036854775807) (hb : b.length ≤ 9223372036854775807) (hc : c.length ≤ 9223372036854775807)
    (hA : RowsOf w 5 Ch.cells A a) (hB : RowsOf w 5 Ch.cells B b) (hC : RowsOf w 5 Ch.cells C c) :
    Calls Try.prog 5 #[.slice A a.length ca, .slice B b.length cb, .slice C c.length cc] w fun e w' => e = .returned (.bool true) ∧ Ext w w' := by
  have waa : ∀ W (h : Ext w W), Calls Try.prog 16 #[.slice A a.length ca, .slice A a.length ca] W fun e w' => e = .returned (.bool (wl a a)) ∧ Ext W w' := fun W h => withinL_calls a a A A ca ca W ha ha (hA.ext h) (hA.ext h)
  have wab : ∀ W (h : Ext w W), Calls Try.prog 16 #[.slice A a.length ca, .slice B b.length cb] W fun e w' => e = .returned (.bool (wl a b)) ∧ Ext W w' := fun W h => withinL_calls a b A B ca cb W ha hb (hA.ext h) (hB.ext h)
  have wbc : ∀ W (h : Ext w W), Calls Try.prog 16 #[.slice B b.length cb, .slice C c.length cc] W fun e w' => e = .returned (.bool (wl b c)) ∧ Ext W w' := fun W h => withinL_calls b c B C cb cc W hb hc (hB.ext h) (hC.ext h)
  have wac : ∀ W (h : Ext w W), Calls Try.prog 16 #[.slice A a.length ca, .slice C c.length cc] W fun e w' => e = .returned (.bool (wl a c)) ∧ Ext W w' := fun W h => withinL_calls a c A C ca cc W ha hc (hA.ext h) (hC.ext h)
  have wba : ∀ W (h : Ext w W), Calls Try.prog 16 #[.slice B b.length cb, .slice A a.length ca] W fun e w' => e = .returned (.bool (wl b a)) ∧ Ext W w' := fun W h => withinL_calls b a B A cb ca W hb ha (hB.ext h) (hA.ext h)
  have ch := fun W (h : Ext w W) => chargesR_calls a A ca W ha (hA.ext h)
  rw [wl_self] at waa
  go_enter Try.func5, Try.ntmps5
  go_wp2_with fail
  refine (head_calls w).mono ?_
  rintro e W1 ⟨rfl, X1⟩
  go_wp2_with fail
  · go_ret
    exact ⟨rfl, X1⟩
  · refine (waa W1 X1).mono ?_
    rintro e W2 ⟨rfl, hx2⟩
    have X2 := X1.trans hx2
    go_wp2_with fail
    refine (ch W2 X2).mono ?_
    rintro e W3 ⟨rfl, hx3⟩
    have X3 := X2.trans hx3
    go_wp2_with fail
    refine (wab W3 X3).mono ?_
    rintro e W4 ⟨rfl, hx4⟩
    have X4 := X3.trans hx4
    have wab2 := wab
    cases h1 : wl a b with
    | false =>
      rw [h1] at wab2
      go_wp2_with fail
      refine (wab2 W4 X4).mono ?_
      rintro e W5 ⟨rfl, hx5⟩
      go_wp2_with fail
      go_ret
      exact ⟨rfl, X4.trans hx5⟩
    | true =>
      rw [h1] at wab2
      go_wp2_with fail
      refine (wbc W4 X4).mono ?_
      rintro e W5 ⟨rfl, hx5⟩
      have X5 := X4.trans hx5
      have fin : ∀ W, Ext w W → True := fun _ _ => trivial
      cases h2 : wl b c with
      | false =>
        go_wp2_with fail
        refine (wab2 W5 X5).mono ?_
        rintro e V1 ⟨rfl, hv1⟩
        have Y1 := X5.trans hv1
        go_wp2_with fail
        refine (wba V1 Y1).mono ?_
        rintro e V2 ⟨rfl, hv2⟩
        have Y2 := Y1.trans hv2
        cases h5 : wl b a with
        | false =>
          go_wp2_with fail
          go_ret
          exact ⟨rfl, Y2⟩
        | true =>
          obtain ⟨hlen, hgt⟩ := wl_anti h1 h5
          have HG := Lib.hid hgt
          have hne : ((a.length : Int) != (b.length : Int)) = false := by simp [hlen]
          have HL := Lib.hid hlen
          clear hgt hlen
          go_wp2_with fail
          go_loopw [7, 64] (fun u i wr => ∃ k : Nat, k ≤ a.length ∧ u = .bool true ∧ i = .int .i64 k ∧ Ext V2 wr) (fun _ i _ => a.length - (intOf i).toNat)
          case atStart => exact ⟨0, Nat.zero_le _, rfl, rfl, Ext.refl _⟩
          case round =>
            obtain ⟨k, hk, rfl, rfl, hx⟩ := hrel
            by_cases hlt : k < a.length
            · have hltb : k < b.length := by have := HL.out; omega
              have hxa : a[k]? = some a[k] := List.getElem?_eq_getElem hlt
              have hxb : b[k]? = some b[k] := List.getElem?_eq_getElem hltb
              obtain ⟨g1, g2, g3⟩ := HG.out k _ _ hxa hxb
              generalize a[k] = x at *
              generalize b[k] = y at *
              obtain ⟨ad, rfl, hla⟩ := rows_five hA hxa
              obtain ⟨bd, rfl, hlb2⟩ := rows_five hB hxb
              have cA : ∀ W, Held (Ext wr) W → _ := fun W hW => hla W ((Y2.trans hx).trans hW)
              have cB : ∀ W, Held (Ext wr) W → _ := fun W hW => hlb2 W ((Y2.trans hx).trans hW)
              simp only [← g1, ← g2, ← g3] at cB
              have hkb : (k : Int) < (b.length : Int) := by omega
              clear hla hlb2 hxa hxb g1 g2 g3
              go_wp2_with fail
              refine wp_region_auto (Ext wr) ((0, none, none) :: (0, none, none) :: (0, some (68, true), none) :: (0, some (68, true), none) :: (0, some (68, true), none) :: (0, some (68, true), none) :: (0, some (68, true), none) :: (0, some (68, true), none) :: (0, some (68, true), none) :: (0, some (68, true), none) :: (0, some (68, true), none) :: (0, some (68, true), none) :: (0, some (68, true), none) :: (0, none, none) :: (0, none, none) :: (0, some (81, true), none) :: (0, some (81, true), none) :: (0, some (81, true), none) :: (0, some (81, true), none) :: (0, some (81, true), none) :: (0, some (81, true), none) :: (0, some (81, true), none) :: (0, some (81, true), none) :: (0, some (81, true), none) :: (0, some (81, true), none) :: (0, some (81, true), none) :: (0, none, none) :: (0, none, none) :: []) (by kernel_rfl) (by kernel_rfl) (fun _ _ d _ _ h => by cases d <;> exact h) (Ext.drew _) ?_
              repeat' (first
                | (with_reducible apply rel_pass
                   focus (intro W hW; first | (go_simp; exact rfl) | go_simp)
                   simp only [Act.put, List.setIfInBounds_toArray, List.set_cons_zero, List.set_cons_succ])
                | (with_reducible apply rel_yes
                   focus (exact rfl))
                | (with_reducible apply rel_no
                   focus (exact rfl)
                   simp only [Act.put, List.setIfInBounds_toArray, List.set_cons_zero, List.set_cons_succ])
                | (with_reducible apply rel_askF
                   focus (exact rfl)
                   all_goals (intro hb; simp only [hb, Act.put, List.setIfInBounds_toArray, List.set_cons_zero, List.set_cons_succ]))
                | (with_reducible apply rel_askT
                   focus (exact rfl)
                   all_goals (intro hb; simp only [hb, Act.put, List.setIfInBounds_toArray, List.set_cons_zero, List.set_cons_succ]))
                | (with_reducible apply rel_front1)
                | (with_reducible apply rel_front2)
                | (with_reducible apply rel_front3)
                | (with_reducible apply rel_front4)
                | (with_reducible apply rel_front5)
                | (with_reducible apply rel_front6))
              apply rel_nil
              simp only [Exit.then, Exit.inBlock]
              go_wp2_with fail
              all_goals exact ⟨⟨k + 1, by omega, rfl, by simp, hx.trans (Ext.drew _)⟩, by simp [intOf]; omega⟩
            · go_wp2_with fail
              go_ret
              exact ⟨rfl, Y2.trans hx⟩
      | true =>
        have h3 := wl_trans h1 h2
        rw [h3] at wac
        go_wp2_with fail
        refine (wac W5 X5).mono ?_
        rintro e W6 ⟨rfl, hx6⟩
        have X6 := X5.trans hx6
        go_wp2_with fail
        refine (wab2 W6 X6).mono ?_
        rintro e V1 ⟨rfl, hv1⟩
        have Y1 := X6.trans hv1
        go_wp2_with fail
        refine (wba V1 Y1).mono ?_
        rintro e V2 ⟨rfl, hv2⟩
        have Y2 := Y1.trans hv2
        cases h5 : wl b a with
        | false =>
          go_wp2_with fail
          go_ret
          exact ⟨rfl, Y2⟩
        | true =>
          obtain ⟨hlen, hgt⟩ := wl_anti h1 h5
          have HG := Lib.hid hgt
          have hne : ((a.length : Int) != (b.length : Int)) = false := by simp [hlen]
          have HL := Lib.hid hlen
          clear hgt hlen
          go_wp2_with fail
          go_loopw [7, 64] (fun u i wr => ∃ k : Nat, k ≤ a.length ∧ u = .bool true ∧ i = .int .i64 k ∧ Ext V2 wr) (fun _ i _ => a.length - (intOf i).toNat)
          case atStart => exact ⟨0, Nat.zero_le _, rfl, rfl, Ext.refl _⟩
          case round =>
            obtain ⟨k, hk, rfl, rfl, hx⟩ := hrel
            by_cases hlt : k < a.length
            · have hltb : k < b.length := by have := HL.out; omega
              have hxa : a[k]? = some a[k] := List.getElem?_eq_getElem hlt
              have hxb : b[k]? = some b[k] := List.getElem?_eq_getElem hltb
              obtain ⟨g1, g2, g3⟩ := HG.out k _ _ hxa hxb
              generalize a[k] = x at *
              generalize b[k] = y at *
              obtain ⟨ad, rfl, hla⟩ := rows_five hA hxa
              obtain ⟨bd, rfl, hlb2⟩ := rows_five hB hxb
              have cA : ∀ W, Held (Ext wr) W → _ := fun W hW => hla W ((Y2.trans hx).trans hW)
              have cB : ∀ W, Held (Ext wr) W → _ := fun W hW => hlb2 W ((Y2.trans hx).trans hW)
              simp only [← g1, ← g2, ← g3] at cB
              have hkb : (k : Int) < (b.length : Int) := by omega
              clear hla hlb2 hxa hxb g1 g2 g3
              go_wp2_with fail
              refine wp_region_auto (Ext wr) ((0, none, none) :: (0, none, none) :: (0, some (68, true), none) :: (0, some (68, true), none) :: (0, some (68, true), none) :: (0, some (68, true), none) :: (0, some (68, true), none) :: (0, some (68, true), none) :: (0, some (68, true), none) :: (0, some (68, true), none) :: (0, some (68, true), none) :: (0, some (68, true), none) :: (0, some (68, true), none) :: (0, none, none) :: (0, none, none) :: (0, some (81, true), none) :: (0, some (81, true), none) :: (0, some (81, true), none) :: (0, some (81, true), none) :: (0, some (81, true), none) :: (0, some (81, true), none) :: (0, some (81, true), none) :: (0, some (81, true), none) :: (0, some (81, true), none) :: (0, some (81, true), none) :: (0, some (81, true), none) :: (0, none, none) :: (0, none, none) :: []) (by kernel_rfl) (by kernel_rfl) (fun _ _ d _ _ h => by cases d <;> exact h) (Ext.drew _) ?_
              repeat' (first
                | (with_reducible apply rel_pass
                   focus (intro W hW; first | (go_simp; exact rfl) | go_simp)
                   simp only [Act.put, List.setIfInBounds_toArray, List.set_cons_zero, List.set_cons_succ])
                | (with_reducible apply rel_yes
                   focus (exact rfl))
                | (with_reducible apply rel_no
                   focus (exact rfl)
                   simp only [Act.put, List.setIfInBounds_toArray, List.set_cons_zero, List.set_cons_succ])
                | (with_reducible apply rel_askF
                   focus (exact rfl)
                   all_goals (intro hb; simp only [hb, Act.put, List.setIfInBounds_toArray, List.set_cons_zero, List.set_cons_succ]))
                | (with_reducible apply rel_askT
                   focus (exact rfl)
                   all_goals (intro hb; simp only [hb, Act.put, List.setIfInBounds_toArray, List.set_cons_zero, List.set_cons_succ]))
                | (with_reducible apply rel_front1)
                | (with_reducible apply rel_front2)
                | (with_reducible apply rel_front3)
                | (with_reducible apply rel_front4)
                | (with_reducible apply rel_front5)
                | (with_reducible apply rel_front6))
              apply rel_nil
              simp only [Exit.then, Exit.inBlock]
              go_wp2_with fail
              all_goals exact ⟨⟨k + 1, by omega, rfl, by simp, hx.trans (Ext.drew _)⟩, by simp [intOf]; omega⟩
            · go_wp2_with fail
              go_ret
              exact ⟨rfl, Y2.trans hx⟩
  · go_ret
    exact ⟨rfl, X1⟩
  · go_ret
    exact ⟨rfl, X1⟩
end Go.Proofs.Ytffbomfhihhmhaa.Settle
