/- The reference's link. -/
import Derived.Test.YtkaebblbmoolaaaDoorPbR
import Derived.Test.YtkaebblbmoolaaaDoorXchk
import Derived.Test.YtkaebblbmoolaaaDoorPx1
set_option linter.unusedSimpArgs false
set_option linter.unusedVariables false
namespace Go.Proofs.YtkaebblbmoolaaaDoor.P
open Go Go.RowKit Go.Proofs.YtkaebblbmoolaaaDoorW.PrintWords Go.Proofs.YtkaebblbmoolaaaDoorW.PrintLast Go.Proofs.YtkaebblbmoolaaaDoorW.PrintMore Go.Proofs.YtkaebblbmoolaaaDoor.Ord
attribute [local go_sem ↓] Go.wp_at_zero Go.wp_at_succ
attribute [local go_sem high] eqA23

def linkB (pub : Int) (fr : List S23) (i : Int) (tl : List S23) (k r : Int) : Bool :=
  decide (0 ≤ i) && (decide (i < (fr.length : Int)) && (decide (0 ≤ k) && (decide (k < (tl.length : Int)) && conB pub (rd_T23 fr i).f0 (rd_T23 fr i).f1 (rd_T23 tl k).f0 (rd_T23 tl k).f1 r)))
set_option maxRecDepth 100000 in
set_option maxHeartbeats 4000000 in
theorem linkR_calls (pub : Int) (A1 : Option Addr) (c1 : Nat) (l1 : List (S23)) (i : Int) (A2 : Option Addr) (c2 : Nat) (l2 : List (S23)) (k r : Int) (w : World)
    (hr1 : Kd.C k23 w A1 l1.length l1) (hc1 : l1.length ≤ c1) (hr2 : Kd.C k23 w A2 l2.length l2) (hc2 : l2.length ≤ c2) (hk : keyB pub = true) (hf : ciphsB l1 = true) :
    Calls Tryd.prog 51 #[.int .i64 pub, .slice A1 l1.length c1, .int .i64 i, .slice A2 l2.length c2, .int .i64 k, .int .i64 r] w fun e w' => e = .returned (.bool (linkB pub l1 i l2 k r)) ∧ Below w.heap.size w w' := by
  have HR := Lib.hid (And.intro hr1 (And.intro hr2 (And.intro hc1 hc2)))
  have HV := Lib.hid (And.intro hk hf)
  clear hr1 hr2 hc1 hc2 hk hf
  by_cases h0 : i < 0
  · have HL := Lib.hid (show linkB pub l1 i l2 k r = false by unfold linkB; rw [show decide (0 ≤ i) = false from decide_eq_false (by omega)]; rfl)
    go_enter Tryd.func51, Tryd.ntmps51
    go_wp2_with fail
    refine bodyPost_ret (results_tmp rfl _ _ _) rfl ?_
    exact ⟨by rw [HL.out]; rfl, Below.refl _ _⟩
  by_cases h1 : (l1.length : Int) ≤ i
  · have HL := Lib.hid (show linkB pub l1 i l2 k r = false by unfold linkB; rw [show decide (i < (l1.length : Int)) = false from decide_eq_false (by omega)]; simp)
    go_enter Tryd.func51, Tryd.ntmps51
    go_wp2_with fail
    refine bodyPost_ret (results_tmp rfl _ _ _) rfl ?_
    exact ⟨by rw [HL.out]; rfl, Below.refl _ _⟩
  by_cases h2 : k < 0
  · have HL := Lib.hid (show linkB pub l1 i l2 k r = false by unfold linkB; rw [show decide (0 ≤ k) = false from decide_eq_false (by omega)]; simp)
    go_enter Tryd.func51, Tryd.ntmps51
    go_wp2_with fail
    refine bodyPost_ret (results_tmp rfl _ _ _) rfl ?_
    exact ⟨by rw [HL.out]; rfl, Below.refl _ _⟩
  by_cases h3 : (l2.length : Int) ≤ k
  · have HL := Lib.hid (show linkB pub l1 i l2 k r = false by unfold linkB; rw [show decide (k < (l2.length : Int)) = false from decide_eq_false (by omega)]; simp)
    go_enter Tryd.func51, Tryd.ntmps51
    go_wp2_with fail
    refine bodyPost_ret (results_tmp rfl _ _ _) rfl ?_
    exact ⟨by rw [HL.out]; rfl, Below.refl _ _⟩
  have HE := fun W => cohousingref08_Exponent.calls r (expB r) W (refExponent_f r)
  cases he : expB r with
  | false =>
    have HL := Lib.hid (show linkB pub l1 i l2 k r = false by unfold linkB conB okN; rw [he]; simp)
    rw [he] at HE
    clear he
    go_enter Tryd.func51, Tryd.ntmps51
    go_wp2_with fail
    refine (HE _).mono ?_
    rintro e w2 ⟨rfl, hd⟩
    go_wp2_with fail
    refine bodyPost_ret (results_tmp rfl _ _ _) rfl ?_
    exact ⟨by rw [HL.out]; rfl, hd.below⟩
  | true =>
    rw [he] at HE
    have i0 : 0 ≤ i := by omega
    have i1 : i < (l1.length : Int) := by omega
    have k0 : 0 ≤ k := by omega
    have k1 : k < (l2.length : Int) := by omega
    have q2 := ciphs_rd HV.out.2 i0 i1
    have hokn := okN_of' HV.out.1 he q2.1 q2.2
    have HNW := Lib.hid (refanew_f hokn 100 (by omega))
    have HL := Lib.hid (show linkB pub l1 i l2 k r = (nA (rd_T23 l1 i).f0 r == (rd_T23 l2 k).f0 && nB pub (rd_T23 l1 i).f1 r == (rd_T23 l2 k).f1) by unfold linkB conB; rw [hokn]; simp [i0, i1, k0, k1])
    clear q2 hokn he
    go_enter Tryd.func51, Tryd.ntmps51
    go_wp2_with fail
    refine (HE _).mono ?_
    rintro e w2 ⟨rfl, hd⟩
    have hb2 := hd.below
    clear hd HE
    obtain ⟨ai, rfl, -, -⟩ := read_ci HR.out.1 hb2 i i0 i1
    obtain ⟨am, rfl, -, -⟩ := read_ci HR.out.2.1 hb2 k k0 k1
    have hS : ∀ W, Held (Below w.heap.size w) W → W.cell? (ai.add (i.toNat * 2)) = some (.int .i64 (rd_T23 l1 i).f0) ∧ W.cell? ⟨(ai.add (i.toNat * 2)).block, (ai.add (i.toNat * 2)).off + 1, none⟩ = some (.int .i64 (rd_T23 l1 i).f1) ∧ W.cell? (am.add (k.toNat * 2)) = some (.int .i64 (rd_T23 l2 k).f0) ∧ W.cell? ⟨(am.add (k.toNat * 2)).block, (am.add (k.toNat * 2)).off + 1, none⟩ = some (.int .i64 (rd_T23 l2 k).f1) := fun W hW => by
      obtain ⟨_, e, h5, h6⟩ := read_ci HR.out.1 hW i i0 i1
      cases e
      obtain ⟨_, e, h7, h8⟩ := read_ci HR.out.2.1 hW k k0 k1
      cases e
      exact ⟨h5, h6, h7, h8⟩
    go_wp2_with fail
    refine wp_region_auto (Below w.heap.size w) ((0, none, none) :: (0, none, none) :: (0, none, none) :: (0, none, none) :: (0, none, none) :: (0, none, none) :: (1, none, none) :: (1, none, none) :: (1, none, none) :: (1, none, none) :: (0, none, some true) :: (0, none, none) :: (0, none, none) :: []) (by kernel_rfl) (by kernel_rfl) (fun _ _ d _ _ h => by cases d <;> exact h) hb2.drew ?_
    repeat' (first
      | (with_reducible apply rel_pass
         focus (intro W hW; first | (go_simp; exact rfl) | go_simp)
         simp only [Act.put, List.setIfInBounds_toArray, List.set_cons_zero, List.set_cons_succ])
      | (with_reducible apply rel_yes
         focus (exact rfl))
      | (with_reducible apply rel_no
         focus (exact rfl)
         simp only [Act.put, List.setIfInBounds_toArray, List.set_cons_zero, List.set_cons_succ])
      | (with_reducible apply rel_askF
         focus (exact rfl)
         all_goals (intro hb; simp only [hb, Act.put, List.setIfInBounds_toArray, List.set_cons_zero, List.set_cons_succ]))
      | (with_reducible apply rel_askT
         focus (exact rfl)
         all_goals (intro hb; simp only [hb, Act.put, List.setIfInBounds_toArray, List.set_cons_zero, List.set_cons_succ]))
      | (with_reducible apply rel_front1)
      | (with_reducible apply rel_front2)
      | (with_reducible apply rel_front3)
      | (with_reducible apply rel_front4)
      | (with_reducible apply rel_front5)
      | (with_reducible apply rel_front6))
    with_reducible apply rel_act
    intro K hK
    go_simp
    refine (cohousingref40_anew.calls 100 pub (rd_T23 l1 i).f0 (rd_T23 l1 i).f1 r _ _ w2.drew HNW.out).mono ?_
    rintro e w3 ⟨rfl, hb3⟩
    have hb4 := hb2.drew.trans (Below.mono hb3 hb2.drew.size)
    refine hK _ _ ⟨fun _ => hb4, ?_⟩
    clear hK K
    try simp only [Act.put, List.setIfInBounds_toArray, List.set_cons_zero, List.set_cons_succ]
    repeat' (first
      | (with_reducible apply rel_pass
         focus (intro W hW; first | (go_simp; exact rfl) | go_simp)
         simp only [Act.put, List.setIfInBounds_toArray, List.set_cons_zero, List.set_cons_succ])
      | (with_reducible apply rel_yes
         focus (exact rfl))
      | (with_reducible apply rel_no
         focus (exact rfl)
         simp only [Act.put, List.setIfInBounds_toArray, List.set_cons_zero, List.set_cons_succ])
      | (with_reducible apply rel_askF
         focus (exact rfl)
         all_goals (intro hb; simp only [hb, Act.put, List.setIfInBounds_toArray, List.set_cons_zero, List.set_cons_succ]))
      | (with_reducible apply rel_askT
         focus (exact rfl)
         all_goals (intro hb; simp only [hb, Act.put, List.setIfInBounds_toArray, List.set_cons_zero, List.set_cons_succ]))
      | (with_reducible apply rel_front1)
      | (with_reducible apply rel_front2)
      | (with_reducible apply rel_front3)
      | (with_reducible apply rel_front4)
      | (with_reducible apply rel_front5)
      | (with_reducible apply rel_front6))
    apply rel_nil
    simp only [Exit.then, Exit.inBlock]
    go_wp2_with fail
    refine bodyPost_ret (results_tmp rfl _ _ _) rfl ?_
    exact ⟨by rw [HL.out]; rfl, hb4⟩
end Go.Proofs.YtkaebblbmoolaaaDoor.P
