/- Layer 36: CauseObserves answers true. -/
import Derived.Test.YtjdhnhfglpogmaaLawH
import Derived.Test.YtjdhnhfglpogmaaPx12
set_option linter.unusedSimpArgs false
set_option linter.unusedVariables false
namespace Go.Proofs.Ytjdhnhfglpogmaa.P
open Go Go.RowKit Go.Proofs.YtjdhnhfglpogmaaW.PrintWords Go.Proofs.YtjdhnhfglpogmaaW.PrintLast Go.Proofs.YtjdhnhfglpogmaaW.PrintMore

theorem agS_more (l : List S44) (seen : List S48) (o : S48) (day : Int) : agS l (seen ++ [o]) day = (agS l seen day).filter (agB l [o] day) := by
  unfold agS
  rw [List.filter_filter]
  refine List.filter_congr (fun s _ => ?_)
  unfold agB
  rw [List.all_append, Bool.and_comm]
theorem observes_loop (l : List S44) (X : List Nat) (o : S48) (day : Int) (hv : validB l = true) (ho : obsB [o] l.length = true) (hX : X.length ≤ 4096) :
    ∀ d i, X.length - i = d → i ≤ X.length → Ev (fun k => cohousinglaw36_CauseObserves.l0 k l day true ((X.filter (agB l [o] day)).map (stBits (freeOf l).length)) (((X.take i).filter (agB l [o] day)).map (stBits (freeOf l).length)) (X.map (stBits (freeOf l).length)) ((X.map (stBits (freeOf l).length)).length : Int) (i : Nat) o.f0 o.f1 o.f2) true := by
  have hlen := valid_len hv
  have hb := valid_back hv
  have hSl : (X.map (stBits (freeOf l).length)).length = X.length := by simp
  have hfl : (freeOf l).length ≤ 12 := Nat.le_trans (freeAt_length l 0) hlen
  intro d
  induction d with
  | zero =>
    intro i hd hi
    obtain rfl : i = X.length := by omega
    rw [List.take_length]
    have hs := same_states_refl ((X.filter (agB l [o] day)).map (stBits (freeOf l).length)) (by rw [List.length_map]; exact Nat.le_trans (List.length_filter_le _ _) (Nat.le_trans hX (by decide))) (fun x hx => by
      obtain ⟨s, _, rfl⟩ := List.mem_map.1 hx
      rw [stBits_len]
      exact Nat.le_trans hfl (by decide))
    have e := Ev.bind (f := fun k t347 => (some t347)) (r := true) hs (Ev.ret fun k => rfl)
    refine Ev.step (fun k => ?_) e
    simp only [cohousinglaw36_CauseObserves.l0]
    rw [if_neg (by omega)]
    simp only [if_true]
  | succ d ih =>
    intro i hd hi
    have h2 := ih (i + 1) (by omega) (by omega)
    have hh := holds_ev l (stBits (freeOf l).length (X.getD i 0)) [o] day hv ho (stBits_len _ _)
    rw [← agB_eq l hb [o] day (obs_bound ho)] at hh
    have htk : (X.take (i + 1)).filter (agB l [o] day) = (X.take i).filter (agB l [o] day) ++ if agB l [o] day (X.getD i 0) then [X.getD i 0] else [] := by
      rw [List.take_succ_eq_append_getElem (show i < X.length by omega), List.filter_append]
      simp only [List.filter_cons, List.filter_nil, List.getD_eq_getElem?_getD, List.getElem?_eq_getElem (show i < X.length by omega), Option.getD_some]
    have hpl : (((X.take i).filter (agB l [o] day)).map (stBits (freeOf l).length)).length ≤ 4096 := by
      rw [List.length_map]
      exact Nat.le_trans (List.length_filter_le _ _) (Nat.le_trans (List.length_take_le _ _) (by omega))
    rw [htk, List.map_append] at h2
    generalize ((X.take i).filter (agB l [o] day)).map (stBits (freeOf l).length) = Y at *
    generalize hS' : (X.filter (agB l [o] day)).map (stBits (freeOf l).length) = S' at *
    have e := Ev.bind (f := fun k t340 => (if t340 = true then ((some (([stBits (freeOf l).length (X.getD i 0)] : List (List Bool)) : List (List Bool))).bind fun y341 => (if Y.length + y341.length < 5864062014805 then (cohousinglaw36_CauseObserves.l0 k l day true S' (Y ++ y341) (X.map (stBits (freeOf l).length)) ((X.map (stBits (freeOf l).length)).length : Int) (wrap64 ((i : Int) + 1)) o.f0 o.f1 o.f2) else (none))) else (cohousinglaw36_CauseObserves.l0 k l day true S' Y (X.map (stBits (freeOf l).length)) ((X.map (stBits (freeOf l).length)).length : Int) (wrap64 ((i : Int) + 1)) o.f0 o.f1 o.f2)))
      (r := true) hh (by
        rw [wrapN i (by omega)]
        cases hc : agB l [o] day (X.getD i 0) with
        | false =>
          rw [hc] at h2
          simpa only [Bool.false_eq_true, if_false, List.map_nil, List.append_nil] using h2
        | true =>
          rw [hc] at h2
          simp only [if_true, List.map_cons, List.map_nil] at h2
          refine Ev.congr (fun k => ?_) h2
          rw [if_pos rfl, Option.bind_some, if_pos (show Y.length + ([stBits (freeOf l).length (X.getD i 0)] : List (List Bool)).length < 5864062014805 from by rw [List.length_singleton]; omega)])
    refine Ev.step (fun k => ?_) e
    simp only [cohousinglaw36_CauseObserves.l0]
    rw [if_pos (by omega), if_pos (by omega), if_pos (by omega), rd_L3_map X _ i (by omega)]
theorem observes_ev (l : List S44) (seen : List S48) (o0 : Int) (o1 : Bool) (o2 : Int) (day : Int) (hw : ∀ v ∈ l, v.f1.length ≤ 9223372036854775807) (hsl : seen.length ≤ 5864062014635) : Ev (fun k => cohousinglaw36_CauseObserves.f k l seen o0 o1 o2 day) true := by
  have hu := usable_ev l (seen ++ [⟨o0, o1, o2⟩]) day hw
  obtain ⟨F, hF⟩ : ∃ F : Nat → Bool → Option Bool, F = fun k t327 => (if t327 = true then ((cause_States.f l seen day).bind fun bt328 => ((cause_States.f l (seen ++ [⟨o0, o1, o2⟩]) day).bind fun bt332 => (if bt328.2 = 0 then (cohousinglaw36_CauseObserves.j0 k l day true bt328.1 bt332.1 (bt332.2 != 0) o0 o1 o2) else (cohousinglaw36_CauseObserves.j0 k l day true bt328.1 bt332.1 true o0 o1 o2)))) else (some true)) := ⟨_, rfl⟩
  have main : Ev (fun k => (cohousinglaw36_usable.f k l (seen ++ [⟨o0, o1, o2⟩]) day).bind (F k)) true := by
    refine Ev.bind hu ?_
    cases hb : usableB l (seen ++ [⟨o0, o1, o2⟩]) day with
    | false => exact Ev.ret fun k => by rw [hF]; simp
    | true =>
      obtain ⟨hv, ho, hd, _⟩ := usable_valid hb
      have ho1 : obsB seen l.length = true := obs_sub ho (fun s hs => List.mem_append_left _ hs) (by rw [List.length_append]; omega)
      have ho2 : obsB [(⟨o0, o1, o2⟩ : S48)] l.length = true := obs_sub ho (fun s hs => List.mem_append_right _ hs) (by rw [List.length_append]; omega)
      have e1 := statesV_x l seen day hv ho1 hd
      have e2 := statesV_x l (seen ++ [⟨o0, o1, o2⟩]) day hv ho hd
      unfold statesB at e1 e2
      rw [agS_more] at e2
      have hXle := agS_le l seen day (valid_len hv)
      generalize agS l seen day = X at *
      have h0 := observes_loop l X ⟨o0, o1, o2⟩ day hv ho2 hXle X.length 0 (by omega) (by omega)
      have j0 : Ev (fun k => cohousinglaw36_CauseObserves.j0 k l day true (X.map (stBits (freeOf l).length)) ((X.filter (agB l [⟨o0, o1, o2⟩] day)).map (stBits (freeOf l).length)) false o0 o1 o2) true := by
        refine Ev.step (fun k => ?_) h0
        simp only [cohousinglaw36_CauseObserves.j0, Bool.false_eq_true, if_false]
        rfl
      refine Ev.congr (fun k => ?_) j0
      rw [hF]
      simp only [cause_States.f, Option.bind_some, e1, e2, if_true, bne_self_eq_false]
  refine Ev.congr (fun k => ?_) main
  rw [hF]
  simp only [cohousinglaw36_CauseObserves.f, cohousinglaw36_head.f, Option.bind_some, List.nil_append, List.length_nil, List.length_cons, List.length_append]
  rw [if_pos (by omega), if_pos (by omega)]
end Go.Proofs.Ytjdhnhfglpogmaa.P
