/- Chapter 32: CapitalLien, walked whole. -/
import Derived.Test.YtdhnojfpgpjabaaDoorLd6
import Derived.Test.YtdhnojfpgpjabaaDoorXRows32
set_option linter.unusedSimpArgs false
set_option linter.unusedVariables false
namespace Go.Proofs.YtdhnojfpgpjabaaDoor.P
open Go Go.RowKit Go.Proofs.YtdhnojfpgpjabaaDoorW.PrintWords Go.Proofs.YtdhnojfpgpjabaaDoorW.PrintLast Go.Proofs.YtdhnojfpgpjabaaDoorW.PrintMore Go.Proofs.YtdhnojfpgpjabaaDoor.Ord

set_option maxHeartbeats 8000000 in
set_option maxRecDepth 100000 in
theorem lien_law (a0 : Int) (A1 : Option Addr) (c1 : Nat) (l : List S36) (a2 a3 : Int) (w : World) (hr : Kd.C k36 w A1 l.length l) (hc : l.length ≤ c1) (hT : TabOk w) (hl : l.length ≤ 9223372036854775807) (h0 : 0 ≤ a0 ∧ a0 ≤ 65535) (h2 : 0 ≤ a2 ∧ a2 ≤ 4294967295) (h3 : 0 ≤ a3 ∧ a3 ≤ 65535) :
    Calls Tryd.prog 7 #[.int .u16 a0, .slice A1 l.length c1, .int .u32 a2, .int .u16 a3] w fun e w' => e = .returned (.bool true) ∧ Below w.heap.size w w' := by
  obtain ⟨k1, H1⟩ := head_ev.rounds
  obtain ⟨k2, H2⟩ := (refvalid_ev l hl).rounds
  have HH := Lib.hid (cohousinglaw32_head.calls k1 true w hT H1)
  have HR := Lib.hid hr
  have HC := Lib.hid hc
  have HT := Lib.hid hT
  have HV := Lib.hid (fun r W (hb : Below w.heap.size w W) (h : validV l = r) => cohousingref32_Valid.calls k2 A1 c1 l r W (Kd.C_below hr hb) hc (by rw [← h]; exact H2))
  clear H1 H2 hr hT hc
  by_cases h59 : 59 < l.length
  · have d1 : decide ((59 : Int) < (l.length : Int)) = true := decide_eq_true (by omega)
    clear h59
    go_enter Tryd.func7, Tryd.ntmps7
    go_wp2_with fail
    refine HH.out.mono ?_
    rintro e w1 ⟨rfl, hb1⟩
    go_wp2_with fail
    go_ret
    exact ⟨rfl, hb1⟩
  have d1 : decide ((59 : Int) < (l.length : Int)) = false := decide_eq_false (by omega)
  cases hv : validV l with
  | false =>
    have HV1 := Lib.hid (fun W hb => HV.out false W hb hv)
    clear HV hv
    go_enter Tryd.func7, Tryd.ntmps7
    go_wp2_with fail
    refine HH.out.mono ?_
    rintro e w1 ⟨rfl, hb1⟩
    go_wp2_with fail
    refine (HV1.out w1 hb1).mono ?_
    rintro e w2 ⟨rfl, hb2⟩
    have hb := hb1.trans (Below.mono hb2 hb1.size)
    clear hb1 hb2
    go_wp2_with fail
    go_ret
    exact ⟨rfl, hb⟩
  | true =>
    have HV1 := Lib.hid (fun W hb => HV.out true W hb hv)
    have HVV := Lib.hid hv
    clear HV hv
    obtain ⟨last, hlast⟩ : ∃ last : Int, last = (if l.length = 0 then 0 else (rd_T36 l ((l.length - 1 : Nat) : Int)).f1) := ⟨_, rfl⟩
    have HL := Lib.hid hlast
    clear hlast
    by_cases hz : l.length = 0
    · have d2 : decide ((0 : Int) < (l.length : Int)) = false := decide_eq_false (by omega)
      have d3 : decide (0 < l.length) = false := decide_eq_false (by omega)
      have hlz : last = 0 := by rw [HL.out, if_pos hz]
      subst hlz
      clear hz
      go_enter Tryd.func7, Tryd.ntmps7
      go_wp2_with fail
      refine HH.out.mono ?_
      rintro e w1 ⟨rfl, hb1⟩
      go_wp2_with fail
      refine (HV1.out w1 hb1).mono ?_
      rintro e w2 ⟨rfl, hb2⟩
      have hb := hb1.trans (Below.mono hb2 hb1.size)
      clear hb1 hb2
      go_wp2_with (first
        | ((with_reducible refine gate_dst (N := 43) rfl ?_); refine Kd.R_lit k36 _ 36 ?hg (N := 43) ?hd (xs := ([] : List S36)) (inner := []) (ok := fun _ => True) (okp := fun _ => True) ?hr ?hp (fun _ hk => hk) trivial (Below.refl _ _) (Nat.le_refl _) (by simp) ?_; (case hd => rfl); (case hg => rfl); (case hr => first | (go_simp; done) | (go_simp; rfl)); (case hp => exact (Reps.none _ _)); intro v3 w3 ho3 hb3 hg_ hnew_; clear hg_ hnew_; have HO3 := Lib.hid (Kd.R_lower ho3 hb.size); have HB3 := Lib.hid (below_step hb hb3); clear ho3 hb3 hb)
        | ((with_reducible refine gate_builtin (b := .append) (xs := #[.tmp 43, .tmp 44]) rfl ?_); at_builtin; refine Kd.R_append_rows k36 (w0 := w) w.heap.size rfl (.tmp 43) (.tmp 44) 22 36 (.agg #[(.int .i64 0), (.int .i64 0), (.int .i64 0)]) 24 rfl Tryd.underlying22 info36 rfl (by decide) (by omega) v3 [] l _ _ _ (fun _ => True) (fun _ => False) rfl rfl ?aO ?aR (fun _ _ h => h) (fun _ h => h.elim) (fun _ _ => trivial) HB3.out HB3.out.size ?aL ?_; (case aR => exact Kd.C_below HR.out HB3.out); (case aO => exact HO3.out); (case aL => simp; omega); intro v4 w4 ho4 hb4 hg hat; have HO4 := Lib.hid ho4; have HB4 := Lib.hid hb4; clear ho4 hb4 hg hat HO3 HB3)
        | ((with_reducible refine gate_builtin (b := .append) (xs := #[.tmp 45, .tmp 49]) rfl ?_); at_builtin; refine Kd.R_append k36 (w0 := w) w.heap.size rfl (.tmp 45) (.tmp 49) 22 36 (.agg #[(.int .i64 0), (.int .i64 0), (.int .i64 0)]) 24 rfl Tryd.underlying22 info36 rfl (by decide) (by omega) v4 ([] ++ l) (⟨4, 0, 1 + a2 % 1000000000⟩ : S36) [.int .i64 4, .int .i64 0, .int .i64 (1 + a2 % 1000000000)] (fun _ => True) (fun _ => False) rfl rfl ?aP (fun _ hk => hk.elim) (fun _ _ => trivial) ?aO ?aB ?aS ?aL ?_; (case aP => exact k36_mkM _ _ _ (⟨4, 0, 1 + a2 % 1000000000⟩ : S36)); (case aB => exact HB4.out); (case aO => exact HO4.out); (case aS => exact HB4.out.size); (case aL => simp; omega); intro v5 w5 ho5 hb5 hg hat; have HO5 := Lib.hid ho5; have HB5 := Lib.hid hb5; clear ho5 hb5 hg hat HO4 HB4; obtain ⟨Ao, co, eo⟩ := Kd.R_slice HO5.out; subst eo))
      have hO := HO5.out
      rw [List.nil_append] at hO
      obtain ⟨hq1, hq2, hq3⟩ := Kd.R_reads' hO
      have hlM : (l ++ [(⟨4, 0, 1 + a2 % 1000000000⟩ : S36)]).length = l.length + 1 := by simp
      have HC3 := Lib.hid hq3
      have HC4 := Lib.hid (show (l ++ [(⟨4, 0, 1 + a2 % 1000000000⟩ : S36)]).length ≤ co from by rw [← hq1]; exact hq2)
      have hlM2 : (l ++ [(⟨4, 0, 1 + a2 % 1000000000⟩ : S36)]).length ≤ 9223372036854775807 := by rw [hlM]; omega
      obtain ⟨k3, H3⟩ := (refvalid_ev (l ++ [(⟨4, 0, 1 + a2 % 1000000000⟩ : S36)]) hlM2).rounds
      have CV := fun r (h : validV (l ++ [(⟨4, 0, 1 + a2 % 1000000000⟩ : S36)]) = r) => cohousingref32_Valid.calls k3 Ao co (l ++ [(⟨4, 0, 1 + a2 % 1000000000⟩ : S36)]) r w5 HC3.out HC4.out (by rw [← h]; exact H3)
      rw [hlM] at CV
      have HLM := Lib.hid hlM
      clear hO hq1 hq2 hq3 hlM hlM2 H3
      cases hm : validV (l ++ [(⟨4, 0, 1 + a2 % 1000000000⟩ : S36)]) with
      | false =>
        refine (CV false hm).mono ?_
        rintro e w6 ⟨rfl, hb6⟩
        have CC := capital_Valid.calls Ao co (l ++ [(⟨4, 0, 1 + a2 % 1000000000⟩ : S36)]) false w6 (Kd.C_below HC3.out hb6) HC4.out (TabOk.below HT.out (HB5.out.trans (Below.mono hb6 HB5.out.size))) (by unfold capital_Valid.f; rw [hm])
        rw [HLM.out] at CC
        have HB6 := Lib.hid (HB5.out.trans (Below.mono hb6 HB5.out.size))
        clear CV hm hb6
        go_wp2_with fail
        refine CC.mono ?_
        rintro e w7 ⟨rfl, hb7⟩
        go_wp2_with fail
        go_ret
        exact ⟨rfl, HB6.out.trans (Below.mono hb7 HB6.out.size)⟩
      | true =>
        refine (CV true hm).mono ?_
        rintro e w6 ⟨rfl, hb6⟩
        have HC6 := Lib.hid (Kd.C_below HC3.out hb6)
        have HB6 := Lib.hid (HB5.out.trans (Below.mono hb6 HB5.out.size))
        have HM := Lib.hid hm
        clear CV hm hb6 HC3
        go_wp2_with fail
        refine (cohousinglaw32_on.calls a3 (a3 % 36525) w6 (on_f a3 h3.1 h3.2)).mono ?_
        rintro e w7 ⟨rfl, hd7⟩
        have HB7 := Lib.hid (below_step HB6.out hd7.below)
        have HC7 := Lib.hid (Kd.C_below HC6.out hd7.below)
        clear hd7
        have o0 : 0 ≤ a3 % 36525 := by omega
        have o1 : a3 % 36525 ≤ 36524 := by omega
        have ON := Lib.hid (show True from trivial)
        generalize a3 % 36525 = on_ at *
        have sh0 : 1 ≤ 1 + a0 % 1000 := by omega
        have sh1 : 1 + a0 % 1000 ≤ 1000 := by omega
        go_wp2_with fail
        refine (cohousinglaw32_count.calls a0 (1 + a0 % 1000) w7 (count_f a0 h0.1 h0.2)).mono ?_
        rintro e w8 ⟨rfl, hd8⟩
        have HB8 := Lib.hid (below_step HB7.out hd8.below)
        have HC8 := Lib.hid (Kd.C_below HC7.out hd8.below)
        clear hd8
        go_wp2_with fail
        have day0 : 0 ≤ min 36524 on_ := by omega
        have day1 : min 36524 on_ ≤ 36524 := by omega
        obtain ⟨k4, H4⟩ := (State_ev (1 + a0 % 1000) l (min 36524 on_) HVV.out sh0 sh1 day0 day1).rounds
        obtain ⟨k5, H5⟩ := (State_ev (1 + a0 % 1000) (l ++ [(⟨4, 0, 1 + a2 % 1000000000⟩ : S36)]) (min 36524 on_) HM.out sh0 sh1 day0 day1).rounds
        have HR8 := Lib.hid (Kd.C_below HR.out HB8.out)
        by_cases he : (stateV (1 + a0 % 1000) l (min 36524 on_)).2.2.2.2.2 = 0
        · obtain ⟨A, A2, s1, s2, q1, q2, p0, p1, v0, v1, i0, i1, l0, l1⟩ := lien_yes a0 l 0 (1 + a2 % 1000000000) on_ (by omega) HVV.out HM.out (by omega) (by omega) (by omega) (by omega) o0 o1 h0.1 (by rw [Int.zero_add]; exact he)
          rw [Int.zero_add] at s1 s2
          rw [s1] at H4
          rw [s2] at H5
          have eD : max 0 (min A.paid A.value + A.interest - (A.lien + (1 + a2 % 1000000000))) = dueV A2 := q2.symm
          have hge : dueV A - (1 + a2 % 1000000000) ≤ dueV A2 := by rw [q1, q2]; omega
          have hle : dueV A2 ≤ dueV A := by rw [q1, q2]; omega
          have D10 : 0 ≤ dueV A ∧ dueV A ≤ 2000000000 := by rw [q1]; omega
          have D20 : 0 ≤ dueV A2 ∧ dueV A2 ≤ 2000000000 := by rw [q2]; omega
          clear q1 q2 s1 s2 he
          generalize dueV A = D1_, dueV A2 = D2_, A.paid = p_, A.value = v_, A.interest = i_, A.lien = li_ at *
          clear A A2
          refine (capital_State.calls k4 _ A1 c1 l _ _ _ _ _ _ _ w8 HR8.out HC.out (TabOk.below HT.out HB8.out) H4).mono ?_
          rintro e w9 ⟨rfl, hb9⟩
          have HB9 := Lib.hid (HB8.out.trans (Below.mono hb9 HB8.out.size))
          have HC9 := Lib.hid (Kd.C_below HC8.out (Below.mono hb9 (Nat.le_refl _)))
          have HT9 := Lib.hid (TabOk.below HT.out HB9.out)
          have H5' := Lib.hid H5
          clear H4 H5 hb9 HR8 HB8 HC8
          go_wp2_with fail
          have hbx := Blk.new w9 26 [Value.int IntKind.i64 p_, Value.int IntKind.i64 v_, Value.int IntKind.i64 i_, Value.int IntKind.i64 li_, Value.int IntKind.i64 D1_]
          have hsz := World.size_alloc w9 (Obj.cells (List.toArray [Value.int IntKind.i64 p_, Value.int IntKind.i64 v_, Value.int IntKind.i64 i_, Value.int IntKind.i64 li_, Value.int IntKind.i64 D1_]) 26)
          have hbw := (Below.refl w9.heap.size w9).alloc (Nat.le_refl _) (Obj.cells (List.toArray [Value.int IntKind.i64 p_, Value.int IntKind.i64 v_, Value.int IntKind.i64 i_, Value.int IntKind.i64 li_, Value.int IntKind.i64 D1_]) 26)
          rw [show (List.toArray [Value.int IntKind.i64 p_, Value.int IntKind.i64 v_, Value.int IntKind.i64 i_, Value.int IntKind.i64 li_, Value.int IntKind.i64 D1_]) = #[Value.int IntKind.i64 p_, Value.int IntKind.i64 v_, Value.int IntKind.i64 i_, Value.int IntKind.i64 li_, Value.int IntKind.i64 D1_] from rfl] at hbx hsz hbw
          generalize w9.alloc (Obj.cells #[Value.int IntKind.i64 p_, Value.int IntKind.i64 v_, Value.int IntKind.i64 i_, Value.int IntKind.i64 li_, Value.int IntKind.i64 D1_] 26) = w9' at hbx hsz hbw ⊢
          refine (cohousinglaw32_count.calls a0 (1 + a0 % 1000) w9' (count_f a0 h0.1 h0.2)).mono ?_
          rintro e w10 ⟨rfl, hd10⟩
          have hb10 : Below w9.heap.size w9 w10 := hbw.trans (Below.mono hd10.below (by omega))
          have HX10 := Lib.hid (hbx.below hd10.below hbx.lt)
          have HB10 := Lib.hid (show Below w.heap.size w w10 from HB9.out.trans (Below.mono hb10 HB9.out.size))
          have HC10 := Lib.hid (Kd.C_below HC9.out hb10)
          have HT10 := Lib.hid (TabOk.below HT.out HB10.out)
          clear hbx hsz hbw hd10 hb10 HC9 HT9
          go_wp2_with fail
          have CS := capital_State.calls k5 _ Ao co _ _ _ _ _ _ _ _ w10 HC10.out HC4.out HT10.out H5'.out
          rw [HLM.out] at CS
          refine CS.mono ?_
          clear CS
          rintro e w11 ⟨rfl, hb11⟩
          have HX11 := Lib.hid (HX10.out.below hb11 HX10.out.lt)
          have HB11 := Lib.hid (HB10.out.trans (Below.mono hb11 HB10.out.size))
          clear hb11 HX10 HB10 HC10 HT10 H5'
          have c := fun o o' i v h => ((HX11.out.alloc o).alloc o').cell i v h
          have c0 := fun o o' => c o o' 0 _ rfl
          have c1 := fun o o' => c o o' 1 _ rfl
          have c2 := fun o o' => c o o' 2 _ rfl
          have c3 := fun o o' => c o o' 3 _ rfl
          have c4 := fun o o' => c o o' 4 _ rfl
          have d := fun o i v h => (HX11.out.alloc o).cell i v h
          have d0 := fun o => d o 0 _ rfl
          have d1 := fun o => d o 1 _ rfl
          have d2 := fun o => d o 2 _ rfl
          have d3 := fun o => d o 3 _ rfl
          have d4 := fun o => d o 4 _ rfl
          clear c d
          go_wp2_with fail
          go_ret
          exact ⟨rfl, (HB11.out.alloc HB11.out.size _).alloc (by rw [World.size_alloc]; have := HB11.out.size; omega) _⟩
        · have s1 := stateV_no he
          rw [s1] at H4
          obtain ⟨⟨r1, r2, r3, r4, r5, r6⟩, hs2⟩ : ∃ t, stateV (1 + a0 % 1000) (l ++ [(⟨4, 0, 1 + a2 % 1000000000⟩ : S36)]) (min 36524 on_) = t := ⟨_, rfl⟩
          rw [hs2] at H5
          clear hs2 he s1
          refine (capital_State.calls k4 _ A1 c1 l _ _ _ _ _ _ _ w8 HR8.out HC.out (TabOk.below HT.out HB8.out) H4).mono ?_
          rintro e w9 ⟨rfl, hb9⟩
          have HB9 := Lib.hid (HB8.out.trans (Below.mono hb9 HB8.out.size))
          have HC9 := Lib.hid (Kd.C_below HC8.out (Below.mono hb9 (Nat.le_refl _)))
          have H5' := Lib.hid H5
          clear H4 H5 hb9 HR8 HB8 HC8
          go_wp2_with fail
          have hsz := World.size_alloc w9 (Obj.cells #[Value.int IntKind.i64 0, Value.int IntKind.i64 0, Value.int IntKind.i64 0, Value.int IntKind.i64 0, Value.int IntKind.i64 0] 26)
          have hbw := (Below.refl w9.heap.size w9).alloc (Nat.le_refl _) (Obj.cells #[Value.int IntKind.i64 0, Value.int IntKind.i64 0, Value.int IntKind.i64 0, Value.int IntKind.i64 0, Value.int IntKind.i64 0] 26)
          generalize w9.alloc (Obj.cells #[Value.int IntKind.i64 0, Value.int IntKind.i64 0, Value.int IntKind.i64 0, Value.int IntKind.i64 0, Value.int IntKind.i64 0] 26) = w9' at hsz hbw ⊢
          refine (cohousinglaw32_count.calls a0 (1 + a0 % 1000) w9' (count_f a0 h0.1 h0.2)).mono ?_
          rintro e w10 ⟨rfl, hd10⟩
          have hb10 : Below w9.heap.size w9 w10 := hbw.trans (Below.mono hd10.below (by omega))
          have HB10 := Lib.hid (show Below w.heap.size w w10 from HB9.out.trans (Below.mono hb10 HB9.out.size))
          have HC10 := Lib.hid (Kd.C_below HC9.out hb10)
          have HT10 := Lib.hid (TabOk.below HT.out HB10.out)
          clear hsz hbw hd10 hb10 HC9
          go_wp2_with fail
          have CS := capital_State.calls k5 _ Ao co _ _ _ _ _ _ _ _ w10 HC10.out HC4.out HT10.out H5'.out
          rw [HLM.out] at CS
          refine CS.mono ?_
          clear CS
          rintro e w11 ⟨rfl, hb11⟩
          have HB11 := Lib.hid (HB10.out.trans (Below.mono hb11 HB10.out.size))
          clear hb11 HB10 HC10 HT10 H5'
          go_wp2_with fail
          go_ret
          exact ⟨rfl, HB11.out.alloc HB11.out.size _⟩
    · have d2 : decide ((0 : Int) < (l.length : Int)) = true := decide_eq_true (by omega)
      have d3 : decide (0 < l.length) = true := decide_eq_true (by omega)
      obtain ⟨x, hx⟩ : ∃ x, l[l.length - 1]? = some x := ⟨_, List.getElem?_eq_getElem (by omega)⟩
      have hlx : last = x.f1 := by
        rw [HL.out, if_neg hz]
        have e : rd_T36 l ((l.length - 1 : Nat) : Int) = x := by unfold rd_T36; simp [List.getD, hx]
        rw [e]
      have hx1 : 0 ≤ x.f1 ∧ x.f1 ≤ 36524 := by
        have h := good_days l bk1 0 (valid_good HVV.out).1 x (List.mem_of_getElem? hx)
        exact ⟨h.1, h.2.1⟩
      have x0 : 0 ≤ last := by rw [hlx]; exact hx1.1
      have x1 : last ≤ 36524 := by rw [hlx]; exact hx1.2
      obtain ⟨ad, rfl, hld⟩ := steps_three HR.out hx
      rw [← hlx] at hld
      have HLD := Lib.hid (fun W hW => (hld W hW).2.1)
      obtain ⟨m, hm⟩ : ∃ m, l.length - 1 = m := ⟨_, rfl⟩
      have m0 : m < l.length := by omega
      have m1 : (l.length : Int) - 1 = (m : Int) := by omega
      rw [hm] at HLD
      clear hz hlx hx1 hld hx hm HL
      go_enter Tryd.func7, Tryd.ntmps7
      go_wp2_with fail
      refine HH.out.mono ?_
      rintro e w1 ⟨rfl, hb1⟩
      go_wp2_with fail
      refine (HV1.out w1 hb1).mono ?_
      rintro e w2 ⟨rfl, hb2⟩
      have hb := hb1.trans (Below.mono hb2 hb1.size)
      clear hb1 hb2
      have ld := HLD.out w2 hb
      go_wp2_with (first
        | ((with_reducible refine gate_dst (N := 43) rfl ?_); refine Kd.R_lit k36 _ 36 ?hg (N := 43) ?hd (xs := ([] : List S36)) (inner := []) (ok := fun _ => True) (okp := fun _ => True) ?hr ?hp (fun _ hk => hk) trivial (Below.refl _ _) (Nat.le_refl _) (by simp) ?_; (case hd => rfl); (case hg => rfl); (case hr => first | (go_simp; done) | (go_simp; rfl)); (case hp => exact (Reps.none _ _)); intro v3 w3 ho3 hb3 hg_ hnew_; clear hg_ hnew_; have HO3 := Lib.hid (Kd.R_lower ho3 hb.size); have HB3 := Lib.hid (below_step hb hb3); clear ho3 hb3 hb)
        | ((with_reducible refine gate_builtin (b := .append) (xs := #[.tmp 43, .tmp 44]) rfl ?_); at_builtin; refine Kd.R_append_rows k36 (w0 := w) w.heap.size rfl (.tmp 43) (.tmp 44) 22 36 (.agg #[(.int .i64 0), (.int .i64 0), (.int .i64 0)]) 24 rfl Tryd.underlying22 info36 rfl (by decide) (by omega) v3 [] l _ _ _ (fun _ => True) (fun _ => False) rfl rfl ?aO ?aR (fun _ _ h => h) (fun _ h => h.elim) (fun _ _ => trivial) HB3.out HB3.out.size ?aL ?_; (case aR => exact Kd.C_below HR.out HB3.out); (case aO => exact HO3.out); (case aL => simp; omega); intro v4 w4 ho4 hb4 hg hat; have HO4 := Lib.hid ho4; have HB4 := Lib.hid hb4; clear ho4 hb4 hg hat HO3 HB3)
        | ((with_reducible refine gate_builtin (b := .append) (xs := #[.tmp 45, .tmp 49]) rfl ?_); at_builtin; refine Kd.R_append k36 (w0 := w) w.heap.size rfl (.tmp 45) (.tmp 49) 22 36 (.agg #[(.int .i64 0), (.int .i64 0), (.int .i64 0)]) 24 rfl Tryd.underlying22 info36 rfl (by decide) (by omega) v4 ([] ++ l) (⟨4, last, 1 + a2 % 1000000000⟩ : S36) [.int .i64 4, .int .i64 last, .int .i64 (1 + a2 % 1000000000)] (fun _ => True) (fun _ => False) rfl rfl ?aP (fun _ hk => hk.elim) (fun _ _ => trivial) ?aO ?aB ?aS ?aL ?_; (case aP => exact k36_mkM _ _ _ (⟨4, last, 1 + a2 % 1000000000⟩ : S36)); (case aB => exact HB4.out); (case aO => exact HO4.out); (case aS => exact HB4.out.size); (case aL => simp; omega); intro v5 w5 ho5 hb5 hg hat; have HO5 := Lib.hid ho5; have HB5 := Lib.hid hb5; clear ho5 hb5 hg hat HO4 HB4; obtain ⟨Ao, co, eo⟩ := Kd.R_slice HO5.out; subst eo))
      have hO := HO5.out
      rw [List.nil_append] at hO
      obtain ⟨hq1, hq2, hq3⟩ := Kd.R_reads' hO
      have hlM : (l ++ [(⟨4, last, 1 + a2 % 1000000000⟩ : S36)]).length = l.length + 1 := by simp
      have HC3 := Lib.hid hq3
      have HC4 := Lib.hid (show (l ++ [(⟨4, last, 1 + a2 % 1000000000⟩ : S36)]).length ≤ co from by rw [← hq1]; exact hq2)
      have hlM2 : (l ++ [(⟨4, last, 1 + a2 % 1000000000⟩ : S36)]).length ≤ 9223372036854775807 := by rw [hlM]; omega
      obtain ⟨k3, H3⟩ := (refvalid_ev (l ++ [(⟨4, last, 1 + a2 % 1000000000⟩ : S36)]) hlM2).rounds
      have CV := fun r (h : validV (l ++ [(⟨4, last, 1 + a2 % 1000000000⟩ : S36)]) = r) => cohousingref32_Valid.calls k3 Ao co (l ++ [(⟨4, last, 1 + a2 % 1000000000⟩ : S36)]) r w5 HC3.out HC4.out (by rw [← h]; exact H3)
      rw [hlM] at CV
      have HLM := Lib.hid hlM
      clear hO hq1 hq2 hq3 hlM hlM2 H3
      cases hm : validV (l ++ [(⟨4, last, 1 + a2 % 1000000000⟩ : S36)]) with
      | false =>
        refine (CV false hm).mono ?_
        rintro e w6 ⟨rfl, hb6⟩
        have CC := capital_Valid.calls Ao co (l ++ [(⟨4, last, 1 + a2 % 1000000000⟩ : S36)]) false w6 (Kd.C_below HC3.out hb6) HC4.out (TabOk.below HT.out (HB5.out.trans (Below.mono hb6 HB5.out.size))) (by unfold capital_Valid.f; rw [hm])
        rw [HLM.out] at CC
        have HB6 := Lib.hid (HB5.out.trans (Below.mono hb6 HB5.out.size))
        clear CV hm hb6
        go_wp2_with fail
        refine CC.mono ?_
        rintro e w7 ⟨rfl, hb7⟩
        go_wp2_with fail
        go_ret
        exact ⟨rfl, HB6.out.trans (Below.mono hb7 HB6.out.size)⟩
      | true =>
        refine (CV true hm).mono ?_
        rintro e w6 ⟨rfl, hb6⟩
        have HC6 := Lib.hid (Kd.C_below HC3.out hb6)
        have HB6 := Lib.hid (HB5.out.trans (Below.mono hb6 HB5.out.size))
        have HM := Lib.hid hm
        clear CV hm hb6 HC3
        go_wp2_with fail
        refine (cohousinglaw32_on.calls a3 (a3 % 36525) w6 (on_f a3 h3.1 h3.2)).mono ?_
        rintro e w7 ⟨rfl, hd7⟩
        have HB7 := Lib.hid (below_step HB6.out hd7.below)
        have HC7 := Lib.hid (Kd.C_below HC6.out hd7.below)
        clear hd7
        have o0 : 0 ≤ a3 % 36525 := by omega
        have o1 : a3 % 36525 ≤ 36524 := by omega
        have ON := Lib.hid (show True from trivial)
        generalize a3 % 36525 = on_ at *
        have sh0 : 1 ≤ 1 + a0 % 1000 := by omega
        have sh1 : 1 + a0 % 1000 ≤ 1000 := by omega
        go_wp2_with fail
        refine (cohousinglaw32_count.calls a0 (1 + a0 % 1000) w7 (count_f a0 h0.1 h0.2)).mono ?_
        rintro e w8 ⟨rfl, hd8⟩
        have HB8 := Lib.hid (below_step HB7.out hd8.below)
        have HC8 := Lib.hid (Kd.C_below HC7.out hd8.below)
        clear hd8
        go_wp2_with fail
        have day0 : 0 ≤ min 36524 (last + on_) := by omega
        have day1 : min 36524 (last + on_) ≤ 36524 := by omega
        obtain ⟨k4, H4⟩ := (State_ev (1 + a0 % 1000) l (min 36524 (last + on_)) HVV.out sh0 sh1 day0 day1).rounds
        obtain ⟨k5, H5⟩ := (State_ev (1 + a0 % 1000) (l ++ [(⟨4, last, 1 + a2 % 1000000000⟩ : S36)]) (min 36524 (last + on_)) HM.out sh0 sh1 day0 day1).rounds
        have HR8 := Lib.hid (Kd.C_below HR.out HB8.out)
        by_cases he : (stateV (1 + a0 % 1000) l (min 36524 (last + on_))).2.2.2.2.2 = 0
        · obtain ⟨A, A2, s1, s2, q1, q2, p0, p1, v0, v1, i0, i1, l0, l1⟩ := lien_yes a0 l last (1 + a2 % 1000000000) on_ (by omega) HVV.out HM.out (by omega) (by omega) (by omega) (by omega) o0 o1 h0.1 he
          rw [s1] at H4
          rw [s2] at H5
          have eD : max 0 (min A.paid A.value + A.interest - (A.lien + (1 + a2 % 1000000000))) = dueV A2 := q2.symm
          have hge : dueV A - (1 + a2 % 1000000000) ≤ dueV A2 := by rw [q1, q2]; omega
          have hle : dueV A2 ≤ dueV A := by rw [q1, q2]; omega
          have D10 : 0 ≤ dueV A ∧ dueV A ≤ 2000000000 := by rw [q1]; omega
          have D20 : 0 ≤ dueV A2 ∧ dueV A2 ≤ 2000000000 := by rw [q2]; omega
          clear q1 q2 s1 s2 he
          generalize dueV A = D1_, dueV A2 = D2_, A.paid = p_, A.value = v_, A.interest = i_, A.lien = li_ at *
          clear A A2
          refine (capital_State.calls k4 _ (some ad) c1 l _ _ _ _ _ _ _ w8 HR8.out HC.out (TabOk.below HT.out HB8.out) H4).mono ?_
          rintro e w9 ⟨rfl, hb9⟩
          have HB9 := Lib.hid (HB8.out.trans (Below.mono hb9 HB8.out.size))
          have HC9 := Lib.hid (Kd.C_below HC8.out (Below.mono hb9 (Nat.le_refl _)))
          have HT9 := Lib.hid (TabOk.below HT.out HB9.out)
          have H5' := Lib.hid H5
          clear H4 H5 hb9 HR8 HB8 HC8
          go_wp2_with fail
          have hbx := Blk.new w9 26 [Value.int IntKind.i64 p_, Value.int IntKind.i64 v_, Value.int IntKind.i64 i_, Value.int IntKind.i64 li_, Value.int IntKind.i64 D1_]
          have hsz := World.size_alloc w9 (Obj.cells (List.toArray [Value.int IntKind.i64 p_, Value.int IntKind.i64 v_, Value.int IntKind.i64 i_, Value.int IntKind.i64 li_, Value.int IntKind.i64 D1_]) 26)
          have hbw := (Below.refl w9.heap.size w9).alloc (Nat.le_refl _) (Obj.cells (List.toArray [Value.int IntKind.i64 p_, Value.int IntKind.i64 v_, Value.int IntKind.i64 i_, Value.int IntKind.i64 li_, Value.int IntKind.i64 D1_]) 26)
          rw [show (List.toArray [Value.int IntKind.i64 p_, Value.int IntKind.i64 v_, Value.int IntKind.i64 i_, Value.int IntKind.i64 li_, Value.int IntKind.i64 D1_]) = #[Value.int IntKind.i64 p_, Value.int IntKind.i64 v_, Value.int IntKind.i64 i_, Value.int IntKind.i64 li_, Value.int IntKind.i64 D1_] from rfl] at hbx hsz hbw
          generalize w9.alloc (Obj.cells #[Value.int IntKind.i64 p_, Value.int IntKind.i64 v_, Value.int IntKind.i64 i_, Value.int IntKind.i64 li_, Value.int IntKind.i64 D1_] 26) = w9' at hbx hsz hbw ⊢
          refine (cohousinglaw32_count.calls a0 (1 + a0 % 1000) w9' (count_f a0 h0.1 h0.2)).mono ?_
          rintro e w10 ⟨rfl, hd10⟩
          have hb10 : Below w9.heap.size w9 w10 := hbw.trans (Below.mono hd10.below (by omega))
          have HX10 := Lib.hid (hbx.below hd10.below hbx.lt)
          have HB10 := Lib.hid (show Below w.heap.size w w10 from HB9.out.trans (Below.mono hb10 HB9.out.size))
          have HC10 := Lib.hid (Kd.C_below HC9.out hb10)
          have HT10 := Lib.hid (TabOk.below HT.out HB10.out)
          clear hbx hsz hbw hd10 hb10 HC9 HT9
          go_wp2_with fail
          have CS := capital_State.calls k5 _ Ao co _ _ _ _ _ _ _ _ w10 HC10.out HC4.out HT10.out H5'.out
          rw [HLM.out] at CS
          refine CS.mono ?_
          clear CS
          rintro e w11 ⟨rfl, hb11⟩
          have HX11 := Lib.hid (HX10.out.below hb11 HX10.out.lt)
          have HB11 := Lib.hid (HB10.out.trans (Below.mono hb11 HB10.out.size))
          clear hb11 HX10 HB10 HC10 HT10 H5'
          have c := fun o o' i v h => ((HX11.out.alloc o).alloc o').cell i v h
          have c0 := fun o o' => c o o' 0 _ rfl
          have c1 := fun o o' => c o o' 1 _ rfl
          have c2 := fun o o' => c o o' 2 _ rfl
          have c3 := fun o o' => c o o' 3 _ rfl
          have c4 := fun o o' => c o o' 4 _ rfl
          have d := fun o i v h => (HX11.out.alloc o).cell i v h
          have d0 := fun o => d o 0 _ rfl
          have d1 := fun o => d o 1 _ rfl
          have d2 := fun o => d o 2 _ rfl
          have d3 := fun o => d o 3 _ rfl
          have d4 := fun o => d o 4 _ rfl
          clear c d
          go_wp2_with fail
          go_ret
          exact ⟨rfl, (HB11.out.alloc HB11.out.size _).alloc (by rw [World.size_alloc]; have := HB11.out.size; omega) _⟩
        · have s1 := stateV_no he
          rw [s1] at H4
          obtain ⟨⟨r1, r2, r3, r4, r5, r6⟩, hs2⟩ : ∃ t, stateV (1 + a0 % 1000) (l ++ [(⟨4, last, 1 + a2 % 1000000000⟩ : S36)]) (min 36524 (last + on_)) = t := ⟨_, rfl⟩
          rw [hs2] at H5
          clear hs2 he s1
          refine (capital_State.calls k4 _ (some ad) c1 l _ _ _ _ _ _ _ w8 HR8.out HC.out (TabOk.below HT.out HB8.out) H4).mono ?_
          rintro e w9 ⟨rfl, hb9⟩
          have HB9 := Lib.hid (HB8.out.trans (Below.mono hb9 HB8.out.size))
          have HC9 := Lib.hid (Kd.C_below HC8.out (Below.mono hb9 (Nat.le_refl _)))
          have H5' := Lib.hid H5
          clear H4 H5 hb9 HR8 HB8 HC8
          go_wp2_with fail
          have hsz := World.size_alloc w9 (Obj.cells #[Value.int IntKind.i64 0, Value.int IntKind.i64 0, Value.int IntKind.i64 0, Value.int IntKind.i64 0, Value.int IntKind.i64 0] 26)
          have hbw := (Below.refl w9.heap.size w9).alloc (Nat.le_refl _) (Obj.cells #[Value.int IntKind.i64 0, Value.int IntKind.i64 0, Value.int IntKind.i64 0, Value.int IntKind.i64 0, Value.int IntKind.i64 0] 26)
          generalize w9.alloc (Obj.cells #[Value.int IntKind.i64 0, Value.int IntKind.i64 0, Value.int IntKind.i64 0, Value.int IntKind.i64 0, Value.int IntKind.i64 0] 26) = w9' at hsz hbw ⊢
          refine (cohousinglaw32_count.calls a0 (1 + a0 % 1000) w9' (count_f a0 h0.1 h0.2)).mono ?_
          rintro e w10 ⟨rfl, hd10⟩
          have hb10 : Below w9.heap.size w9 w10 := hbw.trans (Below.mono hd10.below (by omega))
          have HB10 := Lib.hid (show Below w.heap.size w w10 from HB9.out.trans (Below.mono hb10 HB9.out.size))
          have HC10 := Lib.hid (Kd.C_below HC9.out hb10)
          have HT10 := Lib.hid (TabOk.below HT.out HB10.out)
          clear hsz hbw hd10 hb10 HC9
          go_wp2_with fail
          have CS := capital_State.calls k5 _ Ao co _ _ _ _ _ _ _ _ w10 HC10.out HC4.out HT10.out H5'.out
          rw [HLM.out] at CS
          refine CS.mono ?_
          clear CS
          rintro e w11 ⟨rfl, hb11⟩
          have HB11 := Lib.hid (HB10.out.trans (Below.mono hb11 HB10.out.size))
          clear hb11 HB10 HC10 HT10 H5'
          go_wp2_with fail
          go_ret
          exact ⟨rfl, HB11.out.alloc HB11.out.size _⟩
end Go.Proofs.YtdhnojfpgpjabaaDoor.P
