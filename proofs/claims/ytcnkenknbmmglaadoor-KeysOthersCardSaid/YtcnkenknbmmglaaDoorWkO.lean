/- Chapter 20: KeysOthers, walked. -/
import Derived.Test.YtcnkenknbmmglaaDoorLkO
import Derived.Test.YtcnkenknbmmglaaDoorGp2R
import Derived.Deep.RegionHeld3
set_option linter.unusedSimpArgs false
set_option linter.unusedVariables false
namespace Go.Proofs.YtcnkenknbmmglaaDoor.P
open Go Go.RowKit Go.Proofs.YtcnkenknbmmglaaDoorW.PrintWords Go.Proofs.YtcnkenknbmmglaaDoorW.PrintLast Go.Proofs.YtcnkenknbmmglaaDoorW.PrintMore Go.Proofs.YtcnkenknbmmglaaDoor.Ord

theorem wf_u64' {a : Int} (h : (Lit.int .u16 a).wf = true) : 0 ≤ a ∧ a ≤ 65535 := by
  simp [Lit.wf, IntKind.min, IntKind.max, IntKind.bits, IntKind.signed] at h
  omega
theorem lit_V1 (W : World) (a : S28) : Kd.C k28 (W.alloc (Obj.cells #[.int .i64 a.f0, .int .i64 a.f1, .int .i64 a.f2, .int .i64 a.f3, .int .i64 a.f4.f0, .int .i64 a.f4.f1] 28)) (some ⟨W.heap.size, 0, none⟩) 1 [a] :=
  C_parts (d := k28) W [a] [vC a] 28 (by simp) ⟨k28_mk _ _, trivial⟩
theorem lit_args1 (W : World) (a : S28) : ∃ W', (W.alloc (Obj.cells #[.int .i64 1, .int .i64 2] 3)).alloc (Obj.cells #[.int .i64 a.f0, .int .i64 a.f1, .int .i64 a.f2, .int .i64 a.f3, .int .i64 a.f4.f0, .int .i64 a.f4.f1] 28) = W' ∧
    Kd.C (Kd.int .i64) W' (some ⟨W.heap.size, 0, none⟩) 2 [1, 2] ∧ Kd.C k28 W' (some ⟨W.heap.size + 1, 0, none⟩) 1 [a] ∧ Below W.heap.size W W' := by
  have h1 := lit_I2 W 1 2
  have e : (W.alloc (Obj.cells #[.int .i64 1, .int .i64 2] 3)).heap.size = W.heap.size + 1 := World.size_alloc _ _
  have b1 := (Below.refl W.heap.size W).alloc (Nat.le_refl _) (Obj.cells #[.int .i64 1, .int .i64 2] 3)
  generalize W.alloc (Obj.cells #[.int .i64 1, .int .i64 2] 3) = W1 at *
  have h2 := lit_V1 W1 a
  have b2 := (Below.refl W1.heap.size W1).alloc (Nat.le_refl _) (Obj.cells #[.int .i64 a.f0, .int .i64 a.f1, .int .i64 a.f2, .int .i64 a.f3, .int .i64 a.f4.f0, .int .i64 a.f4.f1] 28)
  rw [e] at h2
  exact ⟨_, rfl, Kd.C_below h1 b2, h2, b1.trans (Below.mono b2 (by omega))⟩
set_option maxHeartbeats 8000000 in
set_option maxRecDepth 100000 in
theorem others_walk (n0 n1 n2 n3 other once day : Int) (w : World) (hT : TabOk w) (h0 : (Lit.int .u64 n0).wf = true) (h1 : (Lit.int .u64 n1).wf = true) (h2 : (Lit.int .u64 n2).wf = true) (h3 : (Lit.int .u64 n3).wf = true) (h4 : (Lit.int .u64 other).wf = true) (h5 : (Lit.int .u64 once).wf = true) (h6 : (Lit.int .u16 day).wf = true) :
    Calls Tryd.prog 6 #[.agg #[.int .u64 n0, .int .u64 n1, .int .u64 n2, .int .u64 n3], .int .u64 other, .int .u64 once, .int .u16 day] w fun e w' => e = .returned (.bool true) ∧ Below w.heap.size w w' := by
  have HT := Lib.hid hT
  have HW := Lib.hid (And.intro h0 (And.intro h1 (And.intro h2 (And.intro h3 (And.intro h4 h5)))))
  obtain ⟨d0, d1⟩ := wf_u64' h6
  clear hT h0 h1 h2 h3 h4 h5 h6
  go_enter Tryd.func6, Tryd.ntmps6
  go_wp2_with fail
  obtain ⟨hx1, -, hb1⟩ := Blk.box w 44 [.int .u64 n0, .int .u64 n1, .int .u64 n2, .int .u64 n3]
  rw [show (List.toArray [Value.int .u64 n0, .int .u64 n1, .int .u64 n2, .int .u64 n3]) = #[.int .u64 n0, .int .u64 n1, .int .u64 n2, .int .u64 n3] from rfl] at hx1 hb1
  generalize w.alloc (Obj.cells #[.int .u64 n0, .int .u64 n1, .int .u64 n2, .int .u64 n3] 44) = w1 at *
  have HX1 := Lib.hid hx1
  have HB1 := Lib.hid hb1
  clear hx1 hb1
  refine (cohousinglaw20_head.calls true w1 (TabOk.below HT.out HB1.out) rfl).mono ?_
  rintro e w2 ⟨rfl, hd⟩
  have HX2 := Lib.hid (HX1.out.below hd HX1.out.lt)
  have HB2 := Lib.hid (HB1.out.trans (Below.mono hd HB1.out.size))
  clear hd HX1 HB1
  have c0 := HX2.out.cell 0 _ rfl
  have c1 := HX2.out.cell 1 _ rfl
  have c2 := HX2.out.cell 2 _ rfl
  have c3 := HX2.out.cell 3 _ rfl
  go_wp2_with fail
  clear c0 c1 c2 c3
  refine (vill_calls n0 n1 n2 n3 w2 HW.out.1 HW.out.2.1 HW.out.2.2.1 HW.out.2.2.2.1).mono ?_
  rintro e w3 ⟨v3, rfl, hR3, hd⟩
  have HX3 := Lib.hid (HX2.out.below hd HX2.out.lt)
  have HB3 := Lib.hid (HB2.out.trans (Below.mono hd HB2.out.size))
  obtain ⟨A3, n3', hv3, p3, q3⟩ := Kd.R_reads hR3
  subst hv3
  rw [show (villV n0 n1 n2 n3).length = 4 from rfl] at p3 q3 ⊢
  have HV3 := Lib.hid (And.intro p3 q3)
  clear hd HX2 HB2 hR3 p3 q3
  obtain ⟨on, hon⟩ : ∃ o, 1 + day % 36524 = o := ⟨_, rfl⟩
  have e1 : IntKind.i64.wrap day = day := by rw [IntKind.wrap_i64]; omega
  have e2 : Int.tmod day 36524 = day % 36524 := Int.tmod_eq_emod_of_nonneg d0
  have e3 : IntKind.i64.wrap (1 + day % 36524) = 1 + day % 36524 := by rw [IntKind.wrap_i64]; omega
  go_wp2_with fail
  have hon2 : 1 ≤ on ∧ on ≤ 36524 := by omega
  clear e1 e2 e3 hon d0 d1
  refine (cohousingref08_Secret.calls other (sec other) w3 (refSecretOf_f _ HW.out.2.2.2.2.1)).mono ?_
  rintro e w4 ⟨rfl, hd⟩
  have HX4 := Lib.hid (HX3.out.below hd.below HX3.out.lt)
  have HB4 := Lib.hid (HB3.out.trans (Below.mono hd.below HB3.out.size))
  have HV4 := Lib.hid (And.intro HV3.out.1 (Kd.C_below HV3.out.2 hd.below))
  clear hd HX3 HB3 HV3
  go_wp2_with fail
  refine (cohousingref08_Secret.calls once (sec once) w4 (refSecretOf_f _ HW.out.2.2.2.2.2)).mono ?_
  rintro e w5 ⟨rfl, hd⟩
  have HX5 := Lib.hid (HX4.out.below hd.below HX4.out.lt)
  have HB5 := Lib.hid (HB4.out.trans (Below.mono hd.below HB4.out.size))
  have HV5 := Lib.hid (And.intro HV4.out.1 (Kd.C_below HV4.out.2 hd.below))
  clear hd HX4 HB4 HV4
  go_wp2_with fail
  obtain ⟨x, hx⟩ : ∃ x, mkV 4 16 on 1 (sec other) (sec once) = x := ⟨_, rfl⟩
  obtain ⟨a0, ha0⟩ : ∃ a, x.f4.f0 = a := ⟨_, rfl⟩
  obtain ⟨a1, ha1⟩ : ∃ a, x.f4.f1 = a := ⟨_, rfl⟩
  have hvo : vouchV 4 16 on 1 (sec other) (sec once) = (4, 16, on, 1, a0, a1, 0) := by
    unfold vouchV
    rw [vouch_ok (h := 4) (p := 16) (on := on) (b := 1) rfl rfl (by decide) key_16 (dayV_iff.2 (by omega)) (sec_lt other).1 (sec_lt other).2 (sec_lt once).1 (sec_lt once).2, if_pos rfl, ← ha0, ← ha1, ← hx]
    rfl
  have hxe : x = ⟨4, 16, on, 1, ⟨a0, a1⟩⟩ := by rw [← ha0, ← ha1, ← hx]; rfl
  obtain ⟨right, g, m, q1, q2, q3, q4, q5⟩ := others_core n0 n1 n2 n3 on other once hon2
  rw [hx, ha0, ha1] at q1
  rw [hx, hxe] at q2
  have HQ := Lib.hid (And.intro q1 (And.intro q2 (And.intro q3 (And.intro q4 (And.intro q5 hon2)))))
  clear q1 q2 q3 q4 q5 ha0 ha1 hx hxe hon2
  refine (keys_Vouch.calls 12 4 16 on 1 (sec other) (sec once) 4 16 on 1 a0 a1 0 w5 (TabOk.below HT.out HB5.out) (by rw [vouch_f _ _ _ _ _ _ _ (by omega), hvo])).mono ?_
  rintro e w6 ⟨rfl, hd⟩
  have HX6 := Lib.hid (HX5.out.below hd HX5.out.lt)
  have HB6 := Lib.hid (HB5.out.trans (Below.mono hd HB5.out.size))
  have HV6 := Lib.hid (And.intro HV5.out.1 (Kd.C_below HV5.out.2 hd))
  clear hd HX5 HB5 HV5 hvo
  go_wp2_with fail
  obtain ⟨hx7, hs7, hb7⟩ := Blk.box w6 28 [.int .i64 4, .int .i64 16, .int .i64 on, .int .i64 1, .int .i64 a0, .int .i64 a1]
  rw [show (List.toArray [Value.int .i64 4, .int .i64 16, .int .i64 on, .int .i64 1, .int .i64 a0, .int .i64 a1]) = #[.int .i64 4, .int .i64 16, .int .i64 on, .int .i64 1, .int .i64 a0, .int .i64 a1] from rfl] at hx7 hs7 hb7
  generalize w6.alloc (Obj.cells #[.int .i64 4, .int .i64 16, .int .i64 on, .int .i64 1, .int .i64 a0, .int .i64 a1] 28) = w7 at *
  have HX7 := Lib.hid (HX6.out.below hb7 HX6.out.lt)
  have HB7 := Lib.hid (HB6.out.trans (Below.mono hb7 HB6.out.size))
  have HV7 := Lib.hid (And.intro HV6.out.1 (Kd.C_below HV6.out.2 hb7))
  have HY7 := Lib.hid hx7
  clear hx7 hs7 hb7 HX6 HB6 HV6
  generalize w6.heap.size = bx at *
  obtain ⟨ad, eA, l0, l1, l2⟩ := at_T49 HV7.out.2 0 (by omega) (by omega)
  subst eA
  have ea : ad.add 0 = ad := rfl
  simp only [Int.toNat_zero, Nat.zero_mul, ea] at l1
  rw [show (rd_T49 (villV n0 n1 n2 n3) 0).f1 = (pub (sec n0) : Int) from rfl] at l1
  have y4 := HY7.out.cell 4 _ rfl
  have y5 := HY7.out.cell 5 _ rfl
  clear l0 l2 ea
  have HVE := Lib.hid (show cohousingref08_Verify.f 30000 (pub (sec n0)) a0 a1 [4, 16, on] = some (right, 0) by rw [refVerify_f _ _ _ _ (msg_key (h := 4) (p := 16) rfl key_16 (dayV_iff.2 (by have := HQ.out.2.2.2.2.2; omega))) _ (Nat.le_refl _), HQ.out.1])
  have HS7 := Lib.hid (And.intro l1 (And.intro y4 y5))
  go_region_held3 (fun W => W.cell? ⟨ad.block, ad.off + 1, none⟩ = some (.int .i64 (pub (sec n0) : Int)) ∧ W.cell? ⟨bx, 4, none⟩ = some (.int .i64 a0) ∧ W.cell? ⟨bx, 5, none⟩ = some (.int .i64 a1))
    (first | go_keep | exact ⟨pw_cell_below hw8 HS7.out.1, pw_cell_below hw8 HS7.out.2.1, pw_cell_below hw8 HS7.out.2.2⟩)
    (first | (go_at_call 22; refine (cohousingref08_Verify.calls 30000 (pub (sec n0)) a0 a1 _ 3 [4, 16, on] right 0 _ (by first | exact C_blk3 (Blk.box w7 3 [.int .i64 4, .int .i64 16, .int .i64 on]).1 | exact C_blk3 (Blk.box w7 3 [.int .i64 4, .int .i64 16, .int .i64 on]).1.drew | exact C_blk3 (Blk.box w7.drew 3 [.int .i64 4, .int .i64 16, .int .i64 on]).1) (Nat.le_refl _) HVE.out).mono ?_; rintro e w8 ⟨rfl, hd8⟩; have hw8 : Below w7.heap.size w7 w8 := Below.trans (by repeat (first | exact Below.refl _ _ | refine Below.alloc ?_ (Nat.le_refl _) _ | refine Below.drew ?_)) (Below.mono hd8 (by first | exact Nat.le_refl _ | simp))))
  all_goals
    have HX8 := Lib.hid (HX7.out.below hw8 HX7.out.lt)
    have HB8 := Lib.hid (HB7.out.trans (Below.mono hw8 HB7.out.size))
    have HV8 := Lib.hid (And.intro HV7.out.1 (Kd.C_below HV7.out.2 hw8))
    have HY8 := Lib.hid (HY7.out.below hw8 HY7.out.lt)
    clear hd8 hw8 l1 y4 y5
    have c0 : ∀ o, (w8.alloc o).cell? ⟨bx, 0, none⟩ = _ := fun o => (HY8.out.alloc o).cell 0 _ rfl
    have c1 : ∀ o, (w8.alloc o).cell? ⟨bx, 1, none⟩ = _ := fun o => (HY8.out.alloc o).cell 1 _ rfl
    have c2 : ∀ o, (w8.alloc o).cell? ⟨bx, 2, none⟩ = _ := fun o => (HY8.out.alloc o).cell 2 _ rfl
    have c3 : ∀ o, (w8.alloc o).cell? ⟨bx, 3, none⟩ = _ := fun o => (HY8.out.alloc o).cell 3 _ rfl
    have c4 : ∀ o, (w8.alloc o).cell? ⟨bx, 4, none⟩ = _ := fun o => (HY8.out.alloc o).cell 4 _ rfl
    have c5 : ∀ o, (w8.alloc o).cell? ⟨bx, 5, none⟩ = _ := fun o => (HY8.out.alloc o).cell 5 _ rfl
    go_wp2_with fail
    clear c0 c1 c2 c3 c4 c5
    obtain ⟨w9, hw9, hi9, hv9, hb9⟩ := lit_args1 w8 (⟨4, 16, on, 1, ⟨a0, a1⟩⟩ : S28)
    simp only at hw9
    rw [hw9]
    have HX9 := Lib.hid (HX8.out.below hb9 HX8.out.lt)
    have HB9 := Lib.hid (HB8.out.trans (Below.mono hb9 HB8.out.size))
    have HV9 := Lib.hid (And.intro HV8.out.1 (Kd.C_below HV8.out.2 hb9))
    refine (keys_Renew.calls _ n3' (villV n0 n1 n2 n3) _ 2 [1, 2] 1 _ 1 [(⟨4, 16, on, 1, ⟨a0, a1⟩⟩ : S28)] m g w9 HV9.out.2 HV9.out.1 hi9 (Nat.le_refl _) hv9 (Nat.le_refl _) (TabOk.below HT.out HB9.out) (congrArg some HQ.out.2.1)).mono ?_
    rintro e w10 ⟨v, rfl, hR, hd⟩
    have HX10 := Lib.hid (HX9.out.below hd HX9.out.lt)
    have HB10 := Lib.hid (HB9.out.trans (Below.mono hd HB9.out.size))
    clear hw9 hi9 hv9 hb9 hR hd HX8 HB8 HV8 HX9 HB9 HV9 HX7 HB7 HV7 HY7 HY8 HS7 HVE
    go_wp2_with fail
    have hS : ∀ V, Held (fun V => Blk V w.heap.size 44 [.int .u64 n0, .int .u64 n1, .int .u64 n2, .int .u64 n3] ∧ Below w.heap.size w V) V → V.cell? ⟨w.heap.size, 0, none⟩ = some (.int .u64 n0) := fun V hV => hV.1.cell 0 _ rfl
    by_cases hsec : sec other = sec n0
    · have hright := HQ.out.2.2.2.2.1 hsec
      have hg : g = 0 := HQ.out.2.2.1.2 hright
      subst hright
      subst hg
      have hs2 : ((sec other : Int) == (sec n0 : Int)) = true := beq_iff_eq.2 (by omega)
      refine wp_region_auto (fun V => Blk V w.heap.size 44 [.int .u64 n0, .int .u64 n1, .int .u64 n2, .int .u64 n3] ∧ Below w.heap.size w V) ((0, none, none) :: (1, none, none) :: (1, none, none) :: (0, none, some true) :: (0, none, some true) :: (0, none, none) :: (0, none, none) :: (0, some (62, true), none) :: (0, some (62, true), none) :: (0, none, none) :: []) (by kernel_rfl) (by kernel_rfl) (fun _ _ d _ _ h => by cases d <;> exact h) ⟨HX10.out.drew, HB10.out.drew⟩ ?_
      repeat' (first
        | (with_reducible apply rel_pass
           focus (intro W hW; first | (go_simp; exact rfl) | go_simp)
           simp only [Act.put, List.setIfInBounds_toArray, List.set_cons_zero, List.set_cons_succ])
        | (with_reducible apply rel_yes
           focus (exact rfl))
        | (with_reducible apply rel_no
           focus (exact rfl)
           simp only [Act.put, List.setIfInBounds_toArray, List.set_cons_zero, List.set_cons_succ])
        | (with_reducible apply rel_askF
           focus (exact rfl)
           all_goals (intro hb; simp only [hb, Act.put, List.setIfInBounds_toArray, List.set_cons_zero, List.set_cons_succ]))
        | (with_reducible apply rel_askT
           focus (exact rfl)
           all_goals (intro hb; simp only [hb, Act.put, List.setIfInBounds_toArray, List.set_cons_zero, List.set_cons_succ]))
        | (with_reducible apply rel_front1)
        | (with_reducible apply rel_front2)
        | (with_reducible apply rel_front3)
        | (with_reducible apply rel_front4)
        | (with_reducible apply rel_front5)
        | (with_reducible apply rel_front6))
      with_reducible apply rel_act
      intro K hK
      go_simp
      refine (cohousingref08_Secret.calls other (sec other) _ (refSecretOf_f _ HW.out.2.2.2.2.1)).mono ?_
      rintro e wA ⟨rfl, hdA⟩
      have HA := Lib.hid (And.intro (HX10.out.drew.below hdA.below HX10.out.lt) (HB10.out.drew.trans (Below.mono hdA.below HB10.out.size)))
      clear hdA
      refine hK _ _ ⟨fun _ => HA.out, ?_⟩
      clear hK K
      try simp only [Act.put, List.setIfInBounds_toArray, List.set_cons_zero, List.set_cons_succ]
      repeat' (first
        | (with_reducible apply rel_pass
           focus (intro W hW; first | (go_simp; exact rfl) | go_simp)
           simp only [Act.put, List.setIfInBounds_toArray, List.set_cons_zero, List.set_cons_succ])
        | (with_reducible apply rel_yes
           focus (exact rfl))
        | (with_reducible apply rel_no
           focus (exact rfl)
           simp only [Act.put, List.setIfInBounds_toArray, List.set_cons_zero, List.set_cons_succ])
        | (with_reducible apply rel_askF
           focus (exact rfl)
           all_goals (intro hb; simp only [hb, Act.put, List.setIfInBounds_toArray, List.set_cons_zero, List.set_cons_succ]))
        | (with_reducible apply rel_askT
           focus (exact rfl)
           all_goals (intro hb; simp only [hb, Act.put, List.setIfInBounds_toArray, List.set_cons_zero, List.set_cons_succ]))
        | (with_reducible apply rel_front1)
        | (with_reducible apply rel_front2)
        | (with_reducible apply rel_front3)
        | (with_reducible apply rel_front4)
        | (with_reducible apply rel_front5)
        | (with_reducible apply rel_front6))
      with_reducible apply rel_act
      intro K hK
      go_simp
      refine (cohousingref08_Secret.calls n0 (sec n0) _ (refSecretOf_f _ HW.out.1)).mono ?_
      rintro e wB ⟨rfl, hdB⟩
      have HB := Lib.hid (And.intro (HA.out.1.below hdB.below HA.out.1.lt) (HA.out.2.trans (Below.mono hdB.below HA.out.2.size)))
      clear hdB
      refine hK _ _ ⟨fun _ => HB.out, ?_⟩
      clear hK K
      try simp only [Act.put, List.setIfInBounds_toArray, List.set_cons_zero, List.set_cons_succ]
      repeat' (first
        | (with_reducible apply rel_pass
           focus (intro W hW; first | (go_simp; exact rfl) | go_simp)
           simp only [Act.put, List.setIfInBounds_toArray, List.set_cons_zero, List.set_cons_succ])
        | (with_reducible apply rel_yes
           focus (exact rfl))
        | (with_reducible apply rel_no
           focus (exact rfl)
           simp only [Act.put, List.setIfInBounds_toArray, List.set_cons_zero, List.set_cons_succ])
        | (with_reducible apply rel_askF
           focus (exact rfl)
           all_goals (intro hb; simp only [hb, Act.put, List.setIfInBounds_toArray, List.set_cons_zero, List.set_cons_succ]))
        | (with_reducible apply rel_askT
           focus (exact rfl)
           all_goals (intro hb; simp only [hb, Act.put, List.setIfInBounds_toArray, List.set_cons_zero, List.set_cons_succ]))
        | (with_reducible apply rel_front1)
        | (with_reducible apply rel_front2)
        | (with_reducible apply rel_front3)
        | (with_reducible apply rel_front4)
        | (with_reducible apply rel_front5)
        | (with_reducible apply rel_front6))
      apply rel_nil
      simp only [Exit.then, Exit.inBlock]
      clear hS
      go_wp2_with fail
      go_ret
      exact ⟨by first | rfl | simp, HB.out.2⟩
    · obtain ⟨s1, hs1⟩ : ∃ s : Int, (sec other : Int) = s := ⟨_, rfl⟩
      obtain ⟨s0, hs0⟩ : ∃ s : Int, (sec n0 : Int) = s := ⟨_, rfl⟩
      have hs2 : (s1 == s0) = false := beq_eq_false_iff_ne.2 (by omega)
      have hs3 : ¬ s1 = s0 := by omega
      have HO1 := Lib.hid (show cohousingref08_Secret.f other = some s1 by rw [refSecretOf_f _ HW.out.2.2.2.2.1, hs1])
      have HO0 := Lib.hid (show cohousingref08_Secret.f n0 = some s0 by rw [refSecretOf_f _ HW.out.1, hs0])
      clear hs1 hs0 hsec
      cases right with
      | true =>
        have hg : g = 0 := HQ.out.2.2.1.2 rfl
        subst hg
        refine wp_region_auto (fun V => Blk V w.heap.size 44 [.int .u64 n0, .int .u64 n1, .int .u64 n2, .int .u64 n3] ∧ Below w.heap.size w V) ((0, none, none) :: (1, none, none) :: (1, none, none) :: (0, none, some true) :: (0, none, some true) :: (0, none, none) :: (0, none, none) :: (0, some (62, true), none) :: (0, some (62, true), none) :: (0, none, none) :: []) (by kernel_rfl) (by kernel_rfl) (fun _ _ d _ _ h => by cases d <;> exact h) ⟨HX10.out.drew, HB10.out.drew⟩ ?_
        repeat' (first
          | (with_reducible apply rel_pass
             focus (intro W hW; first | (go_simp; exact rfl) | go_simp)
             simp only [Act.put, List.setIfInBounds_toArray, List.set_cons_zero, List.set_cons_succ])
          | (with_reducible apply rel_yes
             focus (exact rfl))
          | (with_reducible apply rel_no
             focus (exact rfl)
             simp only [Act.put, List.setIfInBounds_toArray, List.set_cons_zero, List.set_cons_succ])
          | (with_reducible apply rel_askF
             focus (exact rfl)
             all_goals (intro hb; simp only [hb, Act.put, List.setIfInBounds_toArray, List.set_cons_zero, List.set_cons_succ]))
          | (with_reducible apply rel_askT
             focus (exact rfl)
             all_goals (intro hb; simp only [hb, Act.put, List.setIfInBounds_toArray, List.set_cons_zero, List.set_cons_succ]))
          | (with_reducible apply rel_front1)
          | (with_reducible apply rel_front2)
          | (with_reducible apply rel_front3)
          | (with_reducible apply rel_front4)
          | (with_reducible apply rel_front5)
          | (with_reducible apply rel_front6))
        with_reducible apply rel_act
        intro K hK
        go_simp
        refine (cohousingref08_Secret.calls other s1 _ HO1.out).mono ?_
        rintro e wA ⟨rfl, hdA⟩
        have HA := Lib.hid (And.intro (HX10.out.drew.below hdA.below HX10.out.lt) (HB10.out.drew.trans (Below.mono hdA.below HB10.out.size)))
        clear hdA
        refine hK _ _ ⟨fun _ => HA.out, ?_⟩
        clear hK K
        try simp only [Act.put, List.setIfInBounds_toArray, List.set_cons_zero, List.set_cons_succ]
        repeat' (first
          | (with_reducible apply rel_pass
             focus (intro W hW; first | (go_simp; exact rfl) | go_simp)
             simp only [Act.put, List.setIfInBounds_toArray, List.set_cons_zero, List.set_cons_succ])
          | (with_reducible apply rel_yes
             focus (exact rfl))
          | (with_reducible apply rel_no
             focus (exact rfl)
             simp only [Act.put, List.setIfInBounds_toArray, List.set_cons_zero, List.set_cons_succ])
          | (with_reducible apply rel_askF
             focus (exact rfl)
             all_goals (intro hb; simp only [hb, Act.put, List.setIfInBounds_toArray, List.set_cons_zero, List.set_cons_succ]))
          | (with_reducible apply rel_askT
             focus (exact rfl)
             all_goals (intro hb; simp only [hb, Act.put, List.setIfInBounds_toArray, List.set_cons_zero, List.set_cons_succ]))
          | (with_reducible apply rel_front1)
          | (with_reducible apply rel_front2)
          | (with_reducible apply rel_front3)
          | (with_reducible apply rel_front4)
          | (with_reducible apply rel_front5)
          | (with_reducible apply rel_front6))
        with_reducible apply rel_act
        intro K hK
        go_simp
        refine (cohousingref08_Secret.calls n0 s0 _ HO0.out).mono ?_
        rintro e wB ⟨rfl, hdB⟩
        have HB := Lib.hid (And.intro (HA.out.1.below hdB.below HA.out.1.lt) (HA.out.2.trans (Below.mono hdB.below HA.out.2.size)))
        clear hdB
        refine hK _ _ ⟨fun _ => HB.out, ?_⟩
        clear hK K
        try simp only [Act.put, List.setIfInBounds_toArray, List.set_cons_zero, List.set_cons_succ]
        repeat' (first
          | (with_reducible apply rel_pass
             focus (intro W hW; first | (go_simp; exact rfl) | go_simp)
             simp only [Act.put, List.setIfInBounds_toArray, List.set_cons_zero, List.set_cons_succ])
          | (with_reducible apply rel_yes
             focus (exact rfl))
          | (with_reducible apply rel_no
             focus (exact rfl)
             simp only [Act.put, List.setIfInBounds_toArray, List.set_cons_zero, List.set_cons_succ])
          | (with_reducible apply rel_askF
             focus (exact rfl)
             all_goals (intro hb; simp only [hb, Act.put, List.setIfInBounds_toArray, List.set_cons_zero, List.set_cons_succ]))
          | (with_reducible apply rel_askT
             focus (exact rfl)
             all_goals (intro hb; simp only [hb, Act.put, List.setIfInBounds_toArray, List.set_cons_zero, List.set_cons_succ]))
          | (with_reducible apply rel_front1)
          | (with_reducible apply rel_front2)
          | (with_reducible apply rel_front3)
          | (with_reducible apply rel_front4)
          | (with_reducible apply rel_front5)
          | (with_reducible apply rel_front6))
        apply rel_nil
        simp only [Exit.then, Exit.inBlock]
        clear hS
        go_wp2_with fail
        go_ret
        exact ⟨by first | rfl | simp, HB.out.2⟩
      | false =>
        have hg : g = 31 := HQ.out.2.2.2.1 rfl
        subst hg
        refine wp_region_auto (fun V => Blk V w.heap.size 44 [.int .u64 n0, .int .u64 n1, .int .u64 n2, .int .u64 n3] ∧ Below w.heap.size w V) ((0, none, none) :: (1, none, none) :: (1, none, none) :: (0, none, some true) :: (0, none, some true) :: (0, none, none) :: (0, none, none) :: (0, some (62, true), none) :: (0, some (62, true), none) :: (0, none, none) :: []) (by kernel_rfl) (by kernel_rfl) (fun _ _ d _ _ h => by cases d <;> exact h) ⟨HX10.out.drew, HB10.out.drew⟩ ?_
        repeat' (first
          | (with_reducible apply rel_pass
             focus (intro W hW; first | (go_simp; exact rfl) | go_simp)
             simp only [Act.put, List.setIfInBounds_toArray, List.set_cons_zero, List.set_cons_succ])
          | (with_reducible apply rel_yes
             focus (exact rfl))
          | (with_reducible apply rel_no
             focus (exact rfl)
             simp only [Act.put, List.setIfInBounds_toArray, List.set_cons_zero, List.set_cons_succ])
          | (with_reducible apply rel_askF
             focus (exact rfl)
             all_goals (intro hb; simp only [hb, Act.put, List.setIfInBounds_toArray, List.set_cons_zero, List.set_cons_succ]))
          | (with_reducible apply rel_askT
             focus (exact rfl)
             all_goals (intro hb; simp only [hb, Act.put, List.setIfInBounds_toArray, List.set_cons_zero, List.set_cons_succ]))
          | (with_reducible apply rel_front1)
          | (with_reducible apply rel_front2)
          | (with_reducible apply rel_front3)
          | (with_reducible apply rel_front4)
          | (with_reducible apply rel_front5)
          | (with_reducible apply rel_front6))
        with_reducible apply rel_act
        intro K hK
        go_simp
        refine (cohousingref08_Secret.calls other s1 _ HO1.out).mono ?_
        rintro e wA ⟨rfl, hdA⟩
        have HA := Lib.hid (And.intro (HX10.out.drew.below hdA.below HX10.out.lt) (HB10.out.drew.trans (Below.mono hdA.below HB10.out.size)))
        clear hdA
        refine hK _ _ ⟨fun _ => HA.out, ?_⟩
        clear hK K
        try simp only [Act.put, List.setIfInBounds_toArray, List.set_cons_zero, List.set_cons_succ]
        repeat' (first
          | (with_reducible apply rel_pass
             focus (intro W hW; first | (go_simp; exact rfl) | go_simp)
             simp only [Act.put, List.setIfInBounds_toArray, List.set_cons_zero, List.set_cons_succ])
          | (with_reducible apply rel_yes
             focus (exact rfl))
          | (with_reducible apply rel_no
             focus (exact rfl)
             simp only [Act.put, List.setIfInBounds_toArray, List.set_cons_zero, List.set_cons_succ])
          | (with_reducible apply rel_askF
             focus (exact rfl)
             all_goals (intro hb; simp only [hb, Act.put, List.setIfInBounds_toArray, List.set_cons_zero, List.set_cons_succ]))
          | (with_reducible apply rel_askT
             focus (exact rfl)
             all_goals (intro hb; simp only [hb, Act.put, List.setIfInBounds_toArray, List.set_cons_zero, List.set_cons_succ]))
          | (with_reducible apply rel_front1)
          | (with_reducible apply rel_front2)
          | (with_reducible apply rel_front3)
          | (with_reducible apply rel_front4)
          | (with_reducible apply rel_front5)
          | (with_reducible apply rel_front6))
        with_reducible apply rel_act
        intro K hK
        go_simp
        refine (cohousingref08_Secret.calls n0 s0 _ HO0.out).mono ?_
        rintro e wB ⟨rfl, hdB⟩
        have HB := Lib.hid (And.intro (HA.out.1.below hdB.below HA.out.1.lt) (HA.out.2.trans (Below.mono hdB.below HA.out.2.size)))
        clear hdB
        refine hK _ _ ⟨fun _ => HB.out, ?_⟩
        clear hK K
        try simp only [Act.put, List.setIfInBounds_toArray, List.set_cons_zero, List.set_cons_succ]
        repeat' (first
          | (with_reducible apply rel_pass
             focus (intro W hW; first | (go_simp; exact rfl) | go_simp)
             simp only [Act.put, List.setIfInBounds_toArray, List.set_cons_zero, List.set_cons_succ])
          | (with_reducible apply rel_yes
             focus (exact rfl))
          | (with_reducible apply rel_no
             focus (exact rfl)
             simp only [Act.put, List.setIfInBounds_toArray, List.set_cons_zero, List.set_cons_succ])
          | (with_reducible apply rel_askF
             focus (exact rfl)
             all_goals (intro hb; simp only [hb, Act.put, List.setIfInBounds_toArray, List.set_cons_zero, List.set_cons_succ]))
          | (with_reducible apply rel_askT
             focus (exact rfl)
             all_goals (intro hb; simp only [hb, Act.put, List.setIfInBounds_toArray, List.set_cons_zero, List.set_cons_succ]))
          | (with_reducible apply rel_front1)
          | (with_reducible apply rel_front2)
          | (with_reducible apply rel_front3)
          | (with_reducible apply rel_front4)
          | (with_reducible apply rel_front5)
          | (with_reducible apply rel_front6))
        apply rel_nil
        simp only [Exit.then, Exit.inBlock]
        clear hS
        go_wp2_with fail
        go_ret
        exact ⟨by first | rfl | simp, HB.out.2⟩
end Go.Proofs.YtcnkenknbmmglaaDoor.P
