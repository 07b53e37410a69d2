/- Chapter 43: StatementHides, the law walked. -/
import Derived.Test.YtkdckjafhaadiaaDoorPaH
set_option linter.unusedSimpArgs false
set_option linter.unusedVariables false
namespace Go.Proofs.YtkdckjafhaadiaaDoor.P
open Go Go.RowKit Go.Proofs.YtkdckjafhaadiaaDoorW.PrintWords Go.Proofs.YtkdckjafhaadiaaDoorW.PrintLast Go.Proofs.YtkdckjafhaadiaaDoorW.PrintMore Go.Proofs.YtkdckjafhaadiaaDoor.Ord Go.Proofs.YtkdckjafhaadiaaDoor.OrdI

/-- A halt in a walk, to go on by hand. -/
structure Stop (p : Prop) : Prop where
  out : p
theorem info_LL : (Tryd.prog.info? 32).map (fun i => (i.zero, i.size, i.bytes)) = some (some (.slice none 0 0), 1, 24) := by kernel_rfl
theorem pub_key {s : Nat} (s0 : 0 < s) (s1 : s < 1073741789) : keyB (pub s : Int) = true := by
  unfold keyB
  rw [(memB_nat (pub s)).2 ⟨pub_lt s, pub_el s⟩]
  have := pub_ne s0 s1
  simp
  omega
theorem exp_pub {s : Nat} (s1 : s < 1073741789) : group_Exp.f 4 (s : Int) = some ((pub s : Int), 0) := by
  rw [exp_f]
  exact congrArg some (expV_nat (a := 4) (by decide) Nt.G_el s1)
set_option maxHeartbeats 8000000 in
set_option maxRecDepth 100000 in
theorem hides_walk (a0 a1 : Int) (A2 : Option Addr) (c2 : Nat) (l2 : List (List (S50))) (a3 : Int) (A4 : Option Addr) (c4 : Nat) (l4 : List Int) (w : World) (hr2 : Kd.C (Kd.slice 50 k50) w A2 l2.length l2) (hc2 : l2.length ≤ c2) (hr4 : Kd.C (Kd.int .i64) w A4 l4.length l4) (hc4 : l4.length ≤ c4) (hT : TabOk w) (h0 : (Lit.int .u64 a0).wf = true) :
    Calls Tryd.prog 6 #[.int .u64 a0, .int .i64 a1, .slice A2 l2.length c2, .int .i64 a3, .slice A4 l4.length c4] w fun e w' => e = .returned (.bool true) ∧ Below w.heap.size w w' := by
  obtain ⟨s0, s1⟩ := sec_lt a0
  have hsec := refSecretOf_f a0 h0
  generalize sec a0 = s at s0 s1 hsec
  have HS := Lib.hid (And.intro s0 s1)
  have HSEC := Lib.hid hsec
  have HT := Lib.hid hT
  have HR := Lib.hid (And.intro hr2 hr4)
  have HC := Lib.hid (And.intro hc2 hc4)
  have hl4 : l4.length ≤ 9223372036854775807 := hr4.2.1
  clear s0 s1 hsec h0 hT hr2 hr4 hc2 hc4
  go_enter Tryd.func6, Tryd.ntmps6
  go_wp2_with fail
  refine (cohousinglaw43_head.calls true w HT.out rfl).mono ?_
  rintro e w1 ⟨rfl, hb1⟩
  have HB1 := Lib.hid hb1
  clear hb1
  by_cases h20 : (20 : Int) < (l2.length : Int)
  · have d20 : decide ((20 : Int) < (l2.length : Int)) = true := decide_eq_true h20
    clear h20
    go_wp2_with fail
    go_ret
    exact ⟨rfl, HB1.out⟩
  have d20 : decide ((20 : Int) < (l2.length : Int)) = false := decide_eq_false h20
  have hn20 : l2.length ≤ 20 := by omega
  obtain ⟨t, ht⟩ := total_f l2 hn20 30 (by omega)
  have HN := Lib.hid hn20
  have HTOT := Lib.hid ht
  clear h20 hn20 ht
  go_wp2_with fail
  refine (cohousinglaw43_total.calls 30 A2 c2 l2 t w1 (Kd.C_below HR.out.1 HB1.out) HC.out.1 HTOT.out).mono ?_
  rintro e w2 ⟨rfl, hd⟩
  have HB2 := Lib.hid (HB1.out.trans (Below.mono hd.below HB1.out.size))
  clear hd HB1 HTOT
  by_cases h60 : (60 : Int) < t
  · have d60 : decide ((60 : Int) < t) = true := decide_eq_true h60
    clear h60
    go_wp2_with fail
    go_ret
    exact ⟨rfl, HB2.out⟩
  have d60 : decide ((60 : Int) < t) = false := decide_eq_false h60
  clear h60
  by_cases hw0 : a3 < 0
  · have dw0 : decide (a3 < 0) = true := decide_eq_true hw0
    clear hw0
    go_wp2_with fail
    go_ret
    exact ⟨rfl, HB2.out⟩
  have dw0 : decide (a3 < 0) = false := decide_eq_false hw0
  by_cases hw1 : (l2.length : Int) ≤ a3
  · have dw1 : decide ((l2.length : Int) ≤ a3) = true := decide_eq_true hw1
    clear hw1 hw0
    go_wp2_with fail
    go_ret
    exact ⟨rfl, HB2.out⟩
  obtain ⟨who, rfl⟩ : ∃ n : Nat, a3 = n := ⟨a3.toNat, by omega⟩
  have hwho : who < l2.length := by omega
  have dw1 : decide ((l2.length : Int) ≤ (who : Int)) = false := decide_eq_false hw1
  have dwn : ¬ l2.length ≤ who := by omega
  have HW := Lib.hid hwho
  clear hw0 hw1 hwho
  go_wp2_with fail
  refine (cohousingref08_Secret.calls a0 (s : Int) w2 HSEC.out).mono ?_
  rintro e w3 ⟨rfl, hd⟩
  have HB3 := Lib.hid (HB2.out.trans (Below.mono hd.below HB2.out.size))
  clear hd HB2 d60 dw0 dw1 d20 dwn
  go_wp2_with fail
  refine (group_Exp.calls 4 (s : Int) (pub s : Int) 0 w3 (exp_pub HS.out.2)).mono ?_
  rintro e w4 ⟨rfl, hb⟩
  have HB4 := Lib.hid (HB3.out.trans (Below.mono hb HB3.out.size))
  have HK := Lib.hid (pub_key HS.out.1 HS.out.2)
  clear hb HB3
  go_wp2_with fail
  cases hok : sealOk (pub s : Int) l2 with
  | false =>
    refine (cohousinglaw43_sealed.calls 30 (pub s : Int) A2 c2 l2 [] false w4 (Kd.C_below HR.out.1 HB4.out) HC.out.1 (by rw [sealed_f _ _ HN.out _ (by omega), hok]; rfl)).mono ?_
    rintro e w5 ⟨v, rfl, -, hb⟩
    have HB5 := Lib.hid (HB4.out.trans (Below.mono hb HB4.out.size))
    clear hb hok
    go_wp2_with fail
    go_ret
    exact ⟨rfl, HB5.out⟩
  | true =>
    refine (cohousinglaw43_sealed.calls 30 (pub s : Int) A2 c2 l2 (sealG (pub s : Int) 0 l2) true w4 (Kd.C_below HR.out.1 HB4.out) HC.out.1 (by rw [sealed_f _ _ HN.out _ (by omega), hok]; rfl)).mono ?_
    rintro e w5 ⟨v, rfl, ho, hb⟩
    obtain ⟨G, ng, rfl, p5, q5⟩ := Kd.S_reads ho
    have HB5 := Lib.hid (HB4.out.trans (Below.mono hb HB4.out.size))
    have HG5 := Lib.hid (And.intro p5 q5)
    have HOK := Lib.hid hok
    clear ho hb hok p5 q5 HB4
    have HLW := Lib.hid (sealOk_at HOK.out HW.out)
    obtain ⟨ad2, Aw, cw, hA2, hcell, hle, hCw⟩ := at_L7 HR.out.1 (who : Int) (by omega) (by have := HW.out; omega)
    subst hA2
    rw [rd_getLL HW.out] at hcell hle hCw
    simp only [Int.toNat_natCast] at hcell
    obtain ⟨lw, hlw⟩ : ∃ l, l2[who]'HW.out = l := ⟨_, rfl⟩
    rw [hlw] at hcell hle hCw HLW
    have HLWE := Lib.hid hlw
    have hc5 : w5.cell? (ad2.add who) = some (.slice Aw lw.length cw) := (HB5.out.cell (World.block_lt_of_cell? w _ hcell)).trans hcell
    have HCW := Lib.hid (And.intro hle (And.intro hCw hcell))
    have hwi : (who : Int) < (l2.length : Int) := by have := HW.out; omega
    have hlw63 : lw.length ≤ 9223372036854775807 := hCw.2.1
    clear hlw hle hCw hcell
    rw [show (sealG (pub s : Int) 0 l2).length = l2.length from sealG_len _ _ _] at HG5 ⊢
    go_wp2_with fail
    clear hc5
    have hln : lw.length ≤ 64 := (lines_parts HLW.out.2).1
    as_aux_lemma =>
     go_loopw [17, 82] (fun v j wr => ∃ k : Nat, k ≤ lw.length ∧ j = .int .i64 k ∧ Hid (Kd.R k50 50 wr w5.heap.size (fun _ => True) v (newL s l4 0 (lw.take k))) ∧ Hid (Below w5.heap.size w5 wr)) (fun _ j _ => lw.length - (intOf j).toNat)
     case atStart => exact ⟨0, Nat.zero_le _, rfl, Kd.R_nil _ _ _ _ _, Below.refl _ _⟩
     case round =>
       obtain ⟨k, hk, rfl, hR, hB⟩ := hrel
       by_cases hlt : k < lw.length
       · obtain ⟨y, hy⟩ : ∃ y, rd_T50 lw (k : Int) = y := ⟨_, rfl⟩
         have hg : lw[k] = y := (rd_getL hlt).symm.trans hy
         have HY := Lib.hid (show lineB y = true from List.all_eq_true.1 (lines_parts HLW.out.2).2.1 y (by rw [← hg]; exact List.getElem_mem hlt))
         have HTK := Lib.hid (show newL s l4 0 (lw.take (k + 1)) = newL s l4 0 (lw.take k) ++ [newLine s l4 k y] by rw [newL_take s l4 hlt, hg])
         have hBw := HB5.out.trans (Below.mono hB.out HB5.out.size)
         obtain ⟨adw, e, y0, y1, y2⟩ := at_T50 (Kd.C_below HCW.out.2.1 hBw) (k : Int) (by omega) (by omega)
         subst e
         rw [hy] at y0 y1 y2
         simp only [Int.toNat_natCast] at y0 y1 y2
         have HRU := Lib.hid (Kd.R_mono (ok' := fun k => k ≠ wr.heap.size) (Kd.R_bound hR.out) (fun k hk => Nat.ne_of_lt hk.2.2.1))
         have HBW := Lib.hid hBw
         have hxl : (newL s l4 0 (lw.take k)).length ≤ 64 := by rw [newL_len, List.length_take]; omega
         have HXL := Lib.hid hxl
         clear hR hg hy hBw hxl
         obtain ⟨f0, f1, f2⟩ := y
         simp only at y0 y1 y2
         go_upto_region 13 with (fail)
         obtain ⟨hxb, hsb, hbb⟩ := Blk.box wr 50 [Value.int .i64 f0, Value.int .i64 f1, Value.int .i64 f2]
         rw [show (List.toArray [Value.int .i64 f0, Value.int .i64 f1, Value.int .i64 f2]) = #[Value.int .i64 f0, Value.int .i64 f1, Value.int .i64 f2] from rfl] at hxb hsb hbb
         generalize wr.alloc (Obj.cells #[Value.int .i64 f0, Value.int .i64 f1, Value.int .i64 f2] 50) = wb at hxb hsb hbb ⊢
         have HXB := Lib.hid (And.intro hxb (And.intro hbb hsb))
         have HBB := Lib.hid (HBW.out.trans (Below.mono hbb HBW.out.size))
         have HRB := Lib.hid (Kd.R_below HRU.out hbb)
         clear hxb hsb hbb y0 y1 y2
         go_cut [104] (fun b wx => ∃ q : Bool, b = .bool q ∧ Hid (q = true ↔ takes l4 k) ∧ wx = wb)
         case first =>
           by_cases hk4 : k < l4.length
           · obtain ⟨ad4, rfl, hc4⟩ := Kd.at_int (Kd.C_below HR.out.2 HBB.out) (k : Int) (by omega) (by omega)
             simp only [Int.toNat_natCast] at hc4
             obtain ⟨c, hc⟩ : ∃ c, rd l4 (k : Int) = c := ⟨_, rfl⟩
             rw [hc] at hc4
             have HCE := Lib.hid hc
             have hk4i : (k : Int) < (l4.length : Int) := by omega
             clear hc
             go_wp2_with fail
             all_goals go_meet
             all_goals refine ⟨_, rfl, Lib.hid ?_, rfl⟩
             all_goals (unfold takes; rw [HCE.out]; first | (simp only [decide_eq_true_eq]; omega) | (simp only [Bool.false_eq_true, false_iff]; omega))
           · have hk4i : ¬ (k : Int) < (l4.length : Int) := by omega
             go_wp2_with fail
             all_goals go_meet
             all_goals refine ⟨_, rfl, Lib.hid ?_, rfl⟩
             all_goals (unfold takes; simp only [Bool.false_eq_true, false_iff]; omega)
         case rest =>
           obtain ⟨q, rfl, hq, rfl⟩ := hcut
           go_upto_if 104 with (fail)
           go_cut [] (fun wx => Hid (Blk wx wr.heap.size 50 [.int .i64 (newLine s l4 k ⟨f0, f1, f2⟩).f0, .int .i64 (newLine s l4 k ⟨f0, f1, f2⟩).f1, .int .i64 (newLine s l4 k ⟨f0, f1, f2⟩).f2] ∧ Below wr.heap.size wr wx ∧ Kd.R k50 50 wx w5.heap.size (fun k => k ≠ wr.heap.size) u17 (newL s l4 0 (lw.take k))))
           case first =>
             cases q with
             | false =>
               have hq2 := hq.out
               have hnt : ¬ takes l4 k := fun h => by have := hq2.2 h; cases this
               have HNL := Lib.hid (show newLine s l4 k (⟨f0, f1, f2⟩ : S50) = ⟨f0, f1, f2⟩ from if_neg hnt)
               clear hq2 hq hnt
               go_wp2_with fail
               go_meet
               rw [HNL.out]
               exact Lib.hid ⟨HXB.out.1, HXB.out.2.1, HRB.out⟩
             | true =>
               as_aux_lemma =>
                have hta := hq.out.1 rfl
                obtain ⟨hk4, hc0, hc1⟩ := hta
                have hta : takes l4 k := ⟨hk4, hc0, hc1⟩
                have HNL0 := (show newLine s l4 k (⟨f0, f1, f2⟩ : S50) = newC s (rd l4 (k : Int)) ⟨f0, f1, f2⟩ from if_pos hta)
                obtain ⟨ad4, rfl, hc4⟩ := Kd.at_int (Kd.C_below HR.out.2 HBB.out) (k : Int) (by omega) (by omega)
                simp only [Int.toNat_natCast] at hc4
                obtain ⟨c, hc⟩ : ∃ c, rd l4 (k : Int) = c := ⟨_, rfl⟩
                rw [hc] at hc4 HNL0 hc0 hc1
                have HCE := Lib.hid hc
                have py := line_parts HY.out
                simp only at py
                obtain ⟨o, ho⟩ : ∃ o, overZ ((f1 - c) % 1073741789) s = o := ⟨_, rfl⟩
                have hol := overZ_lt ((f1 - c) % 1073741789) s
                rw [ho] at hol
                have HNL := Lib.hid (show newLine s l4 k (⟨f0, f1, f2⟩ : S50) = ⟨f0, c, (f2 + o) % 1073741789⟩ by rw [HNL0, newC, ho])
                have hw1 : IntKind.i64.wrap (f1 - c) = f1 - c := by rw [IntKind.wrap_i64]; omega
                have hw2 : IntKind.i64.wrap (f2 + o) = f2 + o := by rw [IntKind.wrap_i64]; omega
                have R1 := Lib.hid (fun W => cohousingref08_Rest.calls (f1 - c) _ W (refRest_f _ (by omega) (by omega)))
                have R2 := Lib.hid (fun W => cohousingref08_Rest.calls (f2 + o) _ W (refRest_f _ (by omega) (by omega)))
                have OV := Lib.hid (fun W => cohousingref08_Over.calls 100 ((f1 - c) % 1073741789) (s : Int) o W (by rw [refOver_f _ _ (by omega) (by omega) (by omega) (by have := HS.out; omega) _ (by omega), Int.toNat_natCast, ← ho]; rfl))
                have hk4i : (k : Int) < (l4.length : Int) := by omega
                have HC4 := Lib.hid hc4
                have hF : ∀ f, Fence.wide.fn f := fun _ => trivial
                have hS : ∀ W, Held (fun W => Blk W wr.heap.size 50 [Value.int .i64 f0, Value.int .i64 f1, Value.int .i64 f2] ∧ Below wc.heap.size wc W) W → W.cell? ⟨wr.heap.size, 0, none⟩ = some (.int .i64 f0) ∧ W.cell? ⟨wr.heap.size, 1, none⟩ = some (.int .i64 f1) ∧ W.cell? ⟨wr.heap.size, 2, none⟩ = some (.int .i64 f2) ∧ W.cell? (ad4.add k) = some (.int .i64 c) := fun W hW =>
                  ⟨hW.1.cell 0 _ rfl, hW.1.cell 1 _ rfl, hW.1.cell 2 _ rfl, (hW.2.cell (World.block_lt_of_cell? wc _ HC4.out)).trans HC4.out⟩
                have HX0 := Lib.hid (show Blk wc.drew wr.heap.size 50 [Value.int .i64 f0, Value.int .i64 f1, Value.int .i64 f2] ∧ Below wc.heap.size wc wc.drew from ⟨HXB.out.1.drew, (Below.refl _ _).drew⟩)
                clear hq hk4 hta HNL0 hc hc0 hc1 hol ho py hc4
                go_wp2_with fail
                refine (wpIn_wide (n := 3)).1 ?_
                refine wpIn_region_auto (fun W => Blk W wr.heap.size 50 [Value.int .i64 f0, Value.int .i64 f1, Value.int .i64 f2] ∧ Below wc.heap.size wc W) ((0, none, none) :: (0, none, none) :: (0, none, none) :: (0, none, none) :: (0, none, none) :: (0, none, none) :: (0, none, none) :: (0, none, none) :: (0, none, none) :: (1, none, none) :: (0, none, some true) :: (0, none, some true) :: (0, none, none) :: (0, none, some true) :: (0, none, none) :: (0, none, some false) :: []) hF (by kernel_rfl) (by kernel_rfl) (fun _ _ d _ _ h => by cases d <;> exact h) HX0.out ?_
                repeat' (first
                  | (with_reducible apply relI_pass
                     focus (intro W hW; first | (go_simp; exact rfl) | go_simp)
                     simp only [Act.put, List.setIfInBounds_toArray, List.set_cons_zero, List.set_cons_succ])
                  | (with_reducible apply relI_yes
                     focus (exact rfl))
                  | (with_reducible apply relI_no
                     focus (exact rfl)
                     simp only [Act.put, List.setIfInBounds_toArray, List.set_cons_zero, List.set_cons_succ])
                  | (with_reducible apply relI_askF
                     focus (exact rfl)
                     all_goals (intro hb; simp only [hb, Act.put, List.setIfInBounds_toArray, List.set_cons_zero, List.set_cons_succ]))
                  | (with_reducible apply relI_askT
                     focus (exact rfl)
                     all_goals (intro hb; simp only [hb, Act.put, List.setIfInBounds_toArray, List.set_cons_zero, List.set_cons_succ]))
                  | (with_reducible apply relI_front1)
                  | (with_reducible apply relI_front2)
                  | (with_reducible apply relI_front3)
                  | (with_reducible apply relI_front4)
                  | (with_reducible apply relI_front5)
                  | (with_reducible apply relI_front6))
                apply relI_act hF rfl
                intro K hK
                go_simp
                refine callsIn_wide.2 ?_
                refine (R1.out _).mono ?_
                rintro e w6 ⟨rfl, hd⟩
                have HX1 := Lib.hid (show Blk w6 wr.heap.size 50 [Value.int .i64 f0, Value.int .i64 f1, Value.int .i64 f2] ∧ Below wc.heap.size wc w6 from ⟨HX0.out.1.below hd.below HX0.out.1.lt, HX0.out.2.trans (Below.mono hd.below HX0.out.2.size)⟩)
                clear hd
                refine hK _ _ ⟨fun _ => HX1.out, ?_⟩
                clear hK K
                try simp only [Act.put, List.setIfInBounds_toArray, List.set_cons_zero, List.set_cons_succ]
                repeat' (first
                  | (with_reducible apply relI_pass
                     focus (intro W hW; first | (go_simp; exact rfl) | go_simp)
                     simp only [Act.put, List.setIfInBounds_toArray, List.set_cons_zero, List.set_cons_succ])
                  | (with_reducible apply relI_yes
                     focus (exact rfl))
                  | (with_reducible apply relI_no
                     focus (exact rfl)
                     simp only [Act.put, List.setIfInBounds_toArray, List.set_cons_zero, List.set_cons_succ])
                  | (with_reducible apply relI_askF
                     focus (exact rfl)
                     all_goals (intro hb; simp only [hb, Act.put, List.setIfInBounds_toArray, List.set_cons_zero, List.set_cons_succ]))
                  | (with_reducible apply relI_askT
                     focus (exact rfl)
                     all_goals (intro hb; simp only [hb, Act.put, List.setIfInBounds_toArray, List.set_cons_zero, List.set_cons_succ]))
                  | (with_reducible apply relI_front1)
                  | (with_reducible apply relI_front2)
                  | (with_reducible apply relI_front3)
                  | (with_reducible apply relI_front4)
                  | (with_reducible apply relI_front5)
                  | (with_reducible apply relI_front6))
                apply relI_act hF rfl
                intro K hK
                go_simp
                refine callsIn_wide.2 ?_
                refine (OV.out _).mono ?_
                rintro e w7 ⟨rfl, hd⟩
                have HX2 := Lib.hid (show Blk w7 wr.heap.size 50 [Value.int .i64 f0, Value.int .i64 f1, Value.int .i64 f2] ∧ Below wc.heap.size wc w7 from ⟨HX1.out.1.below hd.below HX1.out.1.lt, HX1.out.2.trans (Below.mono hd.below HX1.out.2.size)⟩)
                clear hd
                refine hK _ _ ⟨fun _ => HX2.out, ?_⟩
                clear hK K
                try simp only [Act.put, List.setIfInBounds_toArray, List.set_cons_zero, List.set_cons_succ]
                repeat' (first
                  | (with_reducible apply relI_pass
                     focus (intro W hW; first | (go_simp; exact rfl) | go_simp)
                     simp only [Act.put, List.setIfInBounds_toArray, List.set_cons_zero, List.set_cons_succ])
                  | (with_reducible apply relI_yes
                     focus (exact rfl))
                  | (with_reducible apply relI_no
                     focus (exact rfl)
                     simp only [Act.put, List.setIfInBounds_toArray, List.set_cons_zero, List.set_cons_succ])
                  | (with_reducible apply relI_askF
                     focus (exact rfl)
                     all_goals (intro hb; simp only [hb, Act.put, List.setIfInBounds_toArray, List.set_cons_zero, List.set_cons_succ]))
                  | (with_reducible apply relI_askT
                     focus (exact rfl)
                     all_goals (intro hb; simp only [hb, Act.put, List.setIfInBounds_toArray, List.set_cons_zero, List.set_cons_succ]))
                  | (with_reducible apply relI_front1)
                  | (with_reducible apply relI_front2)
                  | (with_reducible apply relI_front3)
                  | (with_reducible apply relI_front4)
                  | (with_reducible apply relI_front5)
                  | (with_reducible apply relI_front6))
                apply relI_act hF rfl
                intro K hK
                go_simp
                refine callsIn_wide.2 ?_
                refine (R2.out _).mono ?_
                rintro e w8 ⟨rfl, hd⟩
                have HX3 := Lib.hid (show Blk w8 wr.heap.size 50 [Value.int .i64 f0, Value.int .i64 f1, Value.int .i64 f2] ∧ Below wc.heap.size wc w8 from ⟨HX2.out.1.below hd.below HX2.out.1.lt, HX2.out.2.trans (Below.mono hd.below HX2.out.2.size)⟩)
                clear hd
                refine hK _ _ ⟨fun _ => HX3.out, ?_⟩
                clear hK K
                try simp only [Act.put, List.setIfInBounds_toArray, List.set_cons_zero, List.set_cons_succ]
                repeat' (first
                  | (with_reducible apply relI_pass
                     focus (intro W hW; first | (go_simp; exact rfl) | go_simp)
                     simp only [Act.put, List.setIfInBounds_toArray, List.set_cons_zero, List.set_cons_succ])
                  | (with_reducible apply relI_yes
                     focus (exact rfl))
                  | (with_reducible apply relI_no
                     focus (exact rfl)
                     simp only [Act.put, List.setIfInBounds_toArray, List.set_cons_zero, List.set_cons_succ])
                  | (with_reducible apply relI_askF
                     focus (exact rfl)
                     all_goals (intro hb; simp only [hb, Act.put, List.setIfInBounds_toArray, List.set_cons_zero, List.set_cons_succ]))
                  | (with_reducible apply relI_askT
                     focus (exact rfl)
                     all_goals (intro hb; simp only [hb, Act.put, List.setIfInBounds_toArray, List.set_cons_zero, List.set_cons_succ]))
                  | (with_reducible apply relI_front1)
                  | (with_reducible apply relI_front2)
                  | (with_reducible apply relI_front3)
                  | (with_reducible apply relI_front4)
                  | (with_reducible apply relI_front5)
                  | (with_reducible apply relI_front6))
                have fz := HX3.out.1.frozen 2
                have cz := HX3.out.1.cell 2 _ rfl
                apply relI_act hF rfl
                intro K hK
                go_simp
                refine hK _ _ ⟨fun h => (by cases h), ?_⟩
                clear hK K
                try simp only [Act.put, List.setIfInBounds_toArray, List.set_cons_zero, List.set_cons_succ]
                repeat' (first
                  | (with_reducible apply relI_pass
                     focus (intro W hW; first | (go_simp; exact rfl) | go_simp)
                     simp only [Act.put, List.setIfInBounds_toArray, List.set_cons_zero, List.set_cons_succ])
                  | (with_reducible apply relI_yes
                     focus (exact rfl))
                  | (with_reducible apply relI_no
                     focus (exact rfl)
                     simp only [Act.put, List.setIfInBounds_toArray, List.set_cons_zero, List.set_cons_succ])
                  | (with_reducible apply relI_askF
                     focus (exact rfl)
                     all_goals (intro hb; simp only [hb, Act.put, List.setIfInBounds_toArray, List.set_cons_zero, List.set_cons_succ]))
                  | (with_reducible apply relI_askT
                     focus (exact rfl)
                     all_goals (intro hb; simp only [hb, Act.put, List.setIfInBounds_toArray, List.set_cons_zero, List.set_cons_succ]))
                  | (with_reducible apply relI_front1)
                  | (with_reducible apply relI_front2)
                  | (with_reducible apply relI_front3)
                  | (with_reducible apply relI_front4)
                  | (with_reducible apply relI_front5)
                  | (with_reducible apply relI_front6))
                apply relI_nil
                simp only [Exit.then, Exit.inBlock]
                have hb8 : Below wr.heap.size wr w8 := HXB.out.2.1.trans (Below.mono HX3.out.2 HXB.out.2.1.size)
                have hset := HX3.out.1.set 2 (.int .i64 ((f2 + o) % 1073741789))
                have hbf := hb8.setCell (p := ⟨wr.heap.size, 2, none⟩) (Nat.le_refl _) (.int .i64 ((f2 + o) % 1073741789))
                have hRf := Kd.R_far (p := ⟨wr.heap.size, 2, none⟩) (Kd.R_below HRB.out HX3.out.2) (fun _ hk => hk) (.int .i64 ((f2 + o) % 1073741789))
                have hsz8 : (w8.setCell ⟨wr.heap.size, 2, none⟩ (.int .i64 ((f2 + o) % 1073741789))).heap.size = w8.heap.size := World.size_setCell ..
                generalize w8.setCell ⟨wr.heap.size, 2, none⟩ (.int .i64 ((f2 + o) % 1073741789)) = wf at hset hbf hRf hsz8 ⊢
                have hwf : Below w.heap.size w wf := HBW.out.trans (Below.mono hbf HBW.out.size)
                obtain ⟨ad5, e5, hc5⟩ := Kd.at_int (Kd.C_below HR.out.2 hwf) (k : Int) (by omega) (by omega)
                cases e5
                simp only [Int.toNat_natCast] at hc5
                rw [HCE.out] at hc5
                have g0 := hset.cell 0 _ rfl
                have g1 := hset.cell 1 _ rfl
                have g2 := hset.cell 2 _ rfl
                have h1 := hset.frozen 1
                have HSET := Lib.hid (And.intro hset (And.intro hbf hRf))
                clear hS hset hbf hRf hb8 fz cz hwf hsz8
                go_wp2_with fail
                go_meet
                rw [HNL.out]
                exact Lib.hid ⟨HSET.out.1.set 1 _, HSET.out.2.1.setCell (Nat.le_refl _) _, Kd.R_far (p := ⟨wr.heap.size, 1, none⟩) HSET.out.2.2 (fun _ hk => hk) _⟩
           case rest =>
             obtain ⟨nl, hnl⟩ : ∃ z, newLine s l4 k (⟨f0, f1, f2⟩ : S50) = z := ⟨_, rfl⟩
             rw [hnl] at hcut HTK
             obtain ⟨g0, g1, g2⟩ := nl
             have HC2 := Lib.hid hcut.out
             simp only at HC2
             have x0 := HC2.out.1.cell 0 _ rfl
             have x1 := HC2.out.1.cell 1 _ rfl
             have x2 := HC2.out.1.cell 2 _ rfl
             have hu := Tryd.underlying32
             clear hcut hnl
             rename World => wd
             generalize newL s l4 0 (lw.take k) = xs at *
             go_wp2_with (at_builtin; refine Kd.R_append k50 (w0 := w5) w5.heap.size rfl (.tmp 125) (.tmp 127) 32 50 (.agg #[(.int .i64 0), (.int .i64 0), (.int .i64 0)]) 24 rfl hu info_L rfl (by decide) (by omega) _ xs (⟨g0, g1, g2⟩ : S50) [.int .i64 g0, .int .i64 g1, .int .i64 g2] (fun k => k ≠ wr.heap.size) (fun _ => False) rfl (by first | rfl | go_simp) ?aP (fun _ hk => hk.elim) ?aF ?aO ?aB ?aS ?aL ?_; (case aP => exact k50_mkM _ _ _ _); (case aF => exact fun k hk e => by have := HC2.out.1.lt; omega); (case aO => exact HC2.out.2.2); (case aB => exact hB.out.trans (Below.mono HC2.out.2.1 hB.out.size)); (case aS => have := hB.out.size; have := HC2.out.2.1.size; omega); (case aL => have := HXL.out; omega); intro v3 w3' ho hb3 hg hat; have HK3 := Lib.hid (And.intro ho hb3); clear ho hb3 hg hat)
             go_roundw
             case rel => exact ⟨k + 1, by omega, by go_num, by rw [HTK.out]; exact Kd.R_mono HK3.out.1 (fun _ _ => trivial), HK3.out.2⟩
             case measure => simp [intOf]; omega
       · obtain rfl : k = lw.length := by omega
         have hRR := hR.out
         rw [List.take_length] at hRR
         have HBW := Lib.hid (HB5.out.trans (Below.mono hB.out HB5.out.size))
         obtain ⟨L, nL, e, pL, qL⟩ := Kd.R_reads hRR
         subst e
         rw [newL_len] at pL qL
         have HL := Lib.hid (And.intro pL qL)
         have HGL := Lib.hid (And.intro HG5.out.1 (Kd.C_below HG5.out.2 hB.out))
         have hLl : (newL s l4 0 lw).length = lw.length := newL_len _ _ _ _
         rw [hLl]
         clear hR hRR hB pL qL HB5 HG5
         rename World => w6
         obtain ⟨hs, hhc, hhh⟩ := heads_of HR.out.1
         have HH := Lib.hid (And.intro hhc hhh)
         have huLL := Tryd.underlying22
         clear hhc hhh hLl
         as_aux_lemma =>
          go_wp2_with (first
              | ((with_reducible refine gate_dst (N := 130) rfl ?_); refine Kd.R_lit kH _ 32 ?hg (N := 130) ?hd (xs := ([] : List (Option Addr × Nat × Nat))) (inner := []) (ok := fun _ => True) (okp := fun _ => True) ?hr ?hp (fun _ hk => hk) trivial (Below.refl _ _) (Nat.le_refl _) (by simp) ?_; (case hd => rfl); (case hg => rfl); (case hr => first | (go_simp; done) | (go_simp; rfl)); (case hp => exact (Reps.none _ _)); intro v3 w7 ho3 hb3 hg_ hnew_; clear hg_ hnew_; have HO3 := Lib.hid ho3; have HB7 := Lib.hid hb3; clear ho3 hb3)
              | ((with_reducible refine gate_builtin (b := .append) (xs := #[.tmp 130, .tmp 131]) rfl ?_); at_builtin; refine Kd.R_append_rows kH (w0 := w6) w6.heap.size rfl (.tmp 130) (.tmp 131) 22 32 (.slice none 0 0) 24 rfl huLL info_LL rfl (by decide) (by omega) v3 [] hs _ _ _ (fun _ => True) (fun _ => False) rfl rfl ?aO ?aR (fun _ _ h => h) (fun _ h => h.elim) (fun _ _ => trivial) HB7.out HB7.out.size ?aL ?_; (case aR => exact Kd.C_below HH.out.1 (HBW.out.trans (Below.mono HB7.out HBW.out.size))); (case aO => exact HO3.out); (case aL => have := HN.out; simp; omega); intro v4 w8 ho4 hb4 hg hat; have HO4 := Lib.hid ho4; have HB8 := Lib.hid hb4; clear ho4 hb4 hg hat HO3 HB7; refine Stop.out ?_))
          have ho8 := HO4.out
          rw [List.nil_append] at ho8
          have hhl : hs.length = l2.length := HH.out.2.1
          obtain ⟨g, cap, rfl, gb, gl, -⟩ := Kd.R_form ho8 (by have := HW.out; omega)
          obtain ⟨hcl, hfz⟩ := Kd.R_celln (none, 0, 0) (show (Kd.scalar hdrV (fun _ => rfl)).R 32 w8 w6.heap.size (fun _ => True) (.slice (some ⟨g, 0, none⟩) hs.length cap) hs from ho8) (who : Int) (by omega) (by have := HW.out; omega)
          rw [Int.toNat_natCast] at hcl hfz
          have hput := Kd.R_put (show (Kd.scalar hdrV (fun _ => rfl)).R 32 w8 w6.heap.size (fun _ => True) (.slice (some ⟨g, 0, none⟩) hs.length cap) hs from ho8) (who : Int) ((L, lw.length, nL) : (Option Addr × Nat × Nat))
          rw [Int.toNat_natCast] at hput
          have hb9 := HB8.out.setCell (p := ⟨g, who, none⟩) gb (hdrV (L, lw.length, nL))
          have HP9 := Lib.hid (And.intro hput.1 (And.intro hb9 gb))
          have HHL := Lib.hid hhl
          have hwi2 : (who : Int) < (hs.length : Int) := by have := HW.out; omega
          have hwn : who < hs.length := by have := HW.out; omega
          obtain ⟨old, hold⟩ : ∃ o, rdOf ((none, 0, 0) : (Option Addr × Nat × Nat)) hs (who : Int) = o := ⟨_, rfl⟩
          rw [hold] at hcl
          have hcl : w8.cell? ⟨g, who, none⟩ = some (.slice old.1 old.2.1 old.2.2) := hcl
          clear ho8 hput hb9 hhl HO4 gb gl hold
          refine ⟨?_⟩
          go_wp2_with fail
          as_aux_lemma =>
           generalize hw9 : w8.setCell ⟨g, who, none⟩ (Value.slice L lw.length nL) = w9
           have hP9 : (Kd.scalar hdrV (fun _ => rfl)).R 32 w9 w6.heap.size (fun _ => True) (.slice (some ⟨g, 0, none⟩) hs.length cap) (hs.set who (L, lw.length, nL)) := by rw [← hw9]; exact HP9.out.1
           have hb69 : Below w6.heap.size w6 w9 := by rw [← hw9]; exact HP9.out.2.1
           obtain ⟨ot, hot⟩ : ∃ z, l2.set who (newL s l4 0 lw) = z := ⟨_, rfl⟩
           have hotl : ot.length = l2.length := by rw [← hot, List.length_set]
           have hheads : Heads k50 w9 (hs.set who (L, lw.length, nL)) ot := by
             rw [← hot]
             refine ⟨by rw [List.length_set, List.length_set]; exact HHL.out, fun j s' x e1 e2 => ?_⟩
             by_cases hjw : j = who
             · subst hjw
               rw [List.getElem?_set_self hwn] at e1
               rw [List.getElem?_set_self HW.out] at e2
               obtain rfl := Option.some.inj e1
               obtain rfl := Option.some.inj e2
               exact ⟨(newL_len ..).symm, by rw [newL_len]; exact HL.out.1, by rw [newL_len]; exact Kd.C_below HL.out.2 hb69⟩
             · rw [List.getElem?_set_ne (Ne.symm hjw)] at e1 e2
               have h := HH.out.2.2 j s' x e1 e2
               exact ⟨h.1, h.2.1, Kd.C_below h.2.2 (HBW.out.trans (Below.mono hb69 HBW.out.size))⟩
           have hC9 : Kd.C (Kd.slice 50 k50) w9 (some ⟨g, 0, none⟩) ot.length ot := by
             have h := heads_to (e := 50) (Kd.R_reads' hP9).2.2 hheads
             rwa [List.length_set, HHL.out, ← hotl] at h
           have hcap9 : ot.length ≤ cap := by have := (Kd.R_reads' hP9).2.1; rw [HHL.out] at this; omega
           have hsn := seal_new HS.out.1 HS.out.2 l4 HOK.out HW.out
           rw [HLWE.out, hot] at hsn
           have hon : ot.length ≤ 20 := by rw [hotl]; exact HN.out
           have hB9 := HBW.out.trans (Below.mono hb69 HBW.out.size)
           rw [show hs.length = ot.length from by rw [hotl, HHL.out]]
           refine (cohousinglaw43_sealed.calls 30 (pub s : Int) _ cap ot (sealG (pub s : Int) 0 l2) true w9 hC9 hcap9 (by rw [sealed_f _ _ hon _ (by omega), hsn.2, hsn.1]; rfl)).mono ?_
           rintro e w10 ⟨v, rfl, ho, hb10⟩
           obtain ⟨H, nh, rfl, pH, qH⟩ := Kd.S_reads ho
           rw [show (sealG (pub s : Int) 0 l2).length = l2.length from sealG_len _ _ _] at pH qH ⊢
           have HB10 := Lib.hid (hB9.trans (Below.mono hb10 hB9.size))
           have HB6 := Lib.hid (hb69.trans (Below.mono hb10 hb69.size))
           have HGH := Lib.hid (And.intro HGL.out.1 (And.intro (Kd.C_below HGL.out.2 HB6.out) (And.intro pH qH)))
           have HOT := Lib.hid (And.intro hotl (And.intro hcap9 (And.intro (Kd.C_below hC9 hb10) (And.intro hsn.1 hsn.2))))
           have HOTE := Lib.hid hot
           clear hw9 hP9 hb69 hot hheads hC9 hcap9 hsn hon hB9 ho hb10 pH qH HP9 HB8 hcl hfz HGL hwi2 hwn
           rw [hotl]
           clear hotl
           go_wp2_with fail
           as_aux_lemma =>
            go_loopw [11, 154, 23] (fun u j q wr => ∃ k : Nat, k ≤ l2.length ∧ u = .bool true ∧ j = .int .i64 k ∧ Hid (Below w10.heap.size w10 wr)) (fun _ j _ _ => l2.length - (intOf j).toNat)
            case atStart => exact ⟨0, Nat.zero_le _, rfl, rfl, Below.refl _ _⟩
            case round =>
              obtain ⟨k, hk, rfl, rfl, hB⟩ := hrel
              by_cases hlt : k < l2.length
              · obtain ⟨adG, AG, cG, rfl, p0, p1, p2, pl, pC⟩ := at_T45 HGH.out.2.1 (k : Int) (by omega) (by omega)
                obtain ⟨adH, AH, cH, rfl, q0, q1, q2, ql, qC⟩ := at_T45 HGH.out.2.2.2 (k : Int) (by omega) (by omega)
                have hx : rd_T45 (sealG (pub s : Int) 0 l2) (k : Int) = ⟨((k + 1 : Nat) : Int), (pub s : Int), cmL (pub s : Int) l2[k]⟩ := by rw [rd_getS (by rw [sealG_len]; exact hlt), sealG_at _ _ hlt]
                have hxl : (rd_T45 (sealG (pub s : Int) 0 l2) (k : Int)).f2.length ≤ 64 := by rw [hx]; simp only [cmL_len]; exact (lines_parts (sealOk_at HOK.out hlt).2).1
                obtain ⟨x, hxe⟩ : ∃ x, rd_T45 (sealG (pub s : Int) 0 l2) (k : Int) = x := ⟨_, rfl⟩
                rw [hxe] at p0 p1 p2 pl pC q0 q1 q2 ql qC hxl
                simp only [Int.toNat_natCast] at p0 p1 p2 q0 q1 q2
                have HPC := Lib.hid (And.intro pl (And.intro pC (And.intro ql (And.intro qC hxl))))
                have HCE := Lib.hid (And.intro p0 (And.intro p1 (And.intro p2 (And.intro q0 (And.intro q1 q2)))))
                have hS : ∀ W, Held (Below w10.heap.size w10) W → W.cell? (adG.add (k * 3)) = some (.int .i64 x.f0) ∧ W.cell? ⟨(adG.add (k * 3)).block, (adG.add (k * 3)).off + 1, none⟩ = some (.int .i64 x.f1) ∧ W.cell? ⟨(adG.add (k * 3)).block, (adG.add (k * 3)).off + 2, none⟩ = some (.slice AG x.f2.length cG) ∧ W.cell? (adH.add (k * 3)) = some (.int .i64 x.f0) ∧ W.cell? ⟨(adH.add (k * 3)).block, (adH.add (k * 3)).off + 1, none⟩ = some (.int .i64 x.f1) ∧ W.cell? ⟨(adH.add (k * 3)).block, (adH.add (k * 3)).off + 2, none⟩ = some (.slice AH x.f2.length cH) := fun W hW => by
                  have hW' : Below w10.heap.size w10 W := hW
                  have h := HCE.out
                  exact ⟨(hW'.cell (World.block_lt_of_cell? w10 _ h.1)).trans h.1, (hW'.cell (World.block_lt_of_cell? w10 _ h.2.1)).trans h.2.1, (hW'.cell (World.block_lt_of_cell? w10 _ h.2.2.1)).trans h.2.2.1, (hW'.cell (World.block_lt_of_cell? w10 _ h.2.2.2.1)).trans h.2.2.2.1, (hW'.cell (World.block_lt_of_cell? w10 _ h.2.2.2.2.1)).trans h.2.2.2.2.1, (hW'.cell (World.block_lt_of_cell? w10 _ h.2.2.2.2.2)).trans h.2.2.2.2.2⟩
                have hki : (k : Int) < (l2.length : Int) := by omega
                clear p0 p1 p2 pl pC q0 q1 q2 ql qC hxl hx hxe
                go_wp2_with fail
                as_aux_lemma =>
                 refine wp_region_auto (Below w10.heap.size w10) ((0, none, none) :: (0, none, none) :: (0, some (158, true), none) :: (0, some (158, true), none) :: (0, some (158, true), none) :: (0, some (158, true), none) :: (0, some (158, true), none) :: (0, some (158, true), none) :: (0, some (158, true), none) :: (0, some (158, true), none) :: (0, some (158, true), some true) :: (0, none, none) :: (0, none, none) :: []) (by kernel_rfl) (by kernel_rfl) (fun _ _ d _ _ h => by cases d <;> exact h) hB.out.drew ?_
                 repeat' (first
                   | (with_reducible apply rel_pass
                      focus (intro W hW; first | (go_simp; exact rfl) | go_simp)
                      simp only [Act.put, List.setIfInBounds_toArray, List.set_cons_zero, List.set_cons_succ])
                   | (with_reducible apply rel_yes
                      focus (exact rfl))
                   | (with_reducible apply rel_no
                      focus (exact rfl)
                      simp only [Act.put, List.setIfInBounds_toArray, List.set_cons_zero, List.set_cons_succ])
                   | (with_reducible apply rel_askF
                      focus (exact rfl)
                      all_goals (intro hb; simp only [hb, Act.put, List.setIfInBounds_toArray, List.set_cons_zero, List.set_cons_succ]))
                   | (with_reducible apply rel_askT
                      focus (exact rfl)
                      all_goals (intro hb; simp only [hb, Act.put, List.setIfInBounds_toArray, List.set_cons_zero, List.set_cons_succ]))
                   | (with_reducible apply rel_front1)
                   | (with_reducible apply rel_front2)
                   | (with_reducible apply rel_front3)
                   | (with_reducible apply rel_front4)
                   | (with_reducible apply rel_front5)
                   | (with_reducible apply rel_front6))
                 with_reducible apply rel_act
                 intro K hK
                 go_simp
                 as_aux_lemma =>
                  refine (cohousingref43_SameSealed.calls 100 x.f0 x.f1 AG cG x.f2 x.f0 x.f1 AH cH x.f2 true wr.drew (Kd.C_below HPC.out.2.1 hB.out.drew) HPC.out.1 (Kd.C_below HPC.out.2.2.2.1 hB.out.drew) HPC.out.2.2.1 (sameSealed_f x (by have := HPC.out.2.2.2.2; omega) _ (by have := HPC.out.2.2.2.2; omega))).mono ?_
                  rintro e w11 ⟨rfl, hd⟩
                  have HB11 := Lib.hid (hB.out.drew.trans (Below.mono hd hB.out.drew.size))
                  clear hd
                  refine hK _ _ ⟨fun _ => HB11.out, ?_⟩
                  clear hK K
                  try simp only [Act.put, List.setIfInBounds_toArray, List.set_cons_zero, List.set_cons_succ]
                  repeat' (first
                    | (with_reducible apply rel_pass
                       focus (intro W hW; first | (go_simp; exact rfl) | go_simp)
                       simp only [Act.put, List.setIfInBounds_toArray, List.set_cons_zero, List.set_cons_succ])
                    | (with_reducible apply rel_yes
                       focus (exact rfl))
                    | (with_reducible apply rel_no
                       focus (exact rfl)
                       simp only [Act.put, List.setIfInBounds_toArray, List.set_cons_zero, List.set_cons_succ])
                    | (with_reducible apply rel_askF
                       focus (exact rfl)
                       all_goals (intro hb; simp only [hb, Act.put, List.setIfInBounds_toArray, List.set_cons_zero, List.set_cons_succ]))
                    | (with_reducible apply rel_askT
                       focus (exact rfl)
                       all_goals (intro hb; simp only [hb, Act.put, List.setIfInBounds_toArray, List.set_cons_zero, List.set_cons_succ]))
                    | (with_reducible apply rel_front1)
                    | (with_reducible apply rel_front2)
                    | (with_reducible apply rel_front3)
                    | (with_reducible apply rel_front4)
                    | (with_reducible apply rel_front5)
                    | (with_reducible apply rel_front6))
                  apply rel_nil
                  simp only [Exit.then, Exit.inBlock]
                  clear hS
                  have hwk : IntKind.i64.wrap ((k : Int) + 1) = (k : Int) + 1 := by have := HN.out; rw [IntKind.wrap_i64]; omega
                  as_aux_lemma =>
                   go_wp2_with fail
                   refine ⟨⟨k + 1, by omega, rfl, congrArg (Value.int .i64) (by omega), HB11.out⟩, ?_⟩
                   simp only [intOf]
                   omega
              · obtain rfl : k = l2.length := by omega
                as_aux_lemma =>
                 have HB11 := Lib.hid (HB10.out.trans (Below.mono hB.out HB10.out.size))
                 have HGI := Lib.hid (And.intro HGH.out.1 (And.intro (Kd.C_below HGH.out.2.1 hB.out) (And.intro HGH.out.2.2.1 (Kd.C_below HGH.out.2.2.2 hB.out))))
                 have HOI := Lib.hid (And.intro HOT.out.1 (And.intro HOT.out.2.1 (And.intro (Kd.C_below HOT.out.2.2.1 hB.out) HOT.out.2.2.2)))
                 clear hB HB10 HGH HOT HB6 HBW HL HH
                 rename World => w11
                 obtain ⟨⟨r1, r2⟩, hr⟩ : ∃ z, rootS a1 (sealG (pub s : Int) 0 l2) = z := ⟨_, rfl⟩
                 have HRT := Lib.hid (show statement_Root.f 1200 a1 (sealG (pub s : Int) 0 l2) = some (r1, r2) by rw [sroot_f _ _ _ (by omega), hr])
                 have HRR := Lib.hid hr
                 have hR1 := statement_Root.calls 1200 a1 G ng (sealG (pub s : Int) 0 l2) r1 r2 w11 (by rw [sealG_len]; exact HGI.out.2.1) (by rw [sealG_len]; exact HGI.out.1) (TabOk.below HT.out HB11.out) HRT.out
                 simp only [sealG_len] at hR1
                 have HR1 := Lib.hid hR1
                 clear hr hR1
                 go_wp2_with fail
                 refine HR1.out.mono ?_
                 rintro e w12 ⟨rfl, hb⟩
                 have HB12 := Lib.hid (HB11.out.trans (Below.mono hb HB11.out.size))
                 have HGJ := Lib.hid (And.intro HGI.out.1 (And.intro (Kd.C_below HGI.out.2.1 hb) (And.intro HGI.out.2.2.1 (Kd.C_below HGI.out.2.2.2 hb))))
                 have HOJ := Lib.hid (And.intro HOI.out.1 (And.intro HOI.out.2.1 (And.intro (Kd.C_below HOI.out.2.2.1 hb) HOI.out.2.2.2)))
                 have hR2 := statement_Root.calls 1200 a1 H nh (sealG (pub s : Int) 0 l2) r1 r2 w12 (by rw [sealG_len]; exact HGJ.out.2.2.2) (by rw [sealG_len]; exact HGJ.out.2.2.1) (TabOk.below HT.out HB12.out) HRT.out
                 simp only [sealG_len] at hR2
                 have HR2 := Lib.hid hR2
                 clear hb hR2 HB11 HGI HOI HR1
                 go_wp2_with fail
                 refine HR2.out.mono ?_
                 rintro e w13 ⟨rfl, hb⟩
                 have HB13 := Lib.hid (HB12.out.trans (Below.mono hb HB12.out.size))
                 have HGK := Lib.hid (And.intro HGJ.out.1 (And.intro (Kd.C_below HGJ.out.2.1 hb) (And.intro HGJ.out.2.2.1 (Kd.C_below HGJ.out.2.2.2 hb))))
                 have HOK2 := Lib.hid (And.intro HOJ.out.1 (And.intro HOJ.out.2.1 (And.intro (Kd.C_below HOJ.out.2.2.1 hb) HOJ.out.2.2.2)))
                 clear hb HB12 HGJ HOJ HR2
                 by_cases hm : (monthB a1 && allB (sealG (pub s : Int) 0 l2)) = true
                 case neg =>
                   have h1 := HRR.out
                   rw [show rootS a1 (sealG (pub s : Int) 0 l2) = (0, 1) from by unfold rootS; rw [if_neg hm]] at h1
                   simp only [Prod.mk.injEq] at h1
                   obtain ⟨rfl, rfl⟩ := h1
                   clear hm
                   go_wp2_with fail
                   go_ret
                   exact ⟨rfl, HB13.out⟩
                 simp only [Bool.and_eq_true] at hm
                 have h1 := HRR.out
                 rw [rootS_ok hm.1 hm.2] at h1
                 simp only [Prod.mk.injEq] at h1
                 obtain ⟨-, rfl⟩ := h1
                 have HM := Lib.hid hm.1
                 clear hm
                 go_wp2_with fail
                 as_aux_lemma =>
                  go_loopw [11, 196, 28] (fun u j q wr => ∃ k : Nat, k ≤ l2.length ∧ u = .bool true ∧ j = .int .i64 k ∧ Hid (Below w13.heap.size w13 wr)) (fun _ j _ _ => l2.length - (intOf j).toNat)
                  case atStart => exact ⟨0, Nat.zero_le _, rfl, rfl, Below.refl _ _⟩
                  case round =>
                    obtain ⟨k, hk, rfl, rfl, hB⟩ := hrel
                    by_cases hlt : k < l2.length
                    · have hBw := HB13.out.trans (Below.mono hB.out HB13.out.size)
                      obtain ⟨adk, Ak, ck, e2, p0, pl, pC⟩ := at_L7 (Kd.C_below HR.out.1 hBw) (k : Int) (by omega) (by omega)
                      cases e2
                      rw [rd_getLL hlt] at p0 pl pC
                      simp only [Int.toNat_natCast] at p0
                      obtain ⟨lk, hlk⟩ : ∃ l, l2[k] = l := ⟨_, rfl⟩
                      have hlt2 : k < ot.length := by rw [HOK2.out.1]; exact hlt
                      obtain ⟨ado, Ao, co, e3, q0, ql, qC⟩ := at_L7 (Kd.C_below HOK2.out.2.2.1 hB.out) (k : Int) (by omega) (by omega)
                      cases e3
                      rw [rd_getLL hlt2] at q0 ql qC
                      simp only [Int.toNat_natCast] at q0
                      obtain ⟨lo, hlo⟩ : ∃ l, ot[k] = l := ⟨_, rfl⟩
                      have hon : ot.length ≤ 20 := by rw [HOK2.out.1]; exact HN.out
                      have o1 := own_statement (pub s : Int) a1 l2 HN.out HM.out HOK.out hlt
                      have o2 := own_statement (pub s : Int) a1 ot hon HM.out HOK2.out.2.2.2.2 hlt2
                      rw [hlk] at p0 pl pC o1
                      rw [hlo] at q0 ql qC o2
                      rw [HOK2.out.2.2.2.1] at o2
                      have hk1 : (((k + 1 : Nat)) : Int) = (k : Int) + 1 := by omega
                      rw [hk1] at o1 o2
                      obtain ⟨pth, hpth⟩ : ∃ p, pathV 10 k (firstV (lfL a1 (sealG (pub s : Int) 0 l2))) = p := ⟨_, rfl⟩
                      rw [hpth] at o1 o2
                      have hpl : pth.length ≤ 10 := by rw [← hpth]; exact pathV_len _ _ _
                      have hloe : k ≠ who → lo = lk := fun hne => by
                        rw [← hlo, ← hlk]
                        simp only [← HOTE.out]
                        rw [List.getElem_set, if_neg (Ne.symm hne)]
                      have hlk64 : lk.length ≤ 64 := by rw [← hlk]; exact (lines_parts (sealOk_at HOK.out hlt).2).1
                      have M1 := statement_Make.calls a1 G ng (sealG (pub s : Int) 0 l2) ((k : Int) + 1) Ak ck lk ((k : Int) + 1) a1 (k : Int) (pub s : Int) lk pth 0 wr (by rw [sealG_len]; exact Kd.C_below HGK.out.2.1 hB.out) (by rw [sealG_len]; exact HGK.out.1) pC pl (TabOk.below HT.out hBw) (by unfold statement_Make.f; rw [o1.1])
                      simp only [sealG_len] at M1
                      have HM1 := Lib.hid M1
                      have HQ := Lib.hid (And.intro ql (And.intro qC (And.intro hpl (And.intro hloe (And.intro hlk64 o2.1)))))
                      have hwk : IntKind.i64.wrap ((k : Int) + 1) = (k : Int) + 1 := by rw [IntKind.wrap_i64]; omega
                      have hki : (k : Int) < (l2.length : Int) := by omega
                      have hB2 := Lib.hid hBw
                      have HQ0 := Lib.hid q0
                      clear pl pC M1 o1 o2 hk1 hpth hpl hloe hlk64 ql qC q0 hlk hlo hon hlt2 hBw
                      go_wp2_with fail
                      refine HM1.out.mono ?_
                      rintro e w14 ⟨v4, v5, rfl, o4, o5, hb⟩
                      obtain ⟨M, nm, rfl, m1, m2⟩ := Kd.R_reads o4
                      obtain ⟨P, np, rfl, m3, m4⟩ := Kd.R_reads o5
                      have hB14 := hB.out.trans (Below.mono hb hB.out.size)
                      have hq0 := HQ0.out
                      rw [show (⟨g, 0, none⟩ : Addr).add k = ⟨g, k, none⟩ from by unfold Addr.add; split <;> simp_all] at hq0
                      have q1 : ∀ o, (w14.alloc o).cell? ⟨g, k, none⟩ = some (.slice Ao lo.length co) := fun o => ((hb.alloc hb.size o).cell (World.block_lt_of_cell? wr _ hq0)).trans hq0
                      have HMP := Lib.hid (And.intro m1 (And.intro m2 (And.intro m3 m4)))
                      have HB14 := Lib.hid (And.intro hB14 (show Below wr.heap.size wr w14 from hb))
                      clear o4 o5 hb m1 m2 m3 m4 hB14 hq0 HM1 p0
                      go_wp2_with fail
                      obtain ⟨hx15, hs15, hb15⟩ := Blk.box w14 35 [Value.int .i64 ((k : Int) + 1), Value.int .i64 a1, Value.int .i64 (k : Int), Value.int .i64 (pub s : Int), Value.slice M lk.length nm, Value.slice P pth.length np]
                      rw [show (List.toArray [Value.int .i64 ((k : Int) + 1), Value.int .i64 a1, Value.int .i64 (k : Int), Value.int .i64 (pub s : Int), Value.slice M lk.length nm, Value.slice P pth.length np]) = #[Value.int .i64 ((k : Int) + 1), Value.int .i64 a1, Value.int .i64 (k : Int), Value.int .i64 (pub s : Int), Value.slice M lk.length nm, Value.slice P pth.length np] from rfl] at hx15 hs15 hb15
                      generalize w14.alloc (Obj.cells #[Value.int .i64 ((k : Int) + 1), Value.int .i64 a1, Value.int .i64 (k : Int), Value.int .i64 (pub s : Int), Value.slice M lk.length nm, Value.slice P pth.length np] 35) = w15 at hx15 hs15 hb15 ⊢
                      have hB15 := HB14.out.1.trans (Below.mono hb15 HB14.out.1.size)
                      have hr15 := HB14.out.2.trans (Below.mono hb15 HB14.out.2.size)
                      have mk2 := statement_Make.calls a1 H nh (sealG (pub s : Int) 0 l2) ((k : Int) + 1) Ao co lo ((k : Int) + 1) a1 (k : Int) (pub s : Int) lo pth 0 w15 (by rw [sealG_len]; exact Kd.C_below HGK.out.2.2.2 hB15) (by rw [sealG_len]; exact HGK.out.2.2.1) (Kd.C_below HQ.out.2.1 hr15) HQ.out.1 (TabOk.below HT.out (HB13.out.trans (Below.mono hB15 HB13.out.size))) (by unfold statement_Make.f; rw [HQ.out.2.2.2.2.2])
                      simp only [sealG_len] at mk2
                      refine mk2.mono ?_
                      rintro e w16 ⟨v4, v5, rfl, o4, o5, hb⟩
                      obtain ⟨M2, nm2, rfl, m1, m2⟩ := Kd.R_reads o4
                      obtain ⟨P2, np2, rfl, m3, m4⟩ := Kd.R_reads o5
                      have HX16 := Lib.hid (hx15.below hb hx15.lt)
                      have hb1416 := hb15.trans (Below.mono hb hb15.size)
                      have HB16 := Lib.hid (hB15.trans (Below.mono hb hB15.size))
                      have HMR := Lib.hid (And.intro HMP.out.1 (And.intro (Kd.C_below HMP.out.2.1 hb1416) (And.intro HMP.out.2.2.1 (And.intro (Kd.C_below HMP.out.2.2.2 hb1416) (And.intro m1 (And.intro m2 (And.intro m3 m4)))))))
                      clear mk2 o4 o5 hb m1 m2 m3 m4 hx15 hs15 hb15 hB15 hr15 hb1416 HMP HB14 q1
                      by_cases hkw : k = who
                      · subst hkw
                        go_wp2_with fail
                        refine ⟨⟨k + 1, by omega, rfl, by first | rfl | (refine congrArg (Value.int .i64) ?_; unfold wrap64; omega) | (refine congrArg (Value.int .i64) ?_; omega), HB16.out.alloc HB16.out.size _⟩, ?_⟩
                        simp only [intOf]
                        first | omega | (unfold wrap64; omega)
                      · have hlo := HQ.out.2.2.2.1 hkw
                        subst hlo
                        have hne : ((k : Int) == (who : Int)) = false := by simp; omega
                        have s0 := fun o => (HX16.out.alloc o).cell 0 _ rfl
                        have s1 := fun o => (HX16.out.alloc o).cell 1 _ rfl
                        have s2 := fun o => (HX16.out.alloc o).cell 2 _ rfl
                        have s3 := fun o => (HX16.out.alloc o).cell 3 _ rfl
                        have s4 := fun o => (HX16.out.alloc o).cell 4 _ rfl
                        have s5 := fun o => (HX16.out.alloc o).cell 5 _ rfl
                        go_wp2_with fail
                        have hbx : Below w16.heap.size w16 (w16.alloc (Obj.cells #[Value.int .i64 ((k : Int) + 1), Value.int .i64 a1, Value.int .i64 (k : Int), Value.int .i64 (pub s : Int), Value.slice M2 lo.length nm2, Value.slice P2 pth.length np2] 35)) := (Below.refl _ _).alloc (Nat.le_refl _) _
                        generalize w16.alloc (Obj.cells #[Value.int .i64 ((k : Int) + 1), Value.int .i64 a1, Value.int .i64 (k : Int), Value.int .i64 (pub s : Int), Value.slice M2 lo.length nm2, Value.slice P2 pth.length np2] 35) = w17 at hbx ⊢
                        refine (cohousingref43_Same.calls 200 ((k : Int) + 1) a1 (k : Int) (pub s : Int) M nm lo P np pth ((k : Int) + 1) a1 (k : Int) (pub s : Int) M2 nm2 lo P2 np2 pth true w17 (Kd.C_below HMR.out.2.1 hbx) HMR.out.1 (Kd.C_below HMR.out.2.2.2.1 hbx) HMR.out.2.2.1 (Kd.C_below HMR.out.2.2.2.2.2.1 hbx) HMR.out.2.2.2.2.1 (Kd.C_below HMR.out.2.2.2.2.2.2.2 hbx) HMR.out.2.2.2.2.2.2.1 (same43_f _ _ _ _ lo pth (by have := HQ.out.2.2.2.2.1; omega) (by have := HQ.out.2.2.1; omega) _ (by have h1 := HQ.out.2.2.2.2.1; have h2 := HQ.out.2.2.1; omega))).mono ?_
                        rintro e w18 ⟨rfl, hb⟩
                        have HB18 := Lib.hid ((HB16.out.trans (Below.mono hbx HB16.out.size)).trans (Below.mono hb (by have := HB16.out.size; have := hbx.size; omega)))
                        clear hb hbx s0 s1 s2 s3 s4 s5 HX16 HMR
                        go_wp2_with fail
                        refine ⟨⟨k + 1, by omega, rfl, by first | rfl | (refine congrArg (Value.int .i64) ?_; unfold wrap64; omega) | (refine congrArg (Value.int .i64) ?_; omega), HB18.out⟩, ?_⟩
                        simp only [intOf]
                        first | omega | (unfold wrap64; omega)
                    · have HBE := Lib.hid (HB13.out.trans (Below.mono hB.out HB13.out.size))
                      clear hB
                      go_wp2_with fail
                      go_ret
                      exact ⟨by simp, HBE.out⟩
end Go.Proofs.YtkdckjafhaadiaaDoor.P
