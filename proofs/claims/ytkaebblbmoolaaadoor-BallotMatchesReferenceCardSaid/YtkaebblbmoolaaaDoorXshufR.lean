/- The reference's Shuffle. (Written by wip/mkshufr.py.) -/
import Derived.Test.YtkaebblbmoolaaaDoorPbR
import Derived.Test.YtkaebblbmoolaaaDoorXshuf
import Derived.Test.YtkaebblbmoolaaaDoorXaskR
set_option linter.unusedSimpArgs false
set_option linter.unusedVariables false
namespace Go.Proofs.YtkaebblbmoolaaaDoor.P
open Go Go.RowKit Go.Proofs.YtkaebblbmoolaaaDoorW.PrintWords Go.Proofs.YtkaebblbmoolaaaDoorW.PrintLast Go.Proofs.YtkaebblbmoolaaaDoorW.PrintMore Go.Proofs.YtkaebblbmoolaaaDoor.Ord Go.Proofs.YtkaebblbmoolaaaDoor.OrdI
attribute [local go_sem ↓] Go.wp_at_zero Go.wp_at_succ

/-- 'append' of one element in a region that draws its order. -/
theorem act_append {P : Program} {o : Oper} {a : Act} {Q : Exit → Act → World → Prop} {Kc : Act → World → Prop} {α : Type} (d : Kd α) {w0 W : World} (base : Nat) (hgd : o.guard = none) (s x : Operand) (t e : TypeId) (z : Value) (bytes : Nat)
    (ho : o.op = .call { callee := .builtin .append, args := #[s, x], argTypes := #[t, t] })
    (ht : P.underlying t = some (.slice e)) (hinfo : (P.info? e).map (fun i => (i.zero, i.size, i.bytes)) = some (some z, d.sz, bytes)) (hz : z.cells.size = d.sz) (hs0 : 0 < d.sz) (hb0 : 0 < bytes)
    (v : Value) (xs : List α) (p : α) (cs : List Value) (ok okp : Nat → Prop) (hs : a.eval s = v) (hx : a.eval x = .slice (some ⟨W.heap.size, 0, none⟩) 1 1) (hp : d.M W base okp p cs) (hokp : ∀ k, okp k → ok k ∧ some k ≠ v.ownBlock) (hfresh : ∀ k, W.heap.size ≤ k → ok k)
    (HO : d.R e W base ok v xs) (HB : Below base w0 W) (hbase : base ≤ W.heap.size) (hl : (xs.length + 1) * bytes ≤ 140737488355328)
    (h : ∀ v1 w1, d.R e w1 base ok v1 (xs ++ [p]) → Below base w0 w1 → W.grownBy w1 v.ownBlock → (v1.ownBlock = v.ownBlock ∨ ∃ b, v1.ownBlock = some b ∧ W.heap.size ≤ b) → Kc (a.put o.dst v1) w1) :
    Oper.wp P o a (W.alloc (.cells cs.toArray e)) Kc Q := by
  have hw : Region.wanted o (yielded #[] a.tmps) = true := by simp [Region.wanted, hgd]
  have hq := Kd.R_append_step (P := P) (ops := #[]) (o := o) (a := a) (Q := Q) (Kc := Kc) d base hw s x t e z bytes ho ht hinfo hz hs0 hb0 v xs p cs ok okp hs hx hp hokp hfresh HO HB hbase hl h
  rwa [if_pos hw] at hq

theorem info_c : (Tryd.prog.info? 23).map (fun i => (i.zero, i.size, i.bytes)) = some (some (.agg #[(.int .i64 0), (.int .i64 0)]), 2, 16) := by kernel_rfl
set_option maxRecDepth 100000 in
set_option maxHeartbeats 4000000 in
theorem shufR_calls (a0 : Int) (A1 : Option Addr) (c1 : Nat) (l1 : List (S23)) (A2 : Option Addr) (c2 : Nat) (l2 : List Int) (A3 : Option Addr) (c3 : Nat) (l3 : List Int) (A4 : Option Addr) (c4 : Nat) (l4 : List Int) (A5 : Option Addr) (c5 : Nat) (l5 : List Int) (w : World)
    (hr1 : Kd.C k23 w A1 l1.length l1) (hc1 : l1.length ≤ c1) (hr2 : Kd.C (Kd.int .i64) w A2 l2.length l2) (hc2 : l2.length ≤ c2) (hr3 : Kd.C (Kd.int .i64) w A3 l3.length l3) (hc3 : l3.length ≤ c3) (hr4 : Kd.C (Kd.int .i64) w A4 l4.length l4) (hc4 : l4.length ≤ c4) (hr5 : Kd.C (Kd.int .i64) w A5 l5.length l5) (hc5 : l5.length ≤ c5)
    (hlen : l1.length < 4611686018427387904 ∧ l2.length ≤ 1000 ∧ l3.length ≤ 1000 ∧ l4.length ≤ 1000 ∧ l5.length ≤ 1000)
    (r : List S23 × List S23 × List S53 × Int) (h : shufV a0 l1 l2 l3 l4 l5 = r) :
    Calls Tryd.prog 17 #[.int .i64 a0, .slice A1 l1.length c1, .slice A2 l2.length c2, .slice A3 l3.length c3, .slice A4 l4.length c4, .slice A5 l5.length c5] w fun e w' => ∃ v0 v1 v2 : Value, e = .returned (.tuple #[.agg #[v0, v1, v2], .int .i64 r.2.2.2]) ∧ Kd.R k23 23 w' w.heap.size (fun _ => True) v0 r.1 ∧ Kd.R k23 23 w' w.heap.size (fun _ => True) v1 r.2.1 ∧ Kd.R k53 53 w' w.heap.size (fun _ => True) v2 r.2.2.1 ∧ Below w.heap.size w w' := by
  have HRES := Lib.hid h
  have HR := Lib.hid (And.intro hr1 (And.intro hr2 (And.intro hr3 (And.intro hr4 hr5))))
  have HC := Lib.hid (And.intro hc1 (And.intro hc2 (And.intro hc3 (And.intro hc4 hc5))))
  have HLN := Lib.hid hlen
  obtain ⟨k, hk⟩ : ∃ k : Nat, l1.length + 200000 < k := ⟨l1.length + 200001, by omega⟩
  have HK := Lib.hid hk
  clear h hr1 hr2 hr3 hr4 hr5 hc1 hc2 hc3 hc4 hc5 hlen hk
  go_enter Tryd.func17, Tryd.ntmps17
  go_wp2_with fail
  obtain ⟨hx1, hs1, hb1⟩ := Blk.box w 28 [Value.slice none 0 0, Value.slice none 0 0, Value.slice none 0 0]
  rw [show (List.toArray [Value.slice none 0 0, Value.slice none 0 0, Value.slice none 0 0]) = #[Value.slice none 0 0, Value.slice none 0 0, Value.slice none 0 0] from rfl] at hx1 hs1 hb1
  generalize w.alloc (Obj.cells #[Value.slice none 0 0, Value.slice none 0 0, Value.slice none 0 0] 28) = w1 at hx1 hs1 hb1 ⊢
  have HX1 := Lib.hid hx1
  have HB1 := Lib.hid hb1
  clear hx1 hs1 hb1
  refine (cohousingref40_Ciphers.calls k A1 c1 l1 (ciphsB l1) w1 (Kd.C_below HR.out.1 HB1.out) HC.out.1 (refCiphers_f l1 (by have := HLN.out; omega) k (by have := HK.out; omega))).mono ?_
  rintro e w2 ⟨rfl, hbn⟩
  have HX2 := Lib.hid (HX1.out.below hbn HX1.out.lt)
  have HB2 := Lib.hid (HB1.out.trans (Below.mono hbn HB1.out.size))
  clear hbn HX1 HB1
  go_wp2_with fail
  refine (cohousingref40_Key.calls k a0 (keyB a0) w2 (refKey_f a0 k (by have := HK.out; omega))).mono ?_
  rintro e w3 ⟨rfl, hd⟩
  have hbn := hd.below
  clear hd
  have HX3 := Lib.hid (HX2.out.below hbn HX2.out.lt)
  have HB3 := Lib.hid (HB2.out.trans (Below.mono hbn HB2.out.size))
  clear hbn HX2 HB2
  cases k0 : keyB a0 with
  | false =>
    have hres := HRES.out
    rw [show shufV a0 l1 l2 l3 l4 l5 = ([], [], [], 1) from by unfold shufV shufOk; rw [k0]; simp] at hres
    subst hres
    have f0 := HX3.out.frozen 0
    have e0 := HX3.out.cell 0 _ rfl
    have f1 := HX3.out.frozen 1
    have e1 := HX3.out.cell 1 _ rfl
    have f2 := HX3.out.frozen 2
    have e2 := HX3.out.cell 2 _ rfl
    clear k0
    go_wp2_with fail
    refine bodyPost_ret (results_ct rfl _ _ w.heap.size 28 #[.slice none 0 0, .slice none 0 0, .slice none 0 0] (0, 0) _ rfl ?blk Tryd.underlying28 rfl (by kernel_rfl)) rfl ?_
    case blk => exact ((HX3.out.set 0 (.slice none 0 0)).set 1 (.slice none 0 0)).set 2 (.slice none 0 0)
    exact ⟨_, _, _, rfl, R_none _ _ _ _, R_none _ _ _ _, R_none _ _ _ _, ((HB3.out.setCell (Nat.le_refl _) _).setCell (Nat.le_refl _) _).setCell (Nat.le_refl _) _⟩
  | true =>
    cases k1 : ciphsB l1 with
    | false =>
      have hres := HRES.out
      rw [show shufV a0 l1 l2 l3 l4 l5 = ([], [], [], 1) from by unfold shufV shufOk; rw [k1]; simp] at hres
      subst hres
      have f0 := HX3.out.frozen 0
      have e0 := HX3.out.cell 0 _ rfl
      have f1 := HX3.out.frozen 1
      have e1 := HX3.out.cell 1 _ rfl
      have f2 := HX3.out.frozen 2
      have e2 := HX3.out.cell 2 _ rfl
      clear k0 k1
      go_wp2_with fail
      refine bodyPost_ret (results_ct rfl _ _ w.heap.size 28 #[.slice none 0 0, .slice none 0 0, .slice none 0 0] (0, 0) _ rfl ?blk Tryd.underlying28 rfl (by kernel_rfl)) rfl ?_
      case blk => exact ((HX3.out.set 0 (.slice none 0 0)).set 1 (.slice none 0 0)).set 2 (.slice none 0 0)
      exact ⟨_, _, _, rfl, R_none _ _ _ _, R_none _ _ _ _, R_none _ _ _ _, ((HB3.out.setCell (Nat.le_refl _) _).setCell (Nat.le_refl _) _).setCell (Nat.le_refl _) _⟩
    | true =>
      go_wp2_with fail
      refine (cohousingref40_Order.calls k A2 c2 l2 (l1.length : Int) (orderB l2 l1.length) w3 (Kd.C_below HR.out.2.1 HB3.out) HC.out.2.1 (refOrder_f l2 l1.length (by have := HLN.out; omega) k (by have := HLN.out; have := HK.out; omega))).mono ?_
      rintro e w4 ⟨rfl, hd⟩
      have hbn := hd.below
      clear hd
      have HX4 := Lib.hid (HX3.out.below hbn HX3.out.lt)
      have HB4 := Lib.hid (HB3.out.trans (Below.mono hbn HB3.out.size))
      clear hbn HX3 HB3
      cases k2 : orderB l2 l1.length with
      | false =>
        have hres := HRES.out
        rw [show shufV a0 l1 l2 l3 l4 l5 = ([], [], [], 1) from by unfold shufV shufOk; rw [k2]; simp] at hres
        subst hres
        have f0 := HX4.out.frozen 0
        have e0 := HX4.out.cell 0 _ rfl
        have f1 := HX4.out.frozen 1
        have e1 := HX4.out.cell 1 _ rfl
        have f2 := HX4.out.frozen 2
        have e2 := HX4.out.cell 2 _ rfl
        clear k0 k1 k2
        go_wp2_with fail
        refine bodyPost_ret (results_ct rfl _ _ w.heap.size 28 #[.slice none 0 0, .slice none 0 0, .slice none 0 0] (0, 0) _ rfl ?blk Tryd.underlying28 rfl (by kernel_rfl)) rfl ?_
        case blk => exact ((HX4.out.set 0 (.slice none 0 0)).set 1 (.slice none 0 0)).set 2 (.slice none 0 0)
        exact ⟨_, _, _, rfl, R_none _ _ _ _, R_none _ _ _ _, R_none _ _ _ _, ((HB4.out.setCell (Nat.le_refl _) _).setCell (Nat.le_refl _) _).setCell (Nat.le_refl _) _⟩
      | true =>
        go_wp2_with fail
        refine (cohousingref40_Order.calls k A3 c3 l3 (l1.length : Int) (orderB l3 l1.length) w4 (Kd.C_below HR.out.2.2.1 HB4.out) HC.out.2.2.1 (refOrder_f l3 l1.length (by have := HLN.out; omega) k (by have := HLN.out; have := HK.out; omega))).mono ?_
        rintro e w5 ⟨rfl, hd⟩
        have hbn := hd.below
        clear hd
        have HX5 := Lib.hid (HX4.out.below hbn HX4.out.lt)
        have HB5 := Lib.hid (HB4.out.trans (Below.mono hbn HB4.out.size))
        clear hbn HX4 HB4
        cases k3 : orderB l3 l1.length with
        | false =>
          have hres := HRES.out
          rw [show shufV a0 l1 l2 l3 l4 l5 = ([], [], [], 1) from by unfold shufV shufOk; rw [k3]; simp] at hres
          subst hres
          have f0 := HX5.out.frozen 0
          have e0 := HX5.out.cell 0 _ rfl
          have f1 := HX5.out.frozen 1
          have e1 := HX5.out.cell 1 _ rfl
          have f2 := HX5.out.frozen 2
          have e2 := HX5.out.cell 2 _ rfl
          clear k0 k1 k2 k3
          go_wp2_with fail
          refine bodyPost_ret (results_ct rfl _ _ w.heap.size 28 #[.slice none 0 0, .slice none 0 0, .slice none 0 0] (0, 0) _ rfl ?blk Tryd.underlying28 rfl (by kernel_rfl)) rfl ?_
          case blk => exact ((HX5.out.set 0 (.slice none 0 0)).set 1 (.slice none 0 0)).set 2 (.slice none 0 0)
          exact ⟨_, _, _, rfl, R_none _ _ _ _, R_none _ _ _ _, R_none _ _ _ _, ((HB5.out.setCell (Nat.le_refl _) _).setCell (Nat.le_refl _) _).setCell (Nat.le_refl _) _⟩
        | true =>
          go_wp2_with fail
          refine (cohousingref40_exponents.calls k A4 c4 l4 (l1.length : Int) (exlB l4 l1.length) w5 (Kd.C_below HR.out.2.2.2.1 HB5.out) HC.out.2.2.2.1 (refExps_f l4 l1.length (by have := HLN.out; omega) k (by have := HLN.out; have := HK.out; omega))).mono ?_
          rintro e w6 ⟨rfl, hd⟩
          have hbn := hd.below
          clear hd
          have HX6 := Lib.hid (HX5.out.below hbn HX5.out.lt)
          have HB6 := Lib.hid (HB5.out.trans (Below.mono hbn HB5.out.size))
          clear hbn HX5 HB5
          cases k4 : exlB l4 l1.length with
          | false =>
            have hres := HRES.out
            rw [show shufV a0 l1 l2 l3 l4 l5 = ([], [], [], 1) from by unfold shufV shufOk; rw [k4]; simp] at hres
            subst hres
            have f0 := HX6.out.frozen 0
            have e0 := HX6.out.cell 0 _ rfl
            have f1 := HX6.out.frozen 1
            have e1 := HX6.out.cell 1 _ rfl
            have f2 := HX6.out.frozen 2
            have e2 := HX6.out.cell 2 _ rfl
            clear k0 k1 k2 k3 k4
            go_wp2_with fail
            refine bodyPost_ret (results_ct rfl _ _ w.heap.size 28 #[.slice none 0 0, .slice none 0 0, .slice none 0 0] (0, 0) _ rfl ?blk Tryd.underlying28 rfl (by kernel_rfl)) rfl ?_
            case blk => exact ((HX6.out.set 0 (.slice none 0 0)).set 1 (.slice none 0 0)).set 2 (.slice none 0 0)
            exact ⟨_, _, _, rfl, R_none _ _ _ _, R_none _ _ _ _, R_none _ _ _ _, ((HB6.out.setCell (Nat.le_refl _) _).setCell (Nat.le_refl _) _).setCell (Nat.le_refl _) _⟩
          | true =>
            go_wp2_with fail
            refine (cohousingref40_exponents.calls k A5 c5 l5 (l1.length : Int) (exlB l5 l1.length) w6 (Kd.C_below HR.out.2.2.2.2 HB6.out) HC.out.2.2.2.2 (refExps_f l5 l1.length (by have := HLN.out; omega) k (by have := HLN.out; have := HK.out; omega))).mono ?_
            rintro e w7 ⟨rfl, hd⟩
            have hbn := hd.below
            clear hd
            have HX7 := Lib.hid (HX6.out.below hbn HX6.out.lt)
            have HB7 := Lib.hid (HB6.out.trans (Below.mono hbn HB6.out.size))
            clear hbn HX6 HB6
            cases k5 : exlB l5 l1.length with
            | false =>
              have hres := HRES.out
              rw [show shufV a0 l1 l2 l3 l4 l5 = ([], [], [], 1) from by unfold shufV shufOk; rw [k5]; simp] at hres
              subst hres
              have f0 := HX7.out.frozen 0
              have e0 := HX7.out.cell 0 _ rfl
              have f1 := HX7.out.frozen 1
              have e1 := HX7.out.cell 1 _ rfl
              have f2 := HX7.out.frozen 2
              have e2 := HX7.out.cell 2 _ rfl
              clear k0 k1 k2 k3 k4 k5
              go_wp2_with fail
              refine bodyPost_ret (results_ct rfl _ _ w.heap.size 28 #[.slice none 0 0, .slice none 0 0, .slice none 0 0] (0, 0) _ rfl ?blk Tryd.underlying28 rfl (by kernel_rfl)) rfl ?_
              case blk => exact ((HX7.out.set 0 (.slice none 0 0)).set 1 (.slice none 0 0)).set 2 (.slice none 0 0)
              exact ⟨_, _, _, rfl, R_none _ _ _ _, R_none _ _ _ _, R_none _ _ _ _, ((HB7.out.setCell (Nat.le_refl _) _).setCell (Nat.le_refl _) _).setCell (Nat.le_refl _) _⟩
            | true =>
              have hok : shufOk a0 l1 l2 l3 l4 l5 = true := by unfold shufOk; rw [k0, k1, k2, k3, k4, k5]; rfl
              have hres := HRES.out
              rw [show shufV a0 l1 l2 l3 l4 l5 = (shufMid a0 l1 l2 l4, shufOut a0 l1 l2 l3 l4 l5, shufLinks a0 l1 l2 l3 l4 l5, 0) from by unfold shufV; rw [if_pos hok]] at hres
              subst hres
              have HOK := Lib.hid hok
              clear hok k0 k1 k2 k3 k4 k5 HRES
              go_wp2_with fail
              obtain ⟨h0, h1, h2, h3, h4, h5⟩ := shuf_parts HOK.out
              have hn1 : 1 ≤ l1.length ∧ l1.length ≤ 64 := by simp only [ciphsB, Bool.and_eq_true, decide_eq_true_eq] at h1; omega
              have HN := Lib.hid hn1
              have HLE := Lib.hid (And.intro (order_spec h2).1 (And.intro (order_spec h3).1 (And.intro (exps_len h4) (exps_len h5))))
              have HSP := Lib.hid (And.intro h0 (And.intro h1 (And.intro h2 (And.intro h3 (And.intro h4 h5)))))
              obtain ⟨ai, rfl, -, -⟩ := read_ci HR.out.1 (Below.refl _ _) 0 (by omega) (by omega)
              obtain ⟨af, rfl, -⟩ := Kd.at_int HR.out.2.1 0 (by omega) (by have := HLE.out; omega)
              obtain ⟨ag, rfl, -⟩ := Kd.at_int HR.out.2.2.1 0 (by omega) (by have := HLE.out; omega)
              obtain ⟨ar, rfl, -⟩ := Kd.at_int HR.out.2.2.2.1 0 (by omega) (by have := HLE.out; omega)
              obtain ⟨as_, rfl, -⟩ := Kd.at_int HR.out.2.2.2.2 0 (by omega) (by have := HLE.out; omega)
              have hrc : ∀ (A : Addr) (l : List Int) (i : Int), Kd.C (Kd.int .i64) w (some A) l.length l → 0 ≤ i → i < l.length → ∀ W, Below w.heap.size w W → W.cell? (A.add i.toNat) = some (.int .i64 (rd l i)) := fun A l i hC h0 h1 W hW => by
                obtain ⟨ad, e, h2⟩ := Kd.at_int (Kd.C_below hC hW) i h0 h1
                cases e
                exact h2
              have HRC := Lib.hid hrc
              obtain ⟨hx8, hs8, hb8⟩ := Blk.box w7 28 [Value.slice none 0 0, Value.slice none 0 0, Value.slice none 0 0]
              rw [show (List.toArray [Value.slice none 0 0, Value.slice none 0 0, Value.slice none 0 0]) = #[Value.slice none 0 0, Value.slice none 0 0, Value.slice none 0 0] from rfl] at hx8 hs8 hb8
              generalize w7.alloc (Obj.cells #[Value.slice none 0 0, Value.slice none 0 0, Value.slice none 0 0] 28) = w8 at hx8 hs8 hb8 ⊢
              have hB0 : w.heap.size < w7.heap.size := HX7.out.lt
              have H8 := Lib.hid (And.intro (HB7.out.trans (Below.mono hb8 HB7.out.size)) (And.intro hx8 (And.intro hs8 (And.intro hB0 (HX7.out.below hb8 HX7.out.lt)))))
              obtain ⟨md, hmd⟩ : ∃ l, l = shufMid a0 l1 l2 l4 := ⟨_, rfl⟩
              have hml : md.length = l1.length := by rw [hmd]; exact mixL_len _ _ _ _
              have hmt : ∀ j, j < l1.length → md.take (j + 1) = md.take j ++ [mixAt a0 l1 l2 l4 j] := fun j hj => by
                rw [List.take_add_one, hmd]
                simp [shufMid, mixL, hj]
              have HMD := Lib.hid hmd
              have HML := Lib.hid hml
              have HMT := Lib.hid hmt
              clear hn1 h0 h1 h2 h3 h4 h5 hx8 hs8 hb8 hB0 hrc hmd hml hmt HX7 HB7
              have H8b := Lib.hid (And.intro H8.out.1 (And.intro H8.out.2.1 (show w.heap.size < w7.heap.size ∧ w7.heap.size < w8.heap.size by have := H8.out.2.2; omega)))
              have HSL1 := Lib.hid (show l1.length = l1.length from rfl)
              have HSR1 := Lib.hid (fun W (hW : Fs w w8 w7.heap.size W) => Kd.C_below HR.out.1 hW.b)
              go_wp2_with fail
              go_loopw [17] (fun i wr => ∃ (j : Nat) (u : Value), j ≤ l1.length ∧ i = .int .i64 j ∧ Hid (Fs w w8 w7.heap.size wr) ∧ Hid (Blk wr w7.heap.size 28 [u, Value.slice none 0 0, Value.slice none 0 0]) ∧ Hid (Kd.R k23 23 wr w8.heap.size (fun _ => True) u (md.take j))) (fun i _ => l1.length - (intOf i).toNat)
              case atStart => exact ⟨0, _, Nat.zero_le _, rfl, ⟨fun _ _ _ => rfl, H8b.out.1, Nat.le_refl _⟩, H8b.out.2.1, Kd.R_nil _ _ _ _ _⟩
              case round =>
                obtain ⟨j, u, hj, rfl, hfs, hbk, hlr⟩ := hrel
                by_cases hlt : j < l1.length
                · obtain ⟨Lj, hLj⟩ : ∃ L, L = md.take j := ⟨_, rfl⟩
                  rw [← hLj] at hlr
                  have hlj : Lj.length ≤ 64 := by rw [hLj, List.length_take]; have := HN.out; omega
                  have HLJ := Lib.hid hLj
                  obtain ⟨Au, cu, rfl, -, -⟩ := Kd.R_reads hlr.out
                  have q0 := order_rd HSP.out.2.2.1 hlt
                  have q1 := exps_rd HSP.out.2.2.2.2.1 hlt
                  have q2 := ciphs_rd HSP.out.2.1 q0.1 (by have := q0.2; have := HSL1.out; omega)
                  have HNW := Lib.hid (refanew_f (okN_of' HSP.out.1 q1 q2.1 q2.2) k (by have := HK.out; omega))
                  obtain ⟨i0, hi0⟩ : ∃ i, rd l2 (j : Int) = i := ⟨_, rfl⟩
                  rw [hi0] at q0 HNW
                  have j0 : (0 : Int) ≤ (j : Int) := by omega
                  have j1 : (j : Int) < (l1.length : Int) := by omega
                  have j2 : (j : Int) < (l2.length : Int) := by have := HLE.out; omega
                  have j4 : (j : Int) < (l4.length : Int) := by have := HLE.out; omega
                  obtain ⟨i00, i01⟩ := q0
                  have i02 : i0 < (l1.length : Int) := by have := HSL1.out; omega
                  have HI0 := Lib.hid hi0
                  clear hLj q1 q2
                  have hS : ∀ W, Held (fun W => Fs w w8 w7.heap.size W ∧ Blk W w7.heap.size 28 [Value.slice Au Lj.length cu, Value.slice none 0 0, Value.slice none 0 0]) W → W.cell? ⟨w7.heap.size, 0, none⟩ = some (.slice Au Lj.length cu) ∧ W.cell? (af.add j) = some (.int .i64 i0) ∧ W.cell? (ar.add j) = some (.int .i64 (rd l4 (j : Int))) ∧ W.cell? (ai.add (i0.toNat * 2)) = some (.int .i64 (rd_T23 l1 i0).f0) ∧ W.cell? ⟨(ai.add (i0.toNat * 2)).block, (ai.add (i0.toNat * 2)).off + 1, none⟩ = some (.int .i64 (rd_T23 l1 i0).f1) := fun W hW => by
                    have h2 := HRC.out af l2 (j : Int) HR.out.2.1 j0 j2 W hW.1.b
                    have h4 := HRC.out ar l4 (j : Int) HR.out.2.2.2.1 j0 j4 W hW.1.b
                    simp only [Int.toNat_natCast] at h2 h4
                    obtain ⟨ad, e, h5, h6⟩ := read_ci (HSR1.out W hW.1) (Below.refl _ _) i0 i00 i02
                    cases e
                    rw [HI0.out] at h2
                    exact ⟨hW.2.cell 0 _ rfl, h2, h4, h5, h6⟩
                  clear hi0
                  go_wp2_with fail
                  refine wp_region_auto (fun W => Fs w w8 w7.heap.size W ∧ Blk W w7.heap.size 28 [Value.slice Au Lj.length cu, Value.slice none 0 0, Value.slice none 0 0]) ((0, none, none) :: (0, none, none) :: (0, none, none) :: (0, none, none) :: (0, none, none) :: (0, none, none) :: (0, none, none) :: (0, none, none) :: (0, none, none) :: (0, none, none) :: (0, none, none) :: (0, none, none) :: (0, none, none) :: (0, none, none) :: (0, none, some true) :: (0, none, some true) :: (0, none, some true) :: (0, none, none) :: (0, none, some false) :: []) (by kernel_rfl) (by kernel_rfl) (fun _ _ d _ _ h => by cases d <;> exact h) ⟨hfs.out.below (below_drew (Below.refl wr.heap.size wr)) (Nat.le_refl _), hbk.out.drew⟩ ?_
                  repeat' (first
                    | (with_reducible apply rel_pass
                       focus (intro W hW; first | (go_simp; exact rfl) | go_simp)
                       simp only [Act.put, List.setIfInBounds_toArray, List.set_cons_zero, List.set_cons_succ])
                    | (with_reducible apply rel_yes
                       focus (exact rfl))
                    | (with_reducible apply rel_no
                       focus (exact rfl)
                       simp only [Act.put, List.setIfInBounds_toArray, List.set_cons_zero, List.set_cons_succ])
                    | (with_reducible apply rel_askF
                       focus (exact rfl)
                       all_goals (intro hb; simp only [hb, Act.put, List.setIfInBounds_toArray, List.set_cons_zero, List.set_cons_succ]))
                    | (with_reducible apply rel_askT
                       focus (exact rfl)
                       all_goals (intro hb; simp only [hb, Act.put, List.setIfInBounds_toArray, List.set_cons_zero, List.set_cons_succ]))
                    | (with_reducible apply rel_front1)
                    | (with_reducible apply rel_front2)
                    | (with_reducible apply rel_front3)
                    | (with_reducible apply rel_front4)
                    | (with_reducible apply rel_front5)
                    | (with_reducible apply rel_front6))
                  with_reducible apply rel_act
                  intro K hK
                  go_simp
                  refine (cohousingref40_anew.calls k a0 (rd_T23 l1 i0).f0 (rd_T23 l1 i0).f1 (rd l4 (j : Int)) _ _ wr.drew HNW.out).mono ?_
                  rintro e wc ⟨rfl, hbc⟩
                  have hbrc : Below wr.heap.size wr wc := (below_drew (Below.refl _ wr)).trans hbc
                  have HFC := Lib.hid (And.intro (hfs.out.below hbrc (Nat.le_refl _)) (And.intro (hbk.out.below hbrc hbk.out.lt) (Kd.R_below hlr.out hbrc)))
                  have HUB := Lib.hid (fun k (hk : (Value.slice Au Lj.length cu).ownBlock = some k) => (⟨Kd.R_base hlr.out k hk, Kd.R_lt hlr.out k hk⟩ : w8.heap.size ≤ k ∧ k < wr.heap.size))
                  clear hbc hbrc
                  refine hK _ _ ⟨fun _ => ⟨HFC.out.1, HFC.out.2.1⟩, ?_⟩
                  clear hK K
                  try simp only [Act.put, List.setIfInBounds_toArray, List.set_cons_zero, List.set_cons_succ]
                  repeat' (first
                    | (with_reducible apply rel_pass
                       focus (intro W hW; first | (go_simp; exact rfl) | go_simp)
                       simp only [Act.put, List.setIfInBounds_toArray, List.set_cons_zero, List.set_cons_succ])
                    | (with_reducible apply rel_yes
                       focus (exact rfl))
                    | (with_reducible apply rel_no
                       focus (exact rfl)
                       simp only [Act.put, List.setIfInBounds_toArray, List.set_cons_zero, List.set_cons_succ])
                    | (with_reducible apply rel_askF
                       focus (exact rfl)
                       all_goals (intro hb; simp only [hb, Act.put, List.setIfInBounds_toArray, List.set_cons_zero, List.set_cons_succ]))
                    | (with_reducible apply rel_askT
                       focus (exact rfl)
                       all_goals (intro hb; simp only [hb, Act.put, List.setIfInBounds_toArray, List.set_cons_zero, List.set_cons_succ]))
                    | (with_reducible apply rel_front1)
                    | (with_reducible apply rel_front2)
                    | (with_reducible apply rel_front3)
                    | (with_reducible apply rel_front4)
                    | (with_reducible apply rel_front5)
                    | (with_reducible apply rel_front6))
                  with_reducible apply rel_act
                  intro K hK
                  go_simp
                  refine hK _ _ ⟨fun _ => ⟨HFC.out.1.below ((Below.refl wc.heap.size wc).alloc (Nat.le_refl _) _) (Nat.le_refl _), HFC.out.2.1.alloc _⟩, ?_⟩
                  clear hK K
                  try simp only [Act.put, List.setIfInBounds_toArray, List.set_cons_zero, List.set_cons_succ]
                  repeat' (first
                    | (with_reducible apply rel_pass
                       focus (intro W hW; first | (go_simp; exact rfl) | go_simp)
                       simp only [Act.put, List.setIfInBounds_toArray, List.set_cons_zero, List.set_cons_succ])
                    | (with_reducible apply rel_yes
                       focus (exact rfl))
                    | (with_reducible apply rel_no
                       focus (exact rfl)
                       simp only [Act.put, List.setIfInBounds_toArray, List.set_cons_zero, List.set_cons_succ])
                    | (with_reducible apply rel_askF
                       focus (exact rfl)
                       all_goals (intro hb; simp only [hb, Act.put, List.setIfInBounds_toArray, List.set_cons_zero, List.set_cons_succ]))
                    | (with_reducible apply rel_askT
                       focus (exact rfl)
                       all_goals (intro hb; simp only [hb, Act.put, List.setIfInBounds_toArray, List.set_cons_zero, List.set_cons_succ]))
                    | (with_reducible apply rel_front1)
                    | (with_reducible apply rel_front2)
                    | (with_reducible apply rel_front3)
                    | (with_reducible apply rel_front4)
                    | (with_reducible apply rel_front5)
                    | (with_reducible apply rel_front6))
                  with_reducible apply rel_act
                  intro K hK
                  refine act_append k23 (w0 := wc) w8.heap.size rfl (.tmp 66) (.tmp 80) 24 23 (.agg #[(.int .i64 0), (.int .i64 0)]) 16 rfl Tryd.underlying24 info_c rfl (by decide) (by omega) _ Lj (⟨nA (rd_T23 l1 i0).f0 (rd l4 (j : Int)), nB a0 (rd_T23 l1 i0).f1 (rd l4 (j : Int))⟩ : S23) [.int .i64 (nA (rd_T23 l1 i0).f0 (rd l4 (j : Int))), .int .i64 (nB a0 (rd_T23 l1 i0).f1 (rd l4 (j : Int)))] (fun _ => True) (fun _ => False) rfl rfl (k23_mkM _ _ _ _) (fun _ hk => hk.elim) (fun _ _ => trivial) HFC.out.2.2 (Below.refl _ _) (HFC.out.1.s) (by omega) ?_
                  intro v6 w6 ho6 hb6 hg6 hat6
                  rw [show (⟨nA (rd_T23 l1 i0).f0 (rd l4 (j : Int)), nB a0 (rd_T23 l1 i0).f1 (rd l4 (j : Int))⟩ : S23) = mixAt a0 l1 l2 l4 j from by unfold mixAt; rw [HI0.out], HLJ.out, ← HMT.out j hlt] at ho6
                  obtain ⟨Lk, hLk⟩ : ∃ L, L = md.take (j + 1) := ⟨_, rfl⟩
                  rw [← hLk] at ho6
                  have HLK := Lib.hid hLk
                  obtain ⟨Av, cv, rfl, -, -⟩ := Kd.R_reads ho6
                  have hf6 := HFC.out.1.grown hg6 (fun k hk => (HUB.out k hk).1) (by have := H8b.out.2.2; omega)
                  have hy6 := HFC.out.2.1.grown hg6 (fun e => by have := (HUB.out _ e.symm).1; have := H8b.out.2.2; omega)
                  have n2 := hy6.frozen 0
                  have n3 := hy6.cell 0 _ rfl
                  have HO6 := Lib.hid (And.intro ho6 (And.intro hf6 hy6))
                  refine hK _ _ ⟨fun _ => ⟨hf6, hy6⟩, ?_⟩
                  clear ho6 hb6 hg6 hat6 hf6 hy6 hLk
                  clear hK K
                  try simp only [Act.put, List.setIfInBounds_toArray, List.set_cons_zero, List.set_cons_succ]
                  repeat' (first
                    | (with_reducible apply rel_pass
                       focus (intro W hW; first | (go_simp; exact rfl) | go_simp)
                       simp only [Act.put, List.setIfInBounds_toArray, List.set_cons_zero, List.set_cons_succ])
                    | (with_reducible apply rel_yes
                       focus (exact rfl))
                    | (with_reducible apply rel_no
                       focus (exact rfl)
                       simp only [Act.put, List.setIfInBounds_toArray, List.set_cons_zero, List.set_cons_succ])
                    | (with_reducible apply rel_askF
                       focus (exact rfl)
                       all_goals (intro hb; simp only [hb, Act.put, List.setIfInBounds_toArray, List.set_cons_zero, List.set_cons_succ]))
                    | (with_reducible apply rel_askT
                       focus (exact rfl)
                       all_goals (intro hb; simp only [hb, Act.put, List.setIfInBounds_toArray, List.set_cons_zero, List.set_cons_succ]))
                    | (with_reducible apply rel_front1)
                    | (with_reducible apply rel_front2)
                    | (with_reducible apply rel_front3)
                    | (with_reducible apply rel_front4)
                    | (with_reducible apply rel_front5)
                    | (with_reducible apply rel_front6))
                  with_reducible apply rel_act
                  intro K hK
                  go_simp
                  refine hK _ _ ⟨fun h => (by cases h), ?_⟩
                  clear hK K
                  try simp only [Act.put, List.setIfInBounds_toArray, List.set_cons_zero, List.set_cons_succ]
                  apply rel_nil
                  simp only [Exit.then, Exit.inBlock]
                  have HWJ := Lib.hid (show wrap64 ((j : Int) + 1) = ((j + 1 : Nat) : Int) by have := HN.out; unfold wrap64; omega)
                  clear hS n2 n3
                  go_wp2_with fail
                  refine ⟨⟨j + 1, _, by omega, by first | rw [HWJ.out] | rfl, HO6.out.2.1.set _ _ _ (Or.inl rfl) (by have := H8b.out.2.2; omega), HO6.out.2.2.set 0 _, ?_⟩, ?_⟩
                  · rw [← HLK.out]
                    exact Kd.R_mono (Kd.R_far (p := ⟨w7.heap.size, 0, none⟩) (Kd.R_mono (Kd.R_bound HO6.out.1) (fun k hk => (by have := hk.2.1; have := H8b.out.2.2; omega : k ≠ w7.heap.size))) (fun _ hk => hk) _) (fun _ _ => trivial)
                  try rw [HWJ.out]
                  simp only [intOf, Int.toNat_natCast]
                  omega
                · obtain rfl : j = l1.length := by omega
                  have hlr2 := hlr.out
                  rw [List.take_of_length_le (by have := HML.out; omega)] at hlr2
                  obtain ⟨Am, cm, rfl, -, -⟩ := Kd.R_reads hlr2
                  obtain ⟨am, rfl, -, -⟩ := read_ci (Kd.R_reads' hlr2).2.2 (Below.refl _ _) 0 (by omega) (by have := HML.out; have := HN.out; omega)
                  have hmm : Kd.R k23 23 wr w.heap.size (fun k => k ≠ w7.heap.size) (.slice (some am) md.length cm) md := Kd.R_lower (Kd.R_mono (Kd.R_bound hlr2) (fun k hk => (by have := hk.2.1; have := H8b.out.2.2; omega : k ≠ w7.heap.size))) (by have := H8b.out.2.2; omega)
                  have hfs2 := hfs.out
                  have hbk2 := hbk.out
                  have hxr : Blk wr w.heap.size 28 [Value.slice none 0 0, Value.slice none 0 0, Value.slice none 0 0] := (hfs2.k w.heap.size (by have := H8b.out.2.2; omega) (by have := H8b.out.2.2; omega)).trans H8.out.2.2.2.2
                  have hsz : w8.heap.size ≤ wr.heap.size := hfs2.s
                  clear hfs hbk hlr hlr2
                  generalize wr = w9 at hmm hfs2 hbk2 hxr hsz ⊢
                  have HMM := Lib.hid hmm
                  have HX9 := Lib.hid hxr
                  have H9b := Lib.hid (And.intro hfs2.b (And.intro hbk2 (show w.heap.size < w7.heap.size ∧ w7.heap.size < w9.heap.size by have := H8b.out.2.2; omega)))
                  obtain ⟨ot, hot⟩ : ∃ l, l = shufOut a0 l1 l2 l3 l4 l5 := ⟨_, rfl⟩
                  have hol : ot.length = l1.length := by rw [hot]; exact (mixL_len _ _ _ _).trans (mixL_len _ _ _ _)
                  have hott : ∀ j, j < l1.length → ot.take (j + 1) = ot.take j ++ [mixAt a0 md l3 l5 j] := fun j hj => by
                    have e : ot = (List.range l1.length).map (mixAt a0 md l3 l5) := by
                      rw [hot, HMD.out]
                      unfold shufOut shufMid
                      rw [mixL, mixL_len]
                    rw [List.take_add_one, e]
                    simp [hj]
                  have HOT := Lib.hid hott
                  have HOL := Lib.hid hol
                  have HOD := Lib.hid hot
                  have HMC := Lib.hid (show ciphsB md = true by rw [HMD.out]; exact mixL_ciphs a0 l1 l2 l4 HSP.out.1 HSP.out.2.1 HSP.out.2.2.1 HSP.out.2.2.2.2.1)
                  have HSR2 := Lib.hid (fun W (hW : Fs w w9 w7.heap.size W) => (Kd.R_reads' (hW.R HMM.out)).2.2)
                  clear hmm hfs2 hbk2 hxr hsz hot hol hott
                  go_wp2_with fail
                  go_loopw [18] (fun i wr => ∃ (j : Nat) (u : Value), j ≤ l1.length ∧ i = .int .i64 j ∧ Hid (Fs w w9 w7.heap.size wr) ∧ Hid (Blk wr w7.heap.size 28 [Value.slice (some am) md.length cm, u, Value.slice none 0 0]) ∧ Hid (Kd.R k23 23 wr w9.heap.size (fun _ => True) u (ot.take j))) (fun i _ => l1.length - (intOf i).toNat)
                  case atStart => exact ⟨0, _, Nat.zero_le _, rfl, ⟨fun _ _ _ => rfl, H9b.out.1, Nat.le_refl _⟩, H9b.out.2.1, Kd.R_nil _ _ _ _ _⟩
                  case round =>
                    obtain ⟨j, u, hj, rfl, hfs, hbk, hlr⟩ := hrel
                    by_cases hlt : j < l1.length
                    · obtain ⟨Lj, hLj⟩ : ∃ L, L = ot.take j := ⟨_, rfl⟩
                      rw [← hLj] at hlr
                      have hlj : Lj.length ≤ 64 := by rw [hLj, List.length_take]; have := HN.out; omega
                      have HLJ := Lib.hid hLj
                      obtain ⟨Au, cu, rfl, -, -⟩ := Kd.R_reads hlr.out
                      have q0 := order_rd HSP.out.2.2.2.1 hlt
                      have q1 := exps_rd HSP.out.2.2.2.2.2 hlt
                      have q2 := ciphs_rd HMC.out q0.1 (by have := q0.2; have := HML.out; omega)
                      have HNW := Lib.hid (refanew_f (okN_of' HSP.out.1 q1 q2.1 q2.2) k (by have := HK.out; omega))
                      obtain ⟨i0, hi0⟩ : ∃ i, rd l3 (j : Int) = i := ⟨_, rfl⟩
                      rw [hi0] at q0 HNW
                      have j0 : (0 : Int) ≤ (j : Int) := by omega
                      have j1 : (j : Int) < (l1.length : Int) := by omega
                      have j2 : (j : Int) < (l3.length : Int) := by have := HLE.out; omega
                      have j4 : (j : Int) < (l5.length : Int) := by have := HLE.out; omega
                      obtain ⟨i00, i01⟩ := q0
                      have i02 : i0 < (md.length : Int) := by have := HML.out; omega
                      have HI0 := Lib.hid hi0
                      clear hLj q1 q2
                      have hS : ∀ W, Held (fun W => Fs w w9 w7.heap.size W ∧ Blk W w7.heap.size 28 [Value.slice (some am) md.length cm, Value.slice Au Lj.length cu, Value.slice none 0 0]) W → W.cell? ⟨w7.heap.size, 1, none⟩ = some (.slice Au Lj.length cu) ∧ W.cell? ⟨w7.heap.size, 0, none⟩ = some (.slice (some am) md.length cm) ∧ W.cell? (ag.add j) = some (.int .i64 i0) ∧ W.cell? (as_.add j) = some (.int .i64 (rd l5 (j : Int))) ∧ W.cell? (am.add (i0.toNat * 2)) = some (.int .i64 (rd_T23 md i0).f0) ∧ W.cell? ⟨(am.add (i0.toNat * 2)).block, (am.add (i0.toNat * 2)).off + 1, none⟩ = some (.int .i64 (rd_T23 md i0).f1) := fun W hW => by
                        have h2 := HRC.out ag l3 (j : Int) HR.out.2.2.1 j0 j2 W hW.1.b
                        have h4 := HRC.out as_ l5 (j : Int) HR.out.2.2.2.2 j0 j4 W hW.1.b
                        simp only [Int.toNat_natCast] at h2 h4
                        obtain ⟨ad, e, h5, h6⟩ := read_ci (HSR2.out W hW.1) (Below.refl _ _) i0 i00 i02
                        cases e
                        rw [HI0.out] at h2
                        exact ⟨hW.2.cell 1 _ rfl, hW.2.cell 0 _ rfl, h2, h4, h5, h6⟩
                      clear hi0
                      go_wp2_with fail
                      refine wp_region_auto (fun W => Fs w w9 w7.heap.size W ∧ Blk W w7.heap.size 28 [Value.slice (some am) md.length cm, Value.slice Au Lj.length cu, Value.slice none 0 0]) ((0, none, none) :: (0, none, none) :: (0, none, none) :: (0, none, none) :: (0, none, none) :: (0, none, none) :: (0, none, none) :: (0, none, none) :: (0, none, none) :: (0, none, none) :: (0, none, none) :: (0, none, none) :: (0, none, none) :: (0, none, none) :: (0, none, none) :: (0, none, some true) :: (0, none, some true) :: (0, none, some true) :: (0, none, none) :: (0, none, some false) :: []) (by kernel_rfl) (by kernel_rfl) (fun _ _ d _ _ h => by cases d <;> exact h) ⟨hfs.out.below (below_drew (Below.refl wr.heap.size wr)) (Nat.le_refl _), hbk.out.drew⟩ ?_
                      repeat' (first
                        | (with_reducible apply rel_pass
                           focus (intro W hW; first | (go_simp; exact rfl) | go_simp)
                           simp only [Act.put, List.setIfInBounds_toArray, List.set_cons_zero, List.set_cons_succ])
                        | (with_reducible apply rel_yes
                           focus (exact rfl))
                        | (with_reducible apply rel_no
                           focus (exact rfl)
                           simp only [Act.put, List.setIfInBounds_toArray, List.set_cons_zero, List.set_cons_succ])
                        | (with_reducible apply rel_askF
                           focus (exact rfl)
                           all_goals (intro hb; simp only [hb, Act.put, List.setIfInBounds_toArray, List.set_cons_zero, List.set_cons_succ]))
                        | (with_reducible apply rel_askT
                           focus (exact rfl)
                           all_goals (intro hb; simp only [hb, Act.put, List.setIfInBounds_toArray, List.set_cons_zero, List.set_cons_succ]))
                        | (with_reducible apply rel_front1)
                        | (with_reducible apply rel_front2)
                        | (with_reducible apply rel_front3)
                        | (with_reducible apply rel_front4)
                        | (with_reducible apply rel_front5)
                        | (with_reducible apply rel_front6))
                      with_reducible apply rel_act
                      intro K hK
                      go_simp
                      refine (cohousingref40_anew.calls k a0 (rd_T23 md i0).f0 (rd_T23 md i0).f1 (rd l5 (j : Int)) _ _ wr.drew HNW.out).mono ?_
                      rintro e wc ⟨rfl, hbc⟩
                      have hbrc : Below wr.heap.size wr wc := (below_drew (Below.refl _ wr)).trans hbc
                      have HFC := Lib.hid (And.intro (hfs.out.below hbrc (Nat.le_refl _)) (And.intro (hbk.out.below hbrc hbk.out.lt) (Kd.R_below hlr.out hbrc)))
                      have HUB := Lib.hid (fun k (hk : (Value.slice Au Lj.length cu).ownBlock = some k) => (⟨Kd.R_base hlr.out k hk, Kd.R_lt hlr.out k hk⟩ : w9.heap.size ≤ k ∧ k < wr.heap.size))
                      clear hbc hbrc
                      refine hK _ _ ⟨fun _ => ⟨HFC.out.1, HFC.out.2.1⟩, ?_⟩
                      clear hK K
                      try simp only [Act.put, List.setIfInBounds_toArray, List.set_cons_zero, List.set_cons_succ]
                      repeat' (first
                        | (with_reducible apply rel_pass
                           focus (intro W hW; first | (go_simp; exact rfl) | go_simp)
                           simp only [Act.put, List.setIfInBounds_toArray, List.set_cons_zero, List.set_cons_succ])
                        | (with_reducible apply rel_yes
                           focus (exact rfl))
                        | (with_reducible apply rel_no
                           focus (exact rfl)
                           simp only [Act.put, List.setIfInBounds_toArray, List.set_cons_zero, List.set_cons_succ])
                        | (with_reducible apply rel_askF
                           focus (exact rfl)
                           all_goals (intro hb; simp only [hb, Act.put, List.setIfInBounds_toArray, List.set_cons_zero, List.set_cons_succ]))
                        | (with_reducible apply rel_askT
                           focus (exact rfl)
                           all_goals (intro hb; simp only [hb, Act.put, List.setIfInBounds_toArray, List.set_cons_zero, List.set_cons_succ]))
                        | (with_reducible apply rel_front1)
                        | (with_reducible apply rel_front2)
                        | (with_reducible apply rel_front3)
                        | (with_reducible apply rel_front4)
                        | (with_reducible apply rel_front5)
                        | (with_reducible apply rel_front6))
                      with_reducible apply rel_act
                      intro K hK
                      go_simp
                      refine hK _ _ ⟨fun _ => ⟨HFC.out.1.below ((Below.refl wc.heap.size wc).alloc (Nat.le_refl _) _) (Nat.le_refl _), HFC.out.2.1.alloc _⟩, ?_⟩
                      clear hK K
                      try simp only [Act.put, List.setIfInBounds_toArray, List.set_cons_zero, List.set_cons_succ]
                      repeat' (first
                        | (with_reducible apply rel_pass
                           focus (intro W hW; first | (go_simp; exact rfl) | go_simp)
                           simp only [Act.put, List.setIfInBounds_toArray, List.set_cons_zero, List.set_cons_succ])
                        | (with_reducible apply rel_yes
                           focus (exact rfl))
                        | (with_reducible apply rel_no
                           focus (exact rfl)
                           simp only [Act.put, List.setIfInBounds_toArray, List.set_cons_zero, List.set_cons_succ])
                        | (with_reducible apply rel_askF
                           focus (exact rfl)
                           all_goals (intro hb; simp only [hb, Act.put, List.setIfInBounds_toArray, List.set_cons_zero, List.set_cons_succ]))
                        | (with_reducible apply rel_askT
                           focus (exact rfl)
                           all_goals (intro hb; simp only [hb, Act.put, List.setIfInBounds_toArray, List.set_cons_zero, List.set_cons_succ]))
                        | (with_reducible apply rel_front1)
                        | (with_reducible apply rel_front2)
                        | (with_reducible apply rel_front3)
                        | (with_reducible apply rel_front4)
                        | (with_reducible apply rel_front5)
                        | (with_reducible apply rel_front6))
                      with_reducible apply rel_act
                      intro K hK
                      refine act_append k23 (w0 := wc) w9.heap.size rfl (.tmp 89) (.tmp 104) 24 23 (.agg #[(.int .i64 0), (.int .i64 0)]) 16 rfl Tryd.underlying24 info_c rfl (by decide) (by omega) _ Lj (⟨nA (rd_T23 md i0).f0 (rd l5 (j : Int)), nB a0 (rd_T23 md i0).f1 (rd l5 (j : Int))⟩ : S23) [.int .i64 (nA (rd_T23 md i0).f0 (rd l5 (j : Int))), .int .i64 (nB a0 (rd_T23 md i0).f1 (rd l5 (j : Int)))] (fun _ => True) (fun _ => False) rfl rfl (k23_mkM _ _ _ _) (fun _ hk => hk.elim) (fun _ _ => trivial) HFC.out.2.2 (Below.refl _ _) (HFC.out.1.s) (by omega) ?_
                      intro v6 w6 ho6 hb6 hg6 hat6
                      rw [show (⟨nA (rd_T23 md i0).f0 (rd l5 (j : Int)), nB a0 (rd_T23 md i0).f1 (rd l5 (j : Int))⟩ : S23) = mixAt a0 md l3 l5 j from by unfold mixAt; rw [HI0.out], HLJ.out, ← HOT.out j hlt] at ho6
                      obtain ⟨Lk, hLk⟩ : ∃ L, L = ot.take (j + 1) := ⟨_, rfl⟩
                      rw [← hLk] at ho6
                      have HLK := Lib.hid hLk
                      obtain ⟨Av, cv, rfl, -, -⟩ := Kd.R_reads ho6
                      have hf6 := HFC.out.1.grown hg6 (fun k hk => (HUB.out k hk).1) (by have := H9b.out.2.2; omega)
                      have hy6 := HFC.out.2.1.grown hg6 (fun e => by have := (HUB.out _ e.symm).1; have := H9b.out.2.2; omega)
                      have n2 := hy6.frozen 1
                      have n3 := hy6.cell 1 _ rfl
                      have HO6 := Lib.hid (And.intro ho6 (And.intro hf6 hy6))
                      refine hK _ _ ⟨fun _ => ⟨hf6, hy6⟩, ?_⟩
                      clear ho6 hb6 hg6 hat6 hf6 hy6 hLk
                      clear hK K
                      try simp only [Act.put, List.setIfInBounds_toArray, List.set_cons_zero, List.set_cons_succ]
                      repeat' (first
                        | (with_reducible apply rel_pass
                           focus (intro W hW; first | (go_simp; exact rfl) | go_simp)
                           simp only [Act.put, List.setIfInBounds_toArray, List.set_cons_zero, List.set_cons_succ])
                        | (with_reducible apply rel_yes
                           focus (exact rfl))
                        | (with_reducible apply rel_no
                           focus (exact rfl)
                           simp only [Act.put, List.setIfInBounds_toArray, List.set_cons_zero, List.set_cons_succ])
                        | (with_reducible apply rel_askF
                           focus (exact rfl)
                           all_goals (intro hb; simp only [hb, Act.put, List.setIfInBounds_toArray, List.set_cons_zero, List.set_cons_succ]))
                        | (with_reducible apply rel_askT
                           focus (exact rfl)
                           all_goals (intro hb; simp only [hb, Act.put, List.setIfInBounds_toArray, List.set_cons_zero, List.set_cons_succ]))
                        | (with_reducible apply rel_front1)
                        | (with_reducible apply rel_front2)
                        | (with_reducible apply rel_front3)
                        | (with_reducible apply rel_front4)
                        | (with_reducible apply rel_front5)
                        | (with_reducible apply rel_front6))
                      with_reducible apply rel_act
                      intro K hK
                      go_simp
                      refine hK _ _ ⟨fun h => (by cases h), ?_⟩
                      clear hK K
                      try simp only [Act.put, List.setIfInBounds_toArray, List.set_cons_zero, List.set_cons_succ]
                      apply rel_nil
                      simp only [Exit.then, Exit.inBlock]
                      have HWJ := Lib.hid (show wrap64 ((j : Int) + 1) = ((j + 1 : Nat) : Int) by have := HN.out; unfold wrap64; omega)
                      clear hS n2 n3
                      go_wp2_with fail
                      refine ⟨⟨j + 1, _, by omega, by first | rw [HWJ.out] | rfl, HO6.out.2.1.set _ _ _ (Or.inl rfl) (by have := H9b.out.2.2; omega), HO6.out.2.2.set 1 _, ?_⟩, ?_⟩
                      · rw [← HLK.out]
                        exact Kd.R_mono (Kd.R_far (p := ⟨w7.heap.size, 1, none⟩) (Kd.R_mono (Kd.R_bound HO6.out.1) (fun k hk => (by have := hk.2.1; have := H9b.out.2.2; omega : k ≠ w7.heap.size))) (fun _ hk => hk) _) (fun _ _ => trivial)
                      try rw [HWJ.out]
                      simp only [intOf, Int.toNat_natCast]
                      omega
                    · obtain rfl : j = l1.length := by omega
                      have hlr2 := hlr.out
                      rw [List.take_of_length_le (by have := HOL.out; omega)] at hlr2
                      obtain ⟨Ao, co, rfl, -, -⟩ := Kd.R_reads hlr2
                      have hoo : Kd.R k23 23 wr w.heap.size (fun k => k ≠ w7.heap.size) (.slice Ao ot.length co) ot := Kd.R_lower (Kd.R_mono (Kd.R_bound hlr2) (fun k hk => (by have := hk.2.1; have := H9b.out.2.2; omega : k ≠ w7.heap.size))) (by have := H9b.out.2.2; omega)
                      have hfs2 := hfs.out
                      have hmm2 : Kd.R k23 23 wr w.heap.size (fun k => k ≠ w7.heap.size) (.slice (some am) md.length cm) md := Kd.R_step HMM.out (fun k hk hlt => hfs2.k k hlt hk)
                      have hbk2 := hbk.out
                      have hxr : Blk wr w.heap.size 28 [Value.slice none 0 0, Value.slice none 0 0, Value.slice none 0 0] := (hfs2.k w.heap.size (by have := H9b.out.2.2; omega) (by have := H9b.out.2.2; omega)).trans HX9.out
                      have hsz : w9.heap.size ≤ wr.heap.size := hfs2.s
                      clear hfs hbk hlr hlr2
                      generalize wr = w11 at hoo hmm2 hfs2 hbk2 hxr hsz ⊢
                      have e0 := hbk2.cell 0 _ rfl
                      have e1 := hbk2.cell 1 _ rfl
                      have H11 := Lib.hid (And.intro hfs2.b (And.intro hbk2 (And.intro hoo (And.intro hmm2 (And.intro hxr (show w.heap.size < w7.heap.size ∧ w7.heap.size < w11.heap.size by have := H9b.out.2.2; omega))))))
                      clear hoo hmm2 hfs2 hbk2 hxr hsz
                      go_wp2_with fail
                      obtain ⟨hask, hbl⟩ := shuf_ask HOK.out
                      rw [← HMD.out, ← HOD.out] at hask
                      refine (cohousingref40_Asked.calls k (some ai) c1 l1 (some am) cm md Ao co ot (shufBits a0 l1 l2 l3 l4 l5) 0 w11 (Kd.C_below HR.out.1 H11.out.1) HC.out.1 (Kd.R_reads' H11.out.2.2.2.1).2.2 (Kd.R_reads' H11.out.2.2.2.1).2.1 (Kd.R_reads' H11.out.2.2.1).2.2 (Kd.R_reads' H11.out.2.2.1).2.1 (by rw [refAsked_f l1 md ot (by have := HN.out; omega) (by have := HN.out; have := HML.out; omega) (by have := HN.out; have := HOL.out; omega) k (by have := HN.out; have := HML.out; have := HOL.out; have := HK.out; omega), hask])).mono ?_
                      rintro e w12 ⟨vb, rfl, ho12, hb12⟩
                      obtain ⟨g, cap, rfl, hg1, hg2, cells, hg3⟩ := Kd.R_form ho12 (by rw [hbl]; have := HN.out; omega)
                      have hz12 : w7.heap.size < w12.heap.size := by have := H11.out.2.2.2.2.2; have := hb12.size; omega
                      have hf12 : Fs w w12 w7.heap.size w12 := ⟨fun _ _ _ => rfl, H11.out.1.trans (Below.mono hb12 H11.out.1.size), Nat.le_refl _⟩
                      have hm12 := Kd.R_below H11.out.2.2.2.1 hb12
                      have ho12' := Kd.R_below H11.out.2.2.1 hb12
                      have hy12 := H11.out.2.1.below hb12 H11.out.2.1.lt
                      have hcell : ∀ j : Nat, j < l1.length → ∀ W, Fs w w12 w7.heap.size W → W.cell? ⟨g, j, none⟩ = some (.bool (rdOf false (shufBits a0 l1 l2 l3 l4 l5) (j : Int))) := fun j hj W hW => by
                        have h0 := (Kd.R_celln false ho12 (j : Int) (by omega) (by rw [hbl]; omega)).1
                        rw [Int.toNat_natCast] at h0
                        have h1 := hW.k g hg2 (by have := H11.out.2.2.2.2.2; omega)
                        have e : W.cell? ⟨g, j, none⟩ = w12.cell? ⟨g, j, none⟩ := by simp [World.cell?, h1]
                        exact e.trans h0
                      have HCELL := Lib.hid hcell
                      have H12 := Lib.hid (And.intro hf12 (And.intro hm12 (And.intro ho12' (And.intro hy12 hz12))))
                      have HX12 := Lib.hid (H11.out.2.2.2.2.1.below hb12 H11.out.2.2.2.2.1.lt)
                      have hlk : ∀ j, j < l1.length → (shufLinks a0 l1 l2 l3 l4 l5).take (j + 1) = (shufLinks a0 l1 l2 l3 l4 l5).take j ++ [linkAt l2 l3 l4 l5 (shufBits a0 l1 l2 l3 l4 l5) j] := fun j hj => by
                        rw [List.take_add_one]
                        simp [shufLinks, hj]
                      have HLK := Lib.hid hlk
                      have hll : (shufLinks a0 l1 l2 l3 l4 l5).length = l1.length := by simp [shufLinks]
                      have HLL := Lib.hid hll
                      have HS8 := Lib.hid H11.out.2.2.2.2.2
                      rw [hbl]
                      clear hm12 hf12 ho12' ho12 hg1 hg2 cells hg3 hb12 hy12 hask hcell hz12 hlk hll hbl e0 e1
                      go_wp2_with fail
                      go_loopw [21] (fun i wr => ∃ (j : Nat) (u : Value), j ≤ l1.length ∧ i = .int .i64 j ∧ Hid (Fs w w12 w7.heap.size wr) ∧ Hid (Blk wr w7.heap.size 28 [Value.slice (some am) md.length cm, Value.slice Ao ot.length co, u]) ∧ Hid (Kd.R k53 53 wr w12.heap.size (fun _ => True) u ((shufLinks a0 l1 l2 l3 l4 l5).take j))) (fun i _ => l1.length - (intOf i).toNat)
                      case atStart => exact ⟨0, _, Nat.zero_le _, rfl, H12.out.1, H12.out.2.2.2.1, Kd.R_nil _ _ _ _ _⟩
                      case round =>
                        obtain ⟨j, u, hj, rfl, hfs, hbk, hlr⟩ := hrel
                        by_cases hlt : j < l1.length
                        · skip
                          have j0 : (0 : Int) ≤ (j : Int) := by omega
                          have j1 : (j : Int) < (l1.length : Int) := by omega
                          have j2 : (j : Int) < (l2.length : Int) := by have := HLE.out; omega
                          have j4 : (j : Int) < (l4.length : Int) := by have := HLE.out; omega
                          have q2 := fun W (hW : Held (Below w.heap.size w) W) => HRC.out af l2 (j : Int) HR.out.2.1 j0 j2 W hW
                          have q4 := fun W (hW : Held (Below w.heap.size w) W) => HRC.out ar l4 (j : Int) HR.out.2.2.2.1 j0 j4 W hW
                          simp only [Int.toNat_natCast] at q2 q4
                          have hF : ∀ f, Fence.wide.fn f := fun _ => trivial
                          go_wp2_with fail
                          refine (wpIn_wide (n := 3)).1 ?_
                          refine wpIn_region_auto (Below w.heap.size w) ((0, none, none) :: (0, none, none) :: (0, none, none) :: (0, none, none) :: (0, none, none) :: (0, none, none) :: (0, none, none) :: (0, none, none) :: (0, none, none) :: (0, none, none) :: (0, none, some true) :: (0, none, some false) :: []) hF (by kernel_rfl) (by kernel_rfl) (fun _ _ d _ _ h => by cases d <;> exact h) (hfs.out.b.drew) ?_
                          repeat' (first
                            | (with_reducible apply relI_pass
                               focus (intro W hW; first | (go_simp; exact rfl) | go_simp)
                               simp only [Act.put, List.setIfInBounds_toArray, List.set_cons_zero, List.set_cons_succ])
                            | (with_reducible apply relI_yes
                               focus (exact rfl))
                            | (with_reducible apply relI_no
                               focus (exact rfl)
                               simp only [Act.put, List.setIfInBounds_toArray, List.set_cons_zero, List.set_cons_succ])
                            | (with_reducible apply relI_askF
                               focus (exact rfl)
                               all_goals (intro hb; simp only [hb, Act.put, List.setIfInBounds_toArray, List.set_cons_zero, List.set_cons_succ]))
                            | (with_reducible apply relI_askT
                               focus (exact rfl)
                               all_goals (intro hb; simp only [hb, Act.put, List.setIfInBounds_toArray, List.set_cons_zero, List.set_cons_succ]))
                            | (with_reducible apply relI_front1)
                            | (with_reducible apply relI_front2)
                            | (with_reducible apply relI_front3)
                            | (with_reducible apply relI_front4)
                            | (with_reducible apply relI_front5)
                            | (with_reducible apply relI_front6))
                          apply relI_act hF rfl
                          intro K hK
                          go_simp
                          refine hK _ _ ⟨fun _ => (hfs.out.b.alloc hfs.out.b.size _).drew, ?_⟩
                          clear hK K
                          try simp only [Act.put, List.setIfInBounds_toArray, List.set_cons_zero, List.set_cons_succ]
                          repeat' (first
                            | (with_reducible apply relI_pass
                               focus (intro W hW; first | (go_simp; exact rfl) | go_simp)
                               simp only [Act.put, List.setIfInBounds_toArray, List.set_cons_zero, List.set_cons_succ])
                            | (with_reducible apply relI_yes
                               focus (exact rfl))
                            | (with_reducible apply relI_no
                               focus (exact rfl)
                               simp only [Act.put, List.setIfInBounds_toArray, List.set_cons_zero, List.set_cons_succ])
                            | (with_reducible apply relI_askF
                               focus (exact rfl)
                               all_goals (intro hb; simp only [hb, Act.put, List.setIfInBounds_toArray, List.set_cons_zero, List.set_cons_succ]))
                            | (with_reducible apply relI_askT
                               focus (exact rfl)
                               all_goals (intro hb; simp only [hb, Act.put, List.setIfInBounds_toArray, List.set_cons_zero, List.set_cons_succ]))
                            | (with_reducible apply relI_front1)
                            | (with_reducible apply relI_front2)
                            | (with_reducible apply relI_front3)
                            | (with_reducible apply relI_front4)
                            | (with_reducible apply relI_front5)
                            | (with_reducible apply relI_front6))
                          apply relI_act hF rfl
                          intro K hK
                          go_simp
                          refine hK _ _ ⟨fun h => (by cases h), ?_⟩
                          clear hK K
                          try simp only [Act.put, List.setIfInBounds_toArray, List.set_cons_zero, List.set_cons_succ]
                          apply relI_nil
                          simp only [Exit.then, Exit.inBlock]
                          have hxa := (Blk.new wr 53 [Value.int IntKind.i64 (rd l2 (j : Int)), Value.int IntKind.i64 (j : Int), Value.int IntKind.i64 (rd l4 (j : Int))]).drew
                          rw [show (List.toArray [Value.int IntKind.i64 (rd l2 (j : Int)), Value.int IntKind.i64 (j : Int), Value.int IntKind.i64 (rd l4 (j : Int))]) = #[Value.int IntKind.i64 (rd l2 (j : Int)), Value.int IntKind.i64 (j : Int), Value.int IntKind.i64 (rd l4 (j : Int))] from rfl] at hxa
                          have hba : Below wr.heap.size wr ((wr.alloc (Obj.cells #[Value.int IntKind.i64 (rd l2 (j : Int)), Value.int IntKind.i64 (j : Int), Value.int IntKind.i64 (rd l4 (j : Int))] 53)).drew) := ((Below.refl _ wr).alloc (Nat.le_refl _) _).drew
                          have hsa : ((wr.alloc (Obj.cells #[Value.int IntKind.i64 (rd l2 (j : Int)), Value.int IntKind.i64 (j : Int), Value.int IntKind.i64 (rd l4 (j : Int))] 53)).drew).heap.size = wr.heap.size + 1 := World.size_alloc _ _
                          generalize (wr.alloc (Obj.cells #[Value.int IntKind.i64 (rd l2 (j : Int)), Value.int IntKind.i64 (j : Int), Value.int IntKind.i64 (rd l4 (j : Int))] 53)).drew = wa at hxa hba hsa ⊢
                          have HA := Lib.hid (And.intro (hfs.out.below hba (Nat.le_refl _)) (And.intro (hbk.out.below hba hbk.out.lt) (And.intro hxa hsa)))
                          have HWR := Lib.hid (And.intro hfs.out.s hbk.out.lt)
                          have HRU := Lib.hid (Kd.R_below (Kd.R_mono (ok' := fun k => k ≠ wr.heap.size) (Kd.R_bound hlr.out) (fun k hk => Nat.ne_of_lt hk.2.2.1)) hba)
                          have HUB := Lib.hid (fun k (hk : u.ownBlock = some k) => (⟨Kd.R_base hlr.out k hk, Kd.R_lt hlr.out k hk⟩ : w12.heap.size ≤ k ∧ k < wr.heap.size))
                          clear hxa hba hsa q2 q4 hfs hbk hlr
                          obtain ⟨bit, hbit⟩ : ∃ b, rdOf false (shufBits a0 l1 l2 l3 l4 l5) (j : Int) = b := ⟨_, rfl⟩
                          have hca := HCELL.out j hlt wa HA.out.1
                          rw [hbit] at hca
                          have HBIT := Lib.hid hbit
                          clear hbit
                          cases bit with
                          | false =>
                            have e0 := HA.out.2.2.1.cell 0 _ rfl
                            have e1 := HA.out.2.2.1.cell 1 _ rfl
                            have e2 := HA.out.2.2.1.cell 2 _ rfl
                            have m2 := HA.out.2.1.cell 2 _ rfl
                            have m3 := HA.out.2.1.frozen 2
                            go_wp2_with ((with_reducible refine gate_builtin (b := .append) (xs := #[.tmp 146, .tmp 148]) rfl ?_); at_builtin; refine Stop.out ?_)
                            refine ⟨?_⟩
                            refine Kd.R_append_rows k53 (w0 := wa.alloc (Obj.cells #[Value.int IntKind.i64 (rd l2 (j : Int)), Value.int IntKind.i64 ((j : Int)), Value.int IntKind.i64 (rd l4 (j : Int))] 53)) w12.heap.size rfl (.tmp 146) (.tmp 148) 26 53 (.agg #[(.int .i64 0), (.int .i64 0), (.int .i64 0)]) 24 rfl Tryd.underlying26 info_l rfl (by decide) (by omega) u ((shufLinks a0 l1 l2 l3 l4 l5).take j) [(⟨rd l2 (j : Int), (j : Int), rd l4 (j : Int)⟩ : S53)] _ _ _ (fun _ => True) (fun _ => False) rfl rfl ?aO ?aR (fun _ _ h => h) (fun _ h => h.elim) (fun _ _ => trivial) ?aB ?aS ?aL ?_
                            case aO => exact Kd.R_alloc (Kd.R_mono (ok' := fun _ => True) HRU.out (fun _ _ => trivial)) _
                            case aR =>
                              have hp := C_parts (d := k53) wa [(⟨rd l2 (j : Int), (j : Int), rd l4 (j : Int)⟩ : S53)] [[.int .i64 (rd l2 (j : Int)), .int .i64 ((j : Int)), .int .i64 (rd l4 (j : Int))]] 53 (by simp) ⟨k53_mk _ _, trivial⟩
                              exact hp
                            case aB => exact Below.refl _ _
                            case aS => rw [World.size_alloc]; have := HA.out.1.s; omega
                            case aL => have := HN.out; rw [List.length_take]; omega
                            intro v6 w6 ho6 hb6 hg6 hat6
                            rw [show (⟨rd l2 (j : Int), (j : Int), rd l4 (j : Int)⟩ : S53) = linkAt l2 l3 l4 l5 (shufBits a0 l1 l2 l3 l4 l5) j from by unfold linkAt; rw [HBIT.out]; first | rfl | (rw [HQQ.out]; rfl), ← HLK.out j hlt] at ho6
                            obtain ⟨Lj, hLj⟩ : ∃ L, L = (shufLinks a0 l1 l2 l3 l4 l5).take (j + 1) := ⟨_, rfl⟩
                            rw [← hLj] at ho6
                            have HLJ := Lib.hid hLj
                            clear hLj
                            obtain ⟨Av, cv, hv6, -, -⟩ := Kd.R_reads ho6
                            have hf6 : Fs w w12 w7.heap.size w6 := (HA.out.1.below ((Below.refl wa.heap.size wa).alloc (Nat.le_refl _) _) (Nat.le_refl _)).grown hg6 (fun k hk => (HUB.out k hk).1) (by have := H12.out.2.2.2.2; have := HS8.out; omega)
                            have hy6 := (HA.out.2.1.alloc (Obj.cells #[Value.int IntKind.i64 (rd l2 (j : Int)), Value.int IntKind.i64 ((j : Int)), Value.int IntKind.i64 (rd l4 (j : Int))] 53)).grown hg6 (fun e => by have := HUB.out w7.heap.size e.symm; have := H12.out.2.2.2.2; omega)
                            have n2 := hy6.frozen 2
                            have n3 := hy6.cell 2 _ rfl
                            subst hv6
                            have HO6 := Lib.hid (And.intro ho6 (And.intro hf6 hy6))
                            clear ho6 hb6 hg6 hat6 hf6 hy6 e0 e1 e2 m2 m3
                            go_wp2_with fail
                            have HWJ := Lib.hid (show wrap64 ((j : Int) + 1) = ((j + 1 : Nat) : Int) by have := HN.out; unfold wrap64; omega)
                            refine ⟨⟨j + 1, _, by omega, by first | rw [HWJ.out] | rfl, HO6.out.2.1.set _ _ _ (Or.inl rfl) (by have := HS8.out; omega), HO6.out.2.2.set 2 _, ?_⟩, ?_⟩
                            · rw [← HLJ.out]
                              exact Kd.R_mono (Kd.R_far (p := ⟨w7.heap.size, 2, none⟩) (Kd.R_mono (Kd.R_bound HO6.out.1) (fun k hk => (by have := hk.2.1; have := H12.out.2.2.2.2; omega : k ≠ w7.heap.size))) (fun _ hk => hk) _) (fun _ _ => trivial)
                            try rw [HWJ.out]
                            simp only [intOf, Int.toNat_natCast]
                            omega
                          | true =>
                            obtain ⟨d0, d1, _⟩ := order_idx HSP.out.2.2.2.1 hlt
                            have C := cohousingref40_Place.calls k (some ag) c3 l3 (j : Int) (idxI (j : Int) l3 0) wa (Kd.C_below HR.out.2.2.1 HA.out.1.b) HC.out.2.2.1 (place_f l3 (j : Int) (by have := HLE.out; have := HN.out; omega) k (by have := HLE.out; have := HN.out; have := HK.out; omega))
                            have hq5 := fun W (hW : Below w.heap.size w W) => HRC.out as_ l5 (idxI (j : Int) l3 0) HR.out.2.2.2.2 d0 (by have := HLE.out; omega) W hW
                            have d2 : idxI (j : Int) l3 0 < (l5.length : Int) := by have := HLE.out; omega
                            obtain ⟨q, hq⟩ : ∃ q, q = idxI (j : Int) l3 0 := ⟨_, rfl⟩
                            rw [← hq] at C hq5 d0 d1 d2
                            have HQQ := Lib.hid hq
                            clear hq
                            go_wp2_with fail
                            refine C.mono ?_
                            clear C
                            rintro e wb ⟨rfl, hdb⟩
                            have hbb := hdb.below
                            have hyb := HA.out.2.1.below hbb HA.out.2.1.lt
                            have hxb := HA.out.2.2.1.below hbb HA.out.2.2.1.lt
                            have hfb := HA.out.1.below hbb (Nat.le_refl _)
                            have hru := Kd.R_below HRU.out hbb
                            have hq6 := hq5 wb hfb.b
                            have hfz := fun i => hxb.frozen i
                            have z0 := hfz 0
                            have z1 := hfz 1
                            have z2 := hfz 2
                            have y0 := hxb.cell 0 _ rfl
                            have y1 := hxb.cell 1 _ rfl
                            have y2 := hxb.cell 2 _ rfl
                            have HBB := Lib.hid (And.intro hfb (And.intro hyb (And.intro hxb hru)))
                            clear hfz hq5 hbb hyb hxb hfb hru hdb
                            go_wp2_with ((with_reducible refine gate_dst (N := 146) rfl ?_); refine Stop.out ?_)
                            have hxc := ((HBB.out.2.2.1.set 0 (.int .i64 (j : Int))).set 1 (.int .i64 q)).set 2 (.int .i64 (rd l5 q))
                            have hne : w7.heap.size ≠ wr.heap.size := by have := HWR.out; omega
                            have hyc := ((HBB.out.2.1.other hne 0 (.int .i64 (j : Int))).other hne 1 (.int .i64 q)).other hne 2 (.int .i64 (rd l5 q))
                            have hbs : w12.heap.size ≤ wr.heap.size ∧ w.heap.size ≤ wr.heap.size := by have := HWR.out; have := HS8.out; omega
                            have hfc := ((HBB.out.1.set wr.heap.size 0 (.int .i64 (j : Int)) (Or.inr hbs.1) hbs.2).set wr.heap.size 1 (.int .i64 q) (Or.inr hbs.1) hbs.2).set wr.heap.size 2 (.int .i64 (rd l5 q)) (Or.inr hbs.1) hbs.2
                            have hrc := Kd.R_far (p := ⟨wr.heap.size, 2, none⟩) (Kd.R_far (p := ⟨wr.heap.size, 1, none⟩) (Kd.R_far (p := ⟨wr.heap.size, 0, none⟩) HBB.out.2.2.2 (fun _ hk => hk) (.int .i64 (j : Int))) (fun _ hk => hk) (.int .i64 q)) (fun _ hk => hk) (.int .i64 (rd l5 q))
                            generalize ((wb.setCell ⟨wr.heap.size, 0, none⟩ (.int .i64 (j : Int))).setCell ⟨wr.heap.size, 1, none⟩ (.int .i64 q)).setCell ⟨wr.heap.size, 2, none⟩ (.int .i64 (rd l5 q)) = wc at hxc hyc hfc hrc ⊢
                            have e0 := hxc.cell 0 _ rfl
                            have e1 := hxc.cell 1 _ rfl
                            have e2 := hxc.cell 2 _ rfl
                            have m2 := hyc.cell 2 _ rfl
                            have m3 := hyc.frozen 2
                            have HCC := Lib.hid (And.intro hfc (And.intro hyc (Kd.R_mono (ok' := fun _ => True) hrc (fun _ _ => trivial))))
                            clear hxc hyc hfc hrc hne hbs z0 z1 z2 y0 y1 y2 hq6
                            refine ⟨?_⟩
                            go_wp2_with ((with_reducible refine gate_builtin (b := .append) (xs := #[.tmp 146, .tmp 148]) rfl ?_); at_builtin; refine Stop.out ?_)
                            refine ⟨?_⟩
                            refine Kd.R_append_rows k53 (w0 := wc.alloc (Obj.cells #[Value.int IntKind.i64 ((j : Int)), Value.int IntKind.i64 (q), Value.int IntKind.i64 (rd l5 q)] 53)) w12.heap.size rfl (.tmp 146) (.tmp 148) 26 53 (.agg #[(.int .i64 0), (.int .i64 0), (.int .i64 0)]) 24 rfl Tryd.underlying26 info_l rfl (by decide) (by omega) u ((shufLinks a0 l1 l2 l3 l4 l5).take j) [(⟨(j : Int), q, rd l5 q⟩ : S53)] _ _ _ (fun _ => True) (fun _ => False) rfl rfl ?aO ?aR (fun _ _ h => h) (fun _ h => h.elim) (fun _ _ => trivial) ?aB ?aS ?aL ?_
                            case aO => exact Kd.R_alloc HCC.out.2.2 _
                            case aR =>
                              have hp := C_parts (d := k53) wc [(⟨(j : Int), q, rd l5 q⟩ : S53)] [[.int .i64 ((j : Int)), .int .i64 (q), .int .i64 (rd l5 q)]] 53 (by simp) ⟨k53_mk _ _, trivial⟩
                              exact hp
                            case aB => exact Below.refl _ _
                            case aS => rw [World.size_alloc]; have := HCC.out.1.s; omega
                            case aL => have := HN.out; rw [List.length_take]; omega
                            intro v6 w6 ho6 hb6 hg6 hat6
                            rw [show (⟨(j : Int), q, rd l5 q⟩ : S53) = linkAt l2 l3 l4 l5 (shufBits a0 l1 l2 l3 l4 l5) j from by unfold linkAt; rw [HBIT.out]; first | rfl | (rw [HQQ.out]; rfl), ← HLK.out j hlt] at ho6
                            obtain ⟨Lj, hLj⟩ : ∃ L, L = (shufLinks a0 l1 l2 l3 l4 l5).take (j + 1) := ⟨_, rfl⟩
                            rw [← hLj] at ho6
                            have HLJ := Lib.hid hLj
                            clear hLj
                            obtain ⟨Av, cv, hv6, -, -⟩ := Kd.R_reads ho6
                            have hf6 : Fs w w12 w7.heap.size w6 := (HCC.out.1.below ((Below.refl wc.heap.size wc).alloc (Nat.le_refl _) _) (Nat.le_refl _)).grown hg6 (fun k hk => (HUB.out k hk).1) (by have := H12.out.2.2.2.2; have := HS8.out; omega)
                            have hy6 := (HCC.out.2.1.alloc (Obj.cells #[Value.int IntKind.i64 ((j : Int)), Value.int IntKind.i64 (q), Value.int IntKind.i64 (rd l5 q)] 53)).grown hg6 (fun e => by have := HUB.out w7.heap.size e.symm; have := H12.out.2.2.2.2; omega)
                            have n2 := hy6.frozen 2
                            have n3 := hy6.cell 2 _ rfl
                            subst hv6
                            have HO6 := Lib.hid (And.intro ho6 (And.intro hf6 hy6))
                            clear ho6 hb6 hg6 hat6 hf6 hy6 e0 e1 e2 m2 m3
                            go_wp2_with fail
                            have HWJ := Lib.hid (show wrap64 ((j : Int) + 1) = ((j + 1 : Nat) : Int) by have := HN.out; unfold wrap64; omega)
                            refine ⟨⟨j + 1, _, by omega, by first | rw [HWJ.out] | rfl, HO6.out.2.1.set _ _ _ (Or.inl rfl) (by have := HS8.out; omega), HO6.out.2.2.set 2 _, ?_⟩, ?_⟩
                            · rw [← HLJ.out]
                              exact Kd.R_mono (Kd.R_far (p := ⟨w7.heap.size, 2, none⟩) (Kd.R_mono (Kd.R_bound HO6.out.1) (fun k hk => (by have := hk.2.1; have := H12.out.2.2.2.2; omega : k ≠ w7.heap.size))) (fun _ hk => hk) _) (fun _ _ => trivial)
                            try rw [HWJ.out]
                            simp only [intOf, Int.toNat_natCast]
                            omega
                        · obtain rfl : j = l1.length := by omega
                          have hlr2 := hlr.out
                          rw [List.take_of_length_le (by have := HLL.out; omega)] at hlr2
                          obtain ⟨Av, cv, rfl, -, -⟩ := Kd.R_reads hlr2
                          have hx0 := HX12.out
                          have hxr : Blk wr w.heap.size 28 [Value.slice none 0 0, Value.slice none 0 0, Value.slice none 0 0] := (hfs.out.k w.heap.size (Nat.lt_of_lt_of_le HX12.out.lt (Nat.le_refl _)) (by have := HS8.out; omega)).trans hx0
                          have y0 := hbk.out.cell 0 _ rfl
                          have y1 := hbk.out.cell 1 _ rfl
                          have y2 := hbk.out.cell 2 _ rfl
                          have f0 := hxr.frozen 0
                          have f1 := hxr.frozen 1
                          have f2 := hxr.frozen 2
                          have e0 := hxr.cell 0 _ rfl
                          have e1 := hxr.cell 1 _ rfl
                          have e2 := hxr.cell 2 _ rfl
                          have HZ := Lib.hid (And.intro hfs.out (And.intro hxr (And.intro (hfs.out.R H12.out.2.1) (And.intro (hfs.out.R H12.out.2.2.1) hlr2))))
                          clear hx0 hxr hlr2 hfs hbk hlr
                          go_wp2_with fail
                          refine bodyPost_ret (results_ct rfl _ _ w.heap.size 28 #[.slice (some am) md.length cm, .slice Ao ot.length co, .slice Av (shufLinks a0 l1 l2 l3 l4 l5).length cv] (0, 0) _ rfl ?blk Tryd.underlying28 rfl (by kernel_rfl)) rfl ?_
                          case blk => exact ((HZ.out.2.1.set 0 _).set 1 _).set 2 _
                          have h1 := Kd.R_mono (ok' := fun k => k ≠ w.heap.size) (Kd.R_types HZ.out.2.2.1 HZ.out.2.1 (by decide)) (fun _ hk => hk.2)
                          have h2 := Kd.R_mono (ok' := fun k => k ≠ w.heap.size) (Kd.R_types HZ.out.2.2.2.1 HZ.out.2.1 (by decide)) (fun _ hk => hk.2)
                          have h3 := Kd.R_mono (ok' := fun k => k ≠ w.heap.size) (Kd.R_types HZ.out.2.2.2.2 HZ.out.2.1 (by decide)) (fun _ hk => hk.2)
                          have far : ∀ {α : Type} {d : Kd α} {e base : Nat} {W : World} {v : Value} {xs : List α} (x y z : Value), d.R e W base (fun k => k ≠ w.heap.size) v xs → d.R e (((W.setCell ⟨w.heap.size, 0, none⟩ x).setCell ⟨w.heap.size, 1, none⟩ y).setCell ⟨w.heap.size, 2, none⟩ z) base (fun _ => True) v xs := fun x y z h =>
                            Kd.R_mono (Kd.R_far (p := ⟨w.heap.size, 2, none⟩) (Kd.R_far (p := ⟨w.heap.size, 1, none⟩) (Kd.R_far (p := ⟨w.heap.size, 0, none⟩) h (fun _ hk => hk) x) (fun _ hk => hk) y) (fun _ hk => hk) z) (fun _ _ => trivial)
                          refine ⟨_, _, _, rfl, ?_, ?_, ?_, ((HZ.out.1.b.setCell (Nat.le_refl _) _).setCell (Nat.le_refl _) _).setCell (Nat.le_refl _) _⟩
                          · rw [← HMD.out]
                            exact far _ _ _ h1
                          · rw [← HOD.out]
                            exact far _ _ _ h2
                          · exact Kd.R_lower (far _ _ _ h3) (by have := HS8.out; have := H12.out.2.2.2.2; omega)
end Go.Proofs.YtkaebblbmoolaaaDoor.P
