/- digest.up: the level above another one. -/
import Derived.Test.YtkdckjafhaadiaaDoorXleaf
set_option linter.unusedSimpArgs false
set_option linter.unusedVariables false
namespace Go.Proofs.YtkdckjafhaadiaaDoor.P
open Go Go.RowKit Go.Proofs.YtkdckjafhaadiaaDoor.Ord Go.Proofs.YtkdckjafhaadiaaDoorW.PrintWords Go.Proofs.YtkdckjafhaadiaaDoorW.PrintLast Go.Proofs.YtkdckjafhaadiaaDoorW.PrintMore

/-- The level above another one. -/
def upV : List Int → List Int
  | [] => []
  | [a] => [a]
  | a :: b :: l => joinV a b :: upV l
/-- The nodes of the first k pairs. -/
def pairs (l : List Int) (k : Nat) : List Int := (List.range k).map fun i => joinV (rd l (2 * i : Nat)) (rd l (2 * i + 1 : Nat))
theorem rd_nat (l : List Int) (i : Nat) : rd l (i : Nat) = l.getD i 0 := by simp [rd]
theorem rd_drop2 (a b : Int) (l : List Int) (i : Nat) : rd (a :: b :: l) ((i + 2 : Nat) : Int) = rd l (i : Nat) := by
  rw [rd_nat, rd_nat]
  rfl
theorem up_pairs : ∀ l : List Int, upV l = pairs l (l.length / 2) ++ (if l.length % 2 = 1 then [rd l ((l.length - 1 : Nat) : Int)] else [])
  | [] => by simp [upV, pairs]
  | [a] => by simp [upV, pairs, rd]
  | a :: b :: l => by
    have ih := up_pairs l
    have e1 : (a :: b :: l).length / 2 = l.length / 2 + 1 := by simp only [List.length_cons]; omega
    have e2 : (a :: b :: l).length % 2 = l.length % 2 := by simp only [List.length_cons]; omega
    have e3 : pairs (a :: b :: l) (l.length / 2 + 1) = joinV a b :: pairs l (l.length / 2) := by
      unfold pairs
      rw [List.range_succ_eq_map, List.map_cons, List.map_map]
      have e0 : joinV (rd (a :: b :: l) ((2 * 0 : Nat) : Int)) (rd (a :: b :: l) ((2 * 0 + 1 : Nat) : Int)) = joinV a b := by rw [rd_nat, rd_nat]; rfl
      rw [e0]
      refine congrArg (joinV a b :: ·) ?_
      apply List.map_congr_left
      intro i _
      simp only [Function.comp_apply, Nat.succ_eq_add_one]
      rw [show 2 * (i + 1) = 2 * i + 2 from by omega, show 2 * i + 2 + 1 = 2 * i + 1 + 2 from by omega, rd_drop2, rd_drop2]
    rw [e1, e2, e3]
    show joinV a b :: upV l = _
    rw [ih, List.cons_append]
    refine congrArg (fun z => joinV a b :: (pairs l (l.length / 2) ++ z)) ?_
    by_cases h : l.length % 2 = 1
    · rw [if_pos h, if_pos h]
      rw [show (a :: b :: l).length - 1 = (l.length - 1) + 2 from by simp only [List.length_cons]; omega, rd_drop2]
    · rw [if_neg h, if_neg h]
theorem pairs_succ (l : List Int) (k : Nat) : pairs l (k + 1) = pairs l k ++ [joinV (rd l (2 * k : Nat)) (rd l (2 * k + 1 : Nat))] := by
  unfold pairs
  rw [List.range_succ, List.map_append]
  rfl
theorem pairs_len (l : List Int) (k : Nat) : (pairs l k).length = k := by simp [pairs]
theorem rd_memZ {l : List Int} {i : Int} (h0 : 0 ≤ i) (h1 : i < l.length) : rd l i ∈ l := by
  obtain ⟨n, rfl⟩ := Int.eq_ofNat_of_zero_le h0
  exact rd_mem (by omega)
theorem cell_alloc {W : World} {x : Addr} {v : Value} (h : W.cell? x = some v) (o : Obj) : (W.alloc o).cell? x = some v :=
  ((below_alloc (Below.refl W.heap.size W) o).cell (World.block_lt_of_cell? _ _ h)).trans h
theorem info_u64 : (Tryd.prog.info? 23).map (fun i => (i.zero, i.size, i.bytes)) = some (some (.int .u64 0), 1, 8) := by kernel_rfl
/-- 'make' of no element, with room. -/
theorem make_room (c : Nat) (hc : c * 8 ≤ 281474976710656) (W : World) (base : Nat) (hb : base ≤ W.heap.size) : ∃ W', (Instr.makeSlice 33 (.int .i64 0) (.int .i64 (c : Int))).run Tryd.prog W = .ok (.slice (some ⟨W.heap.size, 0, none⟩) 0 c) W' ∧ Kd.R (Kd.int .u64) 23 W' base (fun _ => True) (.slice (some ⟨W.heap.size, 0, none⟩) 0 c) [] ∧ W.grownBy W' none := by
  obtain ⟨i, hi, hz⟩ := Option.map_eq_some_iff.1 info_u64
  simp only [Prod.mk.injEq] at hz
  obtain ⟨hz0, hz1, hz2⟩ := hz
  obtain ⟨W', h1, h2, h3⟩ := run_make_own (P := Tryd.prog) W base 33 23 i (.int .u64 0) 1 Tryd.underlying33 hi hz0 hz1 .i64 .i64 c (by rw [hz2]; omega) (by simp [maxLen]; omega) hb
  exact ⟨W', h1, Kd.R_of_own h2 (fun _ _ => trivial), h3⟩

/-- 'append' of one element in a region that draws its order. -/
theorem act_append {P : Program} {o : Oper} {a : Act} {Q : Exit → Act → World → Prop} {Kc : Act → World → Prop} {α : Type} (d : Kd α) {w0 W : World} (base : Nat) (hgd : o.guard = none) (s x : Operand) (t e : TypeId) (z : Value) (bytes : Nat)
    (ho : o.op = .call { callee := .builtin .append, args := #[s, x], argTypes := #[t, t] })
    (ht : P.underlying t = some (.slice e)) (hinfo : (P.info? e).map (fun i => (i.zero, i.size, i.bytes)) = some (some z, d.sz, bytes)) (hz : z.cells.size = d.sz) (hs0 : 0 < d.sz) (hb0 : 0 < bytes)
    (v : Value) (xs : List α) (p : α) (cs : List Value) (ok okp : Nat → Prop) (hs : a.eval s = v) (hx : a.eval x = .slice (some ⟨W.heap.size, 0, none⟩) 1 1) (hp : d.M W base okp p cs) (hokp : ∀ k, okp k → ok k ∧ some k ≠ v.ownBlock) (hfresh : ∀ k, W.heap.size ≤ k → ok k)
    (HO : d.R e W base ok v xs) (HB : Below base w0 W) (hbase : base ≤ W.heap.size) (hl : (xs.length + 1) * bytes ≤ 140737488355328)
    (h : ∀ v1 w1, d.R e w1 base ok v1 (xs ++ [p]) → Below base w0 w1 → W.grownBy w1 v.ownBlock → (v1.ownBlock = v.ownBlock ∨ ∃ b, v1.ownBlock = some b ∧ W.heap.size ≤ b) → Kc (a.put o.dst v1) w1) :
    Oper.wp P o a (W.alloc (.cells cs.toArray e)) Kc Q := by
  have hw : Region.wanted o (yielded #[] a.tmps) = true := by simp [Region.wanted, hgd]
  have hq := Kd.R_append_step (P := P) (ops := #[]) (o := o) (a := a) (Q := Q) (Kc := Kc) d base hw s x t e z bytes ho ht hinfo hz hs0 hb0 v xs p cs ok okp hs hx hp hokp hfresh HO HB hbase hl h
  rwa [if_pos hw] at hq

set_option maxRecDepth 100000 in
set_option maxHeartbeats 1000000 in
theorem up_calls (A0 : Option Addr) (c0 : Nat) (l0 : List Int) (w : World) (hr0 : Kd.C (Kd.int .u64) w A0 l0.length l0) (hu : ∀ x ∈ l0, isU x = true) (hl : l0.length ≤ 1000000) :
    Calls Tryd.prog 52 #[.slice A0 l0.length c0] w fun e w' => ∃ v0_ : Value, e = .returned v0_ ∧ Kd.R (Kd.int .u64) 23 w' w.heap.size (fun _ => True) v0_ (upV l0) ∧ Below w.heap.size w w' := by
  have HR0 := Lib.hid hr0
  have HU := Lib.hid hu
  obtain ⟨wm, hmk, hRm, hgm⟩ := make_room ((l0.length + 1) / 2) (by omega) w w.heap.size (Nat.le_refl _)
  rw [show (((l0.length + 1) / 2 : Nat) : Int) = ((l0.length : Int) + 1) / 2 from by omega] at hmk
  have HRM := Lib.hid hRm
  have HBM := Lib.hid (pw_below_grown (Below.refl w.heap.size w) none (Nat.le_refl _) hgm (fun _ h => by cases h))
  clear hr0 hu hRm hgm
  go_enter Tryd.func52, Tryd.ntmps52
  go_wp2_with fail
  clear hmk
  go_loopw [3, 13] (fun v i wr => ∃ (k : Nat), k ≤ l0.length / 2 ∧ i = .int .i64 k ∧ Kd.R (Kd.int .u64) 23 wr w.heap.size (fun _ => True) v (pairs l0 k) ∧ Below w.heap.size w wr) (fun _ i _ => l0.length - (intOf i).toNat)
  case atStart => exact ⟨0, Nat.zero_le _, rfl, HRM.out, HBM.out⟩
  case round =>
    obtain ⟨k, hk, rfl, hR, hB⟩ := hrel
    by_cases hlt : k < l0.length / 2
    · have hd : (k : Int) < (l0.length : Int) / 2 := by omega
      obtain ⟨ad, e, hx0⟩ := Kd.at_int HR0.out (2 * (k : Int)) (by omega) (by omega)
      cases e
      obtain ⟨ad', e, hx1⟩ := Kd.at_int HR0.out (2 * (k : Int) + 1) (by omega) (by omega)
      cases e
      have HZ := Lib.hid (And.intro hx0 hx1)
      replace hx0 := (hB.cell (World.block_lt_of_cell? w _ hx0)).trans hx0
      replace hx1 := (hB.cell (World.block_lt_of_cell? w _ hx1)).trans hx1
      have cl0 := fun W (hW : Held (fun W => W.cell? (ad.add (2 * (k : Int)).toNat) = some (.int .u64 (rd l0 (2 * (k : Int)))) ∧ W.cell? (ad.add (2 * (k : Int) + 1).toNat) = some (.int .u64 (rd l0 (2 * (k : Int) + 1)))) W) => hW.1
      have cl1 := fun W (hW : Held (fun W => W.cell? (ad.add (2 * (k : Int)).toNat) = some (.int .u64 (rd l0 (2 * (k : Int)))) ∧ W.cell? (ad.add (2 * (k : Int) + 1).toNat) = some (.int .u64 (rd l0 (2 * (k : Int) + 1)))) W) => hW.2
      have i0 : 0 ≤ 2 * (k : Int) := by omega
      have hw1 : IntKind.i64.wrap (2 * (k : Int)) = 2 * (k : Int) := by rw [IntKind.wrap_i64]; omega
      have hw2 : IntKind.i64.wrap (2 * (k : Int) + 1) = 2 * (k : Int) + 1 := by rw [IntKind.wrap_i64]; omega
      have i1 : 2 * (k : Int) < (l0.length : Int) := by omega
      have i2 : 0 ≤ 2 * (k : Int) + 1 := by omega
      have i3 : 2 * (k : Int) + 1 < (l0.length : Int) := by omega
      have hj := Lib.hid (fun W => digest_join.calls (rd l0 (2 * (k : Int))) (rd l0 (2 * (k : Int) + 1)) _ W (by unfold digest_join.f; rw [HU.out _ (rd_memZ i0 i1), HU.out _ (rd_memZ i2 i3)]; rfl))
      go_wp2_with fail
      refine wp_region_auto (fun W => W.cell? (ad.add (2 * (k : Int)).toNat) = some (.int .u64 (rd l0 (2 * (k : Int)))) ∧ W.cell? (ad.add (2 * (k : Int) + 1).toNat) = some (.int .u64 (rd l0 (2 * (k : Int) + 1)))) ((0, none, none) :: (0, none, none) :: (0, none, none) :: (0, none, none) :: (0, none, none) :: (0, none, none) :: (0, none, none) :: (0, none, none) :: (0, none, none) :: (0, none, none) :: (0, none, none) :: (0, none, none) :: (0, none, some true) :: (0, none, some true) :: (0, none, some true) :: (0, none, none) :: []) (by kernel_rfl) (by kernel_rfl) (fun _ _ d _ _ h => by cases d <;> exact h) ⟨hx0, hx1⟩ ?_
      repeat' (first
        | (with_reducible apply rel_pass
           focus (intro W hW; first | (go_simp; exact rfl) | go_simp)
           simp only [Act.put, List.setIfInBounds_toArray, List.set_cons_zero, List.set_cons_succ])
        | (with_reducible apply rel_yes
           focus (exact rfl))
        | (with_reducible apply rel_no
           focus (exact rfl)
           simp only [Act.put, List.setIfInBounds_toArray, List.set_cons_zero, List.set_cons_succ])
        | (with_reducible apply rel_askF
           focus (exact rfl)
           all_goals (intro hb; simp only [hb, Act.put, List.setIfInBounds_toArray, List.set_cons_zero, List.set_cons_succ]))
        | (with_reducible apply rel_askT
           focus (exact rfl)
           all_goals (intro hb; simp only [hb, Act.put, List.setIfInBounds_toArray, List.set_cons_zero, List.set_cons_succ]))
        | (with_reducible apply rel_front1)
        | (with_reducible apply rel_front2)
        | (with_reducible apply rel_front3)
        | (with_reducible apply rel_front4)
        | (with_reducible apply rel_front5)
        | (with_reducible apply rel_front6))
      with_reducible apply rel_act
      intro K hK
      go_simp
      refine (hj.out _).mono ?_
      rintro e w2 ⟨rfl, hb2⟩
      have hx2 := (hb2.cell (World.block_lt_of_cell? _ _ hx0)).trans hx0
      have hx3 := (hb2.cell (World.block_lt_of_cell? _ _ hx1)).trans hx1
      refine hK _ _ ⟨fun _ => ⟨hx2, hx3⟩, ?_⟩
      clear hK K
      try simp only [Act.put, List.setIfInBounds_toArray, List.set_cons_zero, List.set_cons_succ]
      repeat' (first
        | (with_reducible apply rel_pass
           focus (intro W hW; first | (go_simp; exact rfl) | go_simp)
           simp only [Act.put, List.setIfInBounds_toArray, List.set_cons_zero, List.set_cons_succ])
        | (with_reducible apply rel_yes
           focus (exact rfl))
        | (with_reducible apply rel_no
           focus (exact rfl)
           simp only [Act.put, List.setIfInBounds_toArray, List.set_cons_zero, List.set_cons_succ])
        | (with_reducible apply rel_askF
           focus (exact rfl)
           all_goals (intro hb; simp only [hb, Act.put, List.setIfInBounds_toArray, List.set_cons_zero, List.set_cons_succ]))
        | (with_reducible apply rel_askT
           focus (exact rfl)
           all_goals (intro hb; simp only [hb, Act.put, List.setIfInBounds_toArray, List.set_cons_zero, List.set_cons_succ]))
        | (with_reducible apply rel_front1)
        | (with_reducible apply rel_front2)
        | (with_reducible apply rel_front3)
        | (with_reducible apply rel_front4)
        | (with_reducible apply rel_front5)
        | (with_reducible apply rel_front6))
      with_reducible apply rel_act
      intro K hK
      go_simp
      refine hK _ _ ⟨fun _ => ⟨cell_alloc hx2 _, cell_alloc hx3 _⟩, ?_⟩
      clear hK K
      try simp only [Act.put, List.setIfInBounds_toArray, List.set_cons_zero, List.set_cons_succ]
      repeat' (first
        | (with_reducible apply rel_pass
           focus (intro W hW; first | (go_simp; exact rfl) | go_simp)
           simp only [Act.put, List.setIfInBounds_toArray, List.set_cons_zero, List.set_cons_succ])
        | (with_reducible apply rel_yes
           focus (exact rfl))
        | (with_reducible apply rel_no
           focus (exact rfl)
           simp only [Act.put, List.setIfInBounds_toArray, List.set_cons_zero, List.set_cons_succ])
        | (with_reducible apply rel_askF
           focus (exact rfl)
           all_goals (intro hb; simp only [hb, Act.put, List.setIfInBounds_toArray, List.set_cons_zero, List.set_cons_succ]))
        | (with_reducible apply rel_askT
           focus (exact rfl)
           all_goals (intro hb; simp only [hb, Act.put, List.setIfInBounds_toArray, List.set_cons_zero, List.set_cons_succ]))
        | (with_reducible apply rel_front1)
        | (with_reducible apply rel_front2)
        | (with_reducible apply rel_front3)
        | (with_reducible apply rel_front4)
        | (with_reducible apply rel_front5)
        | (with_reducible apply rel_front6))
      with_reducible apply rel_act
      intro K hK
      have hjv : joinV (rd l0 (2 * (k : Int))) (rd l0 (2 * (k : Int) + 1)) = joinV (rd l0 (2 * k : Nat)) (rd l0 (2 * k + 1 : Nat)) := rfl
      have HPS := Lib.hid ((pairs_succ l0 k).trans (by rw [← hjv]))
      have hR2 := Kd.R_below (Kd.R_drew hR) hb2
      have hB2 := below_step (below_drew1 hB) hb2
      have hpl := pairs_len l0 k
      refine act_append (Kd.int .u64) (w0 := w) w.heap.size rfl (.tmp 16) (.tmp 29) 33 23 (.int .u64 0) 8 rfl Tryd.underlying33 info_u64 rfl (by decide) (by omega) _ (pairs l0 k) _ [.int .u64 _] (fun _ => True) (fun _ => False) rfl rfl rfl (fun _ hk => hk.elim) (fun _ _ => trivial) hR2 hB2 hB2.size (by omega) ?_
      intro v3 w3 ho hb3 hg hat
      have HK := Lib.hid (And.intro hb3 ho)
      refine hK _ _ ⟨fun h => ?_, ?_⟩
      · exact ⟨(hb3.cell (World.block_lt_of_cell? w _ HZ.out.1)).trans HZ.out.1, (hb3.cell (World.block_lt_of_cell? w _ HZ.out.2)).trans HZ.out.2⟩
      clear hb3 ho hg hat
      clear hK K
      try simp only [Act.put, List.setIfInBounds_toArray, List.set_cons_zero, List.set_cons_succ]
      repeat' (first
        | (with_reducible apply rel_pass
           focus (intro W hW; first | (go_simp; exact rfl) | go_simp)
           simp only [Act.put, List.setIfInBounds_toArray, List.set_cons_zero, List.set_cons_succ])
        | (with_reducible apply rel_yes
           focus (exact rfl))
        | (with_reducible apply rel_no
           focus (exact rfl)
           simp only [Act.put, List.setIfInBounds_toArray, List.set_cons_zero, List.set_cons_succ])
        | (with_reducible apply rel_askF
           focus (exact rfl)
           all_goals (intro hb; simp only [hb, Act.put, List.setIfInBounds_toArray, List.set_cons_zero, List.set_cons_succ]))
        | (with_reducible apply rel_askT
           focus (exact rfl)
           all_goals (intro hb; simp only [hb, Act.put, List.setIfInBounds_toArray, List.set_cons_zero, List.set_cons_succ]))
        | (with_reducible apply rel_front1)
        | (with_reducible apply rel_front2)
        | (with_reducible apply rel_front3)
        | (with_reducible apply rel_front4)
        | (with_reducible apply rel_front5)
        | (with_reducible apply rel_front6))
      apply rel_nil
      simp only [Exit.then, Exit.inBlock]
      go_wp2_with fail
      go_roundw
      case rel => exact ⟨k + 1, by omega, by go_num, by rw [HPS.out]; exact HK.out.2, HK.out.1⟩
      case measure => simp [intOf]; omega
    · obtain rfl : k = l0.length / 2 := by omega
      have hpl := pairs_len l0 (l0.length / 2)
      have hup := Lib.hid (up_pairs l0)
      by_cases hodd : l0.length % 2 = 1
      · have hm : ((l0.length : Int) % 2 == 1) = true := by simp; omega
        obtain ⟨ad, e, hx0⟩ := Kd.at_int HR0.out ((l0.length : Int) - 1) (by omega) (by omega)
        cases e
        replace hx0 := (hB.cell (World.block_lt_of_cell? w _ hx0)).trans hx0
        rw [show ((l0.length : Int) - 1).toNat = l0.length - 1 from by omega] at hx0
        have hw1 : IntKind.i64.wrap ((l0.length : Int) - 1) = (l0.length : Int) - 1 := by rw [IntKind.wrap_i64]; omega
        have i0 : 0 ≤ (l0.length : Int) - 1 := by omega
        have i1 : (l0.length : Int) - 1 < (l0.length : Int) := by omega
        have hup' : Hid (upV l0 = pairs l0 (l0.length / 2) ++ [rd l0 ((l0.length : Int) - 1)]) := by
          unfold Hid
          rw [hup.out, if_pos hodd, show ((l0.length - 1 : Nat) : Int) = (l0.length : Int) - 1 from by omega]
        go_wp2_with (at_builtin; refine Kd.R_append (Kd.int .u64) (w0 := w) w.heap.size rfl (.tmp 36) (.tmp 43) 33 23 (.int .u64 0) 8 rfl Tryd.underlying33 info_u64 rfl (by decide) (by omega) _ (pairs l0 (l0.length / 2)) (rd l0 ((l0.length : Int) - 1)) [.int .u64 (rd l0 ((l0.length : Int) - 1))] (fun _ => True) (fun _ => False) rfl (by first | rfl | go_simp) ?aP (fun _ hk => hk.elim) ?aF ?aO ?aB ?aS ?aL ?_; (case aP => exact rfl); (case aF => exact fun _ _ => trivial); (case aO => exact hR); (case aB => exact hB); (case aS => exact hB.size); (case aL => omega); intro v3 w3 ho hb3 hg hat; have HK := Lib.hid (And.intro hb3 ho); clear hb3 ho hg hat)
        go_ret
        exact ⟨_, rfl, by rw [hup'.out]; exact HK.out.2, HK.out.1⟩
      · have hm : ((l0.length : Int) % 2 == 1) = false := by simp; omega
        go_wp2_with fail
        go_ret
        exact ⟨_, rfl, by rw [hup.out, if_neg hodd, List.append_nil]; exact hR, hB⟩
def digest_up.f (l0 : List Int) : Option (List Int) := if l0.all isU = true ∧ l0.length ≤ 1000000 then some (upV l0) else none
theorem digest_up.calls (A0 : Option Addr) (c0 : Nat) (l0 : List Int) (r : List Int) (w : World) (hr0 : Kd.C (Kd.int .u64) w A0 l0.length l0) (hc0 : l0.length ≤ c0) (h : digest_up.f l0 = some r) :
    Calls Tryd.prog 52 #[.slice A0 l0.length c0] w fun e w' => ∃ v0_ : Value, e = .returned (v0_) ∧ Kd.R (Kd.int .u64) 23 w' w.heap.size (fun _ => True) v0_ r ∧ Below w.heap.size w w' := by
  unfold digest_up.f at h
  by_cases hx : l0.all isU = true ∧ l0.length ≤ 1000000
  · rw [if_pos hx] at h
    obtain rfl := Option.some.inj h
    exact up_calls A0 c0 l0 w hr0 (fun x hm => List.all_eq_true.1 hx.1 x hm) hx.2
  · rw [if_neg hx] at h
    cases h
end Go.Proofs.YtkdckjafhaadiaaDoor.P
