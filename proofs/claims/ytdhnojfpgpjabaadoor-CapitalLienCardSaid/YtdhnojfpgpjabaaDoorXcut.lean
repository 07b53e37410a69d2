/- Chapter 32: the iterator over the stretches (capital.stretches), which keeps its book in blocks of its own. -/
import Derived.Test.YtdhnojfpgpjabaaDoorXValid
import Derived.RangeFuncBound
import Derived.Shelf.RegionOpen
import Derived.TacticsInMore
import Derived.LoopNIn
import Derived.LoopIn
set_option linter.unusedSimpArgs false
set_option linter.unusedVariables false
namespace Go.Proofs.YtdhnojfpgpjabaaDoor.P
open Go Go.RowKit Go.Proofs.YtdhnojfpgpjabaaDoorW.PrintWords Go.Proofs.YtdhnojfpgpjabaaDoorW.PrintLast Go.Proofs.YtdhnojfpgpjabaaDoorW.PrintMore Go.Proofs.YtdhnojfpgpjabaaDoor.Ord Go.Proofs.YtdhnojfpgpjabaaDoor.OrdI
attribute [local go_sem] Oper.semAt_some

/-- The stretches from a book and a day on: how long, and the sums. -/
def strL (day : Int) : Bk → Int → List S36 → List (Int × Bk)
  | b, from_, [] => [(wrap64 (day - from_), b)]
  | b, from_, x :: r => if day < x.f1 then [(wrap64 (day - from_), b)] else if (x.f0 == 1 || x.f0 == 3) = true then (wrap64 (x.f1 - from_), b) :: strL day (takeV b x.f0 x.f2).1 x.f1 r else strL day (takeV b x.f0 x.f2).1 from_ r
def bk1 : Bk := ⟨0, 0, 100, 0, false⟩
def strV (l : List S36) (day : Int) : List (Int × Bk) := strL day bk1 0 l
def encS (x : Int × Bk) : Array Value := #[.int .i64 x.1, .agg #[.int .i64 x.2.paid, .int .i64 x.2.lien, .int .i64 x.2.price, .int .i64 x.2.rate]]

set_option maxHeartbeats 1000000 in
theorem cut_in (n : Nat) (hn : 1 ≤ n) (l Bf By Bb : Nat) (until_ from_ : Int) (b : Bk) (W : World) (hf : Blk W Bf 3 [.int .i64 from_]) (hy : Blk W By 60 [.func (.yield l) #[] #[]]) (hb : BookAt W Bb b) (h1 : By ≠ Bf) (h2 : Bb ≠ Bf) (R : Ending → World → Prop)
    (hY : YieldAt Fence.wide (n - 1) Tryd.prog l (encS (wrap64 (until_ - from_), b)) (W.setCell ⟨Bf, 0, none⟩ (.int .i64 until_)) (fun e W' => (∃ v : Bool, e = .returned (.bool v)) ∧ R e W')) :
    CallsIn Fence.wide n Tryd.prog 33 #[.int .i64 until_, .pointer (some ⟨Bf, 0, none⟩), .pointer (some ⟨By, 0, none⟩), .pointer (some ⟨Bb, 0, none⟩)] W R := by
  have hF : ∀ f, Fence.wide.fn f := fun _ => trivial
  have hro : Fence.wide.round = none := rfl
  have c0 := hf.cell 0 _ rfl
  have f0 := hf.frozen 0
  have hy2 := (hy.other h1 0 (.int .i64 until_)).cell 0 _ rfl
  have hb2 := hb.other h2 0 (.int .i64 until_)
  have b0 := hb2.cell 0 _ rfl
  have b1 := hb2.cell 1 _ rfl
  have b2 := hb2.cell 2 _ rfl
  have b3 := hb2.cell 3 _ rfl
  obtain ⟨fn, tmps, assign, body, hyr, hR⟩ := hY
  dsimp only [encS] at hyr
  clear hf hy hb hb2 h1 h2
  refine callsIn_of_wp Tryd.func33 rfl (hF _) ?_ hro
  simp only [Tryd.ntmps33, List.size_toArray, List.length_cons, List.length_nil, Nat.reduceAdd, Nat.reduceSub, Array.replicate_succ, Array.replicate_zero, List.push_toArray, List.append_toArray, List.nil_append, List.cons_append]
  gi_wp2
  refine hR.mono ?_
  rintro e W3 ⟨⟨v, rfl⟩, hr⟩
  gi_wp2
  exact hr

theorem strL_gt {day : Int} {b : Bk} {from_ : Int} {x : S36} {r : List S36} (h : day < x.f1) : strL day b from_ (x :: r) = [(wrap64 (day - from_), b)] := by rw [strL, if_pos h]
theorem strL_cut {day : Int} {b : Bk} {from_ : Int} {x : S36} {r : List S36} (h : ¬ day < x.f1) (h2 : (x.f0 == 1 || x.f0 == 3) = true) : strL day b from_ (x :: r) = (wrap64 (x.f1 - from_), b) :: strL day (takeV b x.f0 x.f2).1 x.f1 r := by rw [strL, if_neg h, if_pos h2]
theorem strL_on {day : Int} {b : Bk} {from_ : Int} {x : S36} {r : List S36} (h : ¬ day < x.f1) (h2 : (x.f0 == 1 || x.f0 == 3) = false) : strL day b from_ (x :: r) = strL day (takeV b x.f0 x.f2).1 from_ r := by rw [strL, if_neg h, if_neg (by simp [h2])]

set_option maxRecDepth 100000 in
set_option maxHeartbeats 4000000 in
theorem iter_seq (A : Option Addr) (c : Nat) (l : List S36) (day : Int) (u w : World) (n₁ Bl Bd : Nat) (hr : Kd.C k36 u A l.length l) (hT : TabOk u) (hle : l.length ≤ 9223372036854775807) (hu : Below u.heap.size u w) (hn : u.heap.size ≤ n₁) (hBl : n₁ ≤ Bl) (hBd : n₁ ≤ Bd)
    (hl : Blk w Bl 22 [.slice A l.length c]) (hd : Blk w Bd 3 [.int .i64 day]) :
    SeqOwn Fence.wide 3 1 Tryd.prog 32 #[.pointer (some ⟨Bl, 0, none⟩), .pointer (some ⟨Bd, 0, none⟩)] encS (fun k => u.heap.size ≤ k ∧ k < n₁) (fun xs => xs = strV l day) (fun pre => pre <+: strV l day) w := by
  intro lr J Jx W hW hlr hlW hJ hJx hY h0
  have hgo := fun W1 (h : Below u.heap.size u W1) => TabOk.below hT h
  have hF : ∀ f, Fence.wide.fn f := fun _ => trivial
  have hro : Fence.wide.round = none := rfl
  have hBlw := hl.lt
  have hBdw := hd.lt
  have hwW : w.heap.size ≤ W.heap.size := hW.size
  have hl1 : Blk W Bl 22 [.slice A l.length c] := hl.below hW hBlw
  have hd1 : Blk W Bd 3 [.int .i64 day] := hd.below hW hBdw
  have hu1 : Below u.heap.size u W := hu.trans (Below.mono hW hu.size)
  refine callsIn_of_wp Tryd.func32 rfl (hF _) ?_ hro
  simp only [Tryd.ntmps32, List.size_toArray, List.length_cons, List.length_nil, Nat.reduceAdd, Nat.reduceSub, Array.replicate_succ, Array.replicate_zero, List.push_toArray, List.append_toArray, List.nil_append, List.cons_append]
  have e0 := hl1.cell 0 _ rfl
  have e1 := fun o => (hl1.alloc o).cell 0 _ rfl
  have e2 := fun o o' => ((hl1.alloc o).alloc o').cell 0 _ rfl
  have e3 := fun o o' o'' => (((hl1.alloc o).alloc o').alloc o'').cell 0 _ rfl
  gi_wp2
  have q0 : Blk (((W.alloc (Obj.cells #[Value.func (Fn.yield lr) #[] #[]] 60)).alloc (Obj.cells #[Value.int IntKind.i64 0, Value.int IntKind.i64 0, Value.int IntKind.i64 100, Value.int IntKind.i64 0, Value.bool false] 55)).alloc (Obj.cells #[Value.int IntKind.i64 0] 3)) W.heap.size 60 [.func (.yield lr) #[] #[]] := ((Blk.new W _ _).alloc _).alloc _
  have q1 : Blk (((W.alloc (Obj.cells #[Value.func (Fn.yield lr) #[] #[]] 60)).alloc (Obj.cells #[Value.int IntKind.i64 0, Value.int IntKind.i64 0, Value.int IntKind.i64 100, Value.int IntKind.i64 0, Value.bool false] 55)).alloc (Obj.cells #[Value.int IntKind.i64 0] 3)) (W.heap.size + 1) 55 bk1.cells := by
    have h := (Blk.new (W.alloc (Obj.cells #[Value.func (Fn.yield lr) #[] #[]] 60)) 55 bk1.cells).alloc (Obj.cells #[Value.int IntKind.i64 0] 3)
    rwa [World.size_alloc] at h
  have q2 : Blk (((W.alloc (Obj.cells #[Value.func (Fn.yield lr) #[] #[]] 60)).alloc (Obj.cells #[Value.int IntKind.i64 0, Value.int IntKind.i64 0, Value.int IntKind.i64 100, Value.int IntKind.i64 0, Value.bool false] 55)).alloc (Obj.cells #[Value.int IntKind.i64 0] 3)) (W.heap.size + 1 + 1) 3 [.int .i64 0] := by
    have h := Blk.new ((W.alloc (Obj.cells #[Value.func (Fn.yield lr) #[] #[]] 60)).alloc (Obj.cells #[Value.int IntKind.i64 0, Value.int IntKind.i64 0, Value.int IntKind.i64 100, Value.int IntKind.i64 0, Value.bool false] 55)) 3 [.int .i64 0]
    rwa [World.size_alloc, World.size_alloc] at h
  have q3 : Below W.heap.size W (((W.alloc (Obj.cells #[Value.func (Fn.yield lr) #[] #[]] 60)).alloc (Obj.cells #[Value.int IntKind.i64 0, Value.int IntKind.i64 0, Value.int IntKind.i64 100, Value.int IntKind.i64 0, Value.bool false] 55)).alloc (Obj.cells #[Value.int IntKind.i64 0] 3)) :=
    (((Below.refl _ W).alloc (Nat.le_refl _) _).alloc (by simp) _).alloc (by simp; omega) _
  have HE := Lib.hid e0
  clear e0 e1 e2 e3
  generalize ((W.alloc (Obj.cells #[Value.func (Fn.yield lr) #[] #[]] 60)).alloc (Obj.cells #[Value.int IntKind.i64 0, Value.int IntKind.i64 0, Value.int IntKind.i64 100, Value.int IntKind.i64 0, Value.bool false] 55)).alloc (Obj.cells #[Value.int IntKind.i64 0] 3) = W0 at q0 q1 q2 q3 ⊢
  gi_loopw [14] (fun i wr => ∃ (k : Nat) (b : Bk) (from_ : Int) (pre : List (Int × Bk)), k ≤ l.length ∧ i = .int .i64 k ∧ J pre wr ∧ Blk wr W.heap.size 60 [.func (.yield lr) #[] #[]] ∧ BookAt wr (W.heap.size + 1) b ∧ Blk wr (W.heap.size + 1 + 1) 3 [.int .i64 from_] ∧
      Below u.heap.size u wr ∧ Blk wr Bl 22 [.slice A l.length c] ∧ Blk wr Bd 3 [.int .i64 day] ∧ Hid (strV l day = pre ++ strL day b from_ (l.drop k)))
    (fun i _ => l.length - (intOf i).toNat)
  case atStart => exact ⟨0, bk1, 0, [], Nat.zero_le _, rfl, hJ _ _ _ h0 q3, q0, q1, q2, hu1.trans (Below.mono q3 hu1.size), hl1.below q3 (by omega), hd1.below q3 (by omega), rfl⟩
  case round =>
    obtain ⟨k, b, from_, pre, hk, rfl, hJs, b0, b1, b2, hB, bl, bd, hst⟩ := hrel
    have hlt2 := b2.lt
    have L0 := bd.cell 0 _ rfl
    clear q0 q1 q2 q3
    have FIN : ∀ (W2 : World), J pre W2 → Blk W2 W.heap.size 60 [.func (.yield lr) #[] #[]] → BookAt W2 (W.heap.size + 1) b → Blk W2 (W.heap.size + 1 + 1) 3 [.int .i64 from_] → strL day b from_ (l.drop k) = [(wrap64 (day - from_), b)] →
        CallsIn Fence.wide 2 Tryd.prog 33 #[.int .i64 day, .pointer (some ⟨W.heap.size + 1 + 1, 0, none⟩), .pointer (some ⟨W.heap.size, 0, none⟩), .pointer (some ⟨W.heap.size + 1, 0, none⟩)] W2
          (fun e W' => (∃ v : Bool, e = .returned (.bool v)) ∧ ((∃ ys, ys = strV l day ∧ J ys W') ∨ (∃ pre, pre <+: strV l day ∧ Jx pre W'))) := by
      intro W2 hJ2 c0 c1 c2 hl
      have hv : strV l day = pre ++ [(wrap64 (day - from_), b)] := by rw [hst.out, hl]
      refine cut_in 2 (by omega) lr _ _ _ day from_ b W2 c2 c0 c1 (by omega) (by omega) _ ?_
      obtain ⟨fn, tmps, assign, body, hy, hR⟩ := hY pre (wrap64 (day - from_), b) (W2.setCell ⟨W.heap.size + 1 + 1, 0, none⟩ (.int .i64 day)) (hJ _ _ _ hJ2 ((KeepsBut.set (T := fun k => k = W.heap.size + 1 + 1) W2 _ _ _ rfl).below (by have := c2.lt; omega) (fun k hk => by omega))) ⟨[], by rw [hv]; simp⟩
      refine ⟨fn, tmps, assign, body, hy, hR.mono ?_⟩
      rintro e W3 (⟨rfl, hJ3, hk3⟩ | ⟨rfl, hJx3⟩)
      · exact ⟨⟨_, rfl⟩, ⟨true, rfl⟩, .inl ⟨_, hv.symm, hJ3⟩⟩
      · exact ⟨⟨_, rfl⟩, ⟨false, rfl⟩, .inr ⟨_, ⟨[], by rw [hv]; simp⟩, hJx3⟩⟩
    have HFIN := Lib.hid FIN
    clear FIN
    by_cases hlt : k < l.length
    · have hxk : l[k]? = some l[k] := List.getElem?_eq_getElem hlt
      have hst' : Hid (strV l day = pre ++ strL day b from_ (l[k] :: l.drop (k + 1))) := by
        unfold Hid
        rw [hst.out, List.drop_eq_getElem_cons hlt]
      have hdk : Hid (l.drop k = l[k] :: l.drop (k + 1)) := List.drop_eq_getElem_cons hlt
      generalize l[k] = x at *
      obtain ⟨ad, rfl, hld⟩ := steps_three hr hxk
      obtain ⟨l0, l1, l2⟩ := hld wr hB
      have L1 := fun o => (bd.alloc o).cell 0 _ rfl
      have hB1 := fun o => hB.alloc (show u.heap.size ≤ wr.heap.size from hB.size) o
      have hJ1 := fun o => hJ _ _ _ hJs ((Below.refl W.heap.size wr).alloc (by omega) o)
      have A0 := fun o => b0.alloc o
      have A1 := fun o => Blk.alloc b1 o
      have A2 := fun o => b2.alloc o
      have Al := fun o => bl.alloc o
      have Ad := fun o => bd.alloc o
      have As := Blk.new wr 36 [.int .i64 x.f0, .int .i64 x.f1, .int .i64 x.f2]
      have HA0 := Lib.hid A0
      have HA1 := Lib.hid A1
      have HA2 := Lib.hid A2
      have HAl := Lib.hid Al
      have HAd := Lib.hid Ad
      have HAs := Lib.hid As
      have HX := Lib.hid hst'.out
      clear hld hxk hst hst' b0 b1 b2 bl bd A0 A1 A2 Al Ad As
      by_cases hgt : day < x.f1
      · have d1 := decide_eq_true hgt
        have HC := Lib.hid (fun o => HFIN.out (wr.alloc o) (hJ1 o) (HA0.out o) (HA1.out o) (HA2.out o) (by rw [hdk.out]; exact strL_gt hgt))
        clear HFIN hgt hdk
        gi_wp2
        refine (HC.out _).mono ?_
        rintro e W3 ⟨⟨v, rfl⟩, hr⟩
        gi_wp2
        go_end0
        exact ⟨⟨_, rfl⟩, hr⟩
      · have d1 := decide_eq_false hgt
        cases hk13 : (x.f0 == 1 || x.f0 == 3) with
        | true =>
          have hv := HX.out
          rw [strL_cut hgt hk13] at hv
          clear HFIN hgt hdk
          obtain ⟨c1, k1⟩ : ∃ c : Bool, (x.f0 == 1) = c := ⟨_, rfl⟩
          have k3 : (x.f0 == 3) = !c1 := by
            subst k1
            by_cases h : x.f0 = 1
            · simp [h]
            · simp [h] at hk13
              simp [hk13]
          clear hk13
          gi_wp2
          all_goals
            have A0 := HA0.out (Obj.cells #[Value.int IntKind.i64 x.f0, Value.int IntKind.i64 x.f1, Value.int IntKind.i64 x.f2] 36)
            have A1 := HA1.out (Obj.cells #[Value.int IntKind.i64 x.f0, Value.int IntKind.i64 x.f1, Value.int IntKind.i64 x.f2] 36)
            have A2 := HA2.out (Obj.cells #[Value.int IntKind.i64 x.f0, Value.int IntKind.i64 x.f1, Value.int IntKind.i64 x.f2] 36)
            have Al := HAl.out (Obj.cells #[Value.int IntKind.i64 x.f0, Value.int IntKind.i64 x.f1, Value.int IntKind.i64 x.f2] 36)
            have Ad := HAd.out (Obj.cells #[Value.int IntKind.i64 x.f0, Value.int IntKind.i64 x.f1, Value.int IntKind.i64 x.f2] 36)
            have As := HAs.out
            have AB := hB1 (Obj.cells #[Value.int IntKind.i64 x.f0, Value.int IntKind.i64 x.f1, Value.int IntKind.i64 x.f2] 36)
            have AJ := hJ1 (Obj.cells #[Value.int IntKind.i64 x.f0, Value.int IntKind.i64 x.f1, Value.int IntKind.i64 x.f2] 36)
            generalize wr.alloc (Obj.cells #[Value.int IntKind.i64 x.f0, Value.int IntKind.i64 x.f1, Value.int IntKind.i64 x.f2] 36) = Wa at A0 A1 A2 Al Ad As AB AJ ⊢
            have hcut := cut_in 2 (by omega) lr _ _ _ x.f1 from_ b Wa A2 A0 A1 (by omega) (by omega) (fun e W' => (e = .returned (.bool true) ∧ J (pre ++ [(wrap64 (x.f1 - from_), b)]) W' ∧ KeepsBut (fun k => k = lr ∨ (u.heap.size ≤ k ∧ k < n₁)) (Wa.setCell ⟨W.heap.size + 1 + 1, 0, none⟩ (.int .i64 x.f1)) W') ∨ (e = .returned (.bool false) ∧ Jx (pre ++ [(wrap64 (x.f1 - from_), b)]) W')) (by
              obtain ⟨fn, tmps, assign, body, hy, hR⟩ := hY pre (wrap64 (x.f1 - from_), b) (Wa.setCell ⟨W.heap.size + 1 + 1, 0, none⟩ (.int .i64 x.f1)) (hJ _ _ _ AJ ((KeepsBut.set (T := fun k => k = W.heap.size + 1 + 1) Wa _ _ _ rfl).below (by have := A2.lt; omega) (fun k hk => by omega))) ⟨strL day (takeV b x.f0 x.f2).1 x.f1 (l.drop (k + 1)), by rw [hv]; simp⟩
              refine ⟨fn, tmps, assign, body, hy, hR.mono ?_⟩
              rintro e W3 (⟨rfl, hJ3, hk3⟩ | ⟨rfl, hJx3⟩)
              · exact ⟨⟨true, rfl⟩, .inl ⟨rfl, hJ3, hk3⟩⟩
              · exact ⟨⟨false, rfl⟩, .inr ⟨rfl, hJx3⟩⟩)
            refine hcut.mono ?_
            clear hcut
            rintro e W3 (⟨rfl, hJ3, hk3⟩ | ⟨rfl, hJx3⟩)
            · have B0 := (A0.other (by omega) 0 (.int .i64 x.f1)).but hk3 (by omega)
              have B1 : BookAt W3 (W.heap.size + 1) b := (Blk.other A1 (by omega) 0 (.int .i64 x.f1)).but hk3 (by omega)
              have B2 := (A2.set 0 (.int .i64 x.f1)).but hk3 (by omega)
              have Bll := (Al.other (by omega) 0 (.int .i64 x.f1)).but hk3 (by omega)
              have Bdd := (Ad.other (by omega) 0 (.int .i64 x.f1)).but hk3 (by omega)
              have Bs := (As.other (by omega) 0 (.int .i64 x.f1)).but hk3 (by omega)
              have BB : Below u.heap.size u W3 := (AB.setCell (p := ⟨W.heap.size + 1 + 1, 0, none⟩) (by simp; omega) _).trans (hk3.below (by simp [World.setCell]; have := AB.size; omega) (fun k hk => by omega))
              have t0 := Bs.cell 0 _ rfl
              have t1 := Bs.cell 1 _ rfl
              have t2 := Bs.cell 2 _ rfl
              clear A0 A1 A2 Al Ad As AB AJ hk3 Bs
              gi_wp2
              refine (callsIn_wide.2 (take_calls b x.f0 x.f1 x.f2 (W.heap.size + 1) W3 B1 (fun W5 h5 => hgo W5 (BB.trans (h5.below BB.size (fun k hk => by omega)))))).mono ?_
              rintro e W4 ⟨rfl, hb4, hk4⟩
              have FR := Lib.hid (show J (pre ++ [(wrap64 (x.f1 - from_), b)]) W4 ∧ Blk W4 W.heap.size 60 [.func (.yield lr) #[] #[]] ∧ BookAt W4 (W.heap.size + 1) (takeV b x.f0 x.f2).1 ∧ Blk W4 (W.heap.size + 1 + 1) 3 [.int .i64 (x.f1)] ∧ Below u.heap.size u W4 ∧ Blk W4 Bl 22 [.slice (some ad) l.length c] ∧ Blk W4 Bd 3 [.int .i64 day] from
                ⟨hJ _ _ _ hJ3 (hk4.below (by have := B2.lt; omega) (fun k hk => by omega)), B0.but hk4 (by omega), hb4, B2.but hk4 (by omega), BB.trans (hk4.below BB.size (fun k hk => by omega)), Bll.but hk4 (by omega), Bdd.but hk4 (by omega)⟩)
              clear hb4 hk4 B0 B1 B2 BB hJ3 Bll Bdd
              gi_wp2
              go_roundw
              case rel => exact ⟨k + 1, _, _, _, by omega, by simp, FR.out.1, FR.out.2.1, FR.out.2.2.1, FR.out.2.2.2.1, FR.out.2.2.2.2.1, FR.out.2.2.2.2.2.1, FR.out.2.2.2.2.2.2, by unfold Hid; rw [hv]; try simp⟩
              case measure => simp [intOf]; omega
            · gi_wp2
              refine bodyPost_ret (results_none rfl _ _ _) rfl ?_
              exact ⟨⟨_, rfl⟩, .inr ⟨_, ⟨strL day (takeV b x.f0 x.f2).1 x.f1 (l.drop (k + 1)), by rw [hv]; simp⟩, hJx3⟩⟩
        | false =>
          have hv := HX.out
          rw [strL_on hgt hk13] at hv
          clear HFIN hgt hdk
          simp only [Bool.or_eq_false_iff] at hk13
          obtain ⟨k1, k3⟩ := hk13
          gi_wp2
          have A0 := HA0.out (Obj.cells #[Value.int IntKind.i64 x.f0, Value.int IntKind.i64 x.f1, Value.int IntKind.i64 x.f2] 36)
          have A1 := HA1.out (Obj.cells #[Value.int IntKind.i64 x.f0, Value.int IntKind.i64 x.f1, Value.int IntKind.i64 x.f2] 36)
          have A2 := HA2.out (Obj.cells #[Value.int IntKind.i64 x.f0, Value.int IntKind.i64 x.f1, Value.int IntKind.i64 x.f2] 36)
          have Al := HAl.out (Obj.cells #[Value.int IntKind.i64 x.f0, Value.int IntKind.i64 x.f1, Value.int IntKind.i64 x.f2] 36)
          have Ad := HAd.out (Obj.cells #[Value.int IntKind.i64 x.f0, Value.int IntKind.i64 x.f1, Value.int IntKind.i64 x.f2] 36)
          have As := HAs.out
          have AB := hB1 (Obj.cells #[Value.int IntKind.i64 x.f0, Value.int IntKind.i64 x.f1, Value.int IntKind.i64 x.f2] 36)
          have AJ := hJ1 (Obj.cells #[Value.int IntKind.i64 x.f0, Value.int IntKind.i64 x.f1, Value.int IntKind.i64 x.f2] 36)
          generalize wr.alloc (Obj.cells #[Value.int IntKind.i64 x.f0, Value.int IntKind.i64 x.f1, Value.int IntKind.i64 x.f2] 36) = Wa at A0 A1 A2 Al Ad As AB AJ ⊢
          refine (callsIn_wide.2 (take_calls b x.f0 x.f1 x.f2 (W.heap.size + 1) Wa A1 (fun W5 h5 => hgo W5 (AB.trans (h5.below AB.size (fun k hk => by omega)))))).mono ?_
          rintro e W4 ⟨rfl, hb4, hk4⟩
          have FR := Lib.hid (show J pre W4 ∧ Blk W4 W.heap.size 60 [.func (.yield lr) #[] #[]] ∧ BookAt W4 (W.heap.size + 1) (takeV b x.f0 x.f2).1 ∧ Blk W4 (W.heap.size + 1 + 1) 3 [.int .i64 (from_)] ∧ Below u.heap.size u W4 ∧ Blk W4 Bl 22 [.slice (some ad) l.length c] ∧ Blk W4 Bd 3 [.int .i64 day] from
            ⟨hJ _ _ _ AJ (hk4.below (by have := A2.lt; omega) (fun k hk => by omega)), A0.but hk4 (by omega), hb4, A2.but hk4 (by omega), AB.trans (hk4.below AB.size (fun k hk => by omega)), Al.but hk4 (by omega), Ad.but hk4 (by omega)⟩)
          clear hb4 hk4 A0 A1 A2 AB AJ Al Ad
          gi_wp2
          go_roundw
          case rel => exact ⟨k + 1, _, _, _, by omega, by simp, FR.out.1, FR.out.2.1, FR.out.2.2.1, FR.out.2.2.2.1, FR.out.2.2.2.2.1, FR.out.2.2.2.2.2.1, FR.out.2.2.2.2.2.2, by unfold Hid; rw [hv]; try simp⟩
          case measure => simp [intOf]; omega
    · obtain rfl : k = l.length := by omega
      have HC := Lib.hid (HFIN.out wr hJs b0 b1 b2 (by rw [List.drop_length]; rfl))
      clear hst b0 b1 b2 HFIN
      gi_wp2
      refine HC.out.mono ?_
      rintro e W3 ⟨⟨v, rfl⟩, hr⟩
      gi_wp2
      go_end0
      exact ⟨⟨_, rfl⟩, hr⟩
end Go.Proofs.YtdhnojfpgpjabaaDoor.P
